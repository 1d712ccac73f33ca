import Derived.Test.YtncdiodnbkhacaaDoorDPoi5
import Derived.Test.YtncdiodnbkhacaaDoorCards
import Derived.Test.YtncdiodnbkhacaaDoorProg
import Derived.Test.YtncdiodnbkhacaaDoorRows
import Derived.Test.YtncdiodnbkhacaaDoorTie
set_option linter.unusedVariables false
set_option linter.unusedSimpArgs false
section
namespace Go.Proofs.YtncdiodnbkhacaaDoor.N
set_option linter.unusedVariables false
set_option linter.unusedSimpArgs false
open Go Go.RowKit Go.Proofs.YtncdiodnbkhacaaDoorW.PrintWords Go.Proofs.YtncdiodnbkhacaaDoorW.PrintLast Go.Proofs.YtncdiodnbkhacaaDoorW.PrintMore Go.Proofs.YtncdiodnbkhacaaDoor.Pq
structure Two (X D top u2 v1 v2 Q xl dl : Int) : Prop where
 q : 0 < Q
 x : X=(top * 4294967296+u2) * Q+xl
 d : D=(v1 * 4294967296+v2) * Q+dl
 xl : 0≤xl∧xl < Q
 dl : 0≤dl∧dl < Q
 u2 : 0≤u2∧u2 < 4294967296
 v2 : 0≤v2∧v2 < 4294967296
 v1 : 0 < v1∧v1 < 4294967296
 top : 0≤top∧top < 18446744073709551616
 lt : X < 4294967296 * D
theorem Two.x0 {X D top u2 v1 v2 Q xl dl : Int} (h : Two X D top u2 v1 v2 Q xl dl) : 0≤X:=by
 have h1 : 0≤(top * 4294967296+u2) * Q:=Int.mul_nonneg (by have:=h.top;have:=h.u2;omega) (by have:=h.q;omega)
 have:=h.x
 have:=h.xl
 omega
theorem Two.d0 {X D top u2 v1 v2 Q xl dl : Int} (h : Two X D top u2 v1 v2 Q xl dl) : 4294967296 * Q≤D:=by
 have h1 : 4294967296 * Q≤(v1 * 4294967296+v2) * Q:=Int.mul_le_mul_of_nonneg_right (by have:=h.v1;have:=h.v2;omega) (by have:=h.q;omega)
 have:=h.d
 have:=h.dl
 omega
theorem Two.more {X D top u2 v1 v2 Q xl dl : Int} (h : Two X D top u2 v1 v2 Q xl dl) {g r : Int} (g0 : 0≤g) (e : g * v1+r=top) (hc : r * 4294967296+u2 < g * v2) : X < g * D:=by
 have h1 : (top * 4294967296+u2+1) * Q≤(g * (v1 * 4294967296+v2)) * Q:=Int.mul_le_mul_of_nonneg_right (by
  have : g * (v1 * 4294967296+v2)=(g * v1) * 4294967296+g * v2:=by grind
  rw [this]
  omega) (by have:=h.q;omega)
 have h2 : 0≤g * dl:=Int.mul_nonneg g0 h.dl.1
 have h3 : g * D=(g * (v1 * 4294967296+v2)) * Q+g * dl:=by rw [h.d];grind
 have h4 : (top * 4294967296+u2+1) * Q=(top * 4294967296+u2) * Q+Q:=by grind
 have:=h.x
 have:=h.xl
 omega
theorem Two.less {X D top u2 v1 v2 Q xl dl : Int} (h : Two X D top u2 v1 v2 Q xl dl) {g r : Int} (g0 : 0≤g) (g1 : g < 4294967296) (e : g * v1+r=top) (hc : g * v2≤r * 4294967296+u2) : (g - 1) * D≤X:=by
 have h1 : (g * (v1 * 4294967296+v2)) * Q≤(top * 4294967296+u2) * Q:=Int.mul_le_mul_of_nonneg_right (by
  have : g * (v1 * 4294967296+v2)=(g * v1) * 4294967296+g * v2:=by grind
  rw [this]
  omega) (by have:=h.q;omega)
 have h2 : g * dl≤4294967296 * dl:=Int.mul_le_mul_of_nonneg_right (by omega) h.dl.1
 have h3 : g * D=(g * (v1 * 4294967296+v2)) * Q+g * dl:=by rw [h.d];grind
 have h4 : (g - 1) * D=g * D - D:=by grind
 have:=h.x
 have:=h.xl
 have:=h.dl
 have:=h.d0
 omega
theorem Two.first {X D top u2 v1 v2 Q xl dl : Int} (h : Two X D top u2 v1 v2 Q xl dl) : X < (top / v1+1) * D:=by
 have e:=Int.emod_add_mul_ediv top v1
 have e1:=Int.emod_lt_of_pos top h.v1.1
 have h1 : (top+1)≤(top / v1+1) * v1:=by grind
 have q:=h.q
 have g0 : 0≤top / v1:=Int.ediv_nonneg h.top.1 (by have:=h.v1;omega)
 have h2 : (top+1) * (4294967296 * Q)≤(top / v1+1) * v1 * (4294967296 * Q):=Int.mul_le_mul_of_nonneg_right h1 (by omega)
 have h3 : v1 * (4294967296 * Q)≤D:=by
  rw [h.d]
  have : 0≤v2 * Q:=Int.mul_nonneg h.v2.1 (by omega)
  have:=h.dl
  grind
 have h4 : (top / v1+1) * (v1 * (4294967296 * Q))≤(top / v1+1) * D:=Int.mul_le_mul_of_nonneg_left h3 (by omega)
 have h5 : X < (top+1) * (4294967296 * Q):=by
  rw [h.x]
  have h6 : u2 * Q≤4294967295 * Q:=Int.mul_le_mul_of_nonneg_right (by have:=h.u2;omega) (by omega)
  have:=h.xl
  grind
 rw [← Int.mul_assoc] at h4
 omega
theorem Two.small {X D top u2 v1 v2 Q xl dl : Int} (h : Two X D top u2 v1 v2 Q xl dl) {g r : Int} (e : g * v1+r=top) (hr : 4294967296≤r) : g < 4294967296:=by
 have q:=h.q
 have h1 : top * 4294967296 * Q≤X:=by
  rw [h.x]
  have : 0≤u2 * Q:=Int.mul_nonneg h.u2.1 (by omega)
  have:=h.xl
  grind
 have h2 : D < (v1 * 4294967296+v2+1) * Q:=by
  rw [h.d]
  have:=h.dl
  grind
 have h3 : top < v1 * 4294967296+4294967296:=by
  rcases Int.lt_or_le top (v1 * 4294967296+4294967296) with k|k
  ·exact k
  ·exfalso
   have h4 : (v1 * 4294967296+v2+1) * Q≤top * Q:=Int.mul_le_mul_of_nonneg_right (by have:=h.v2;omega) (by omega)
   have:=h.lt
   have : top * 4294967296 * Q=4294967296 * (top * Q):=by grind
   omega
 have h5 : g * v1 < 4294967296 * v1:=by omega
 exact Int.lt_of_mul_lt_mul_right h5 (by have:=h.v1;omega)
structure Gs (X D top v1 g r : Int) : Prop where
 lt : X < (g+1) * D
 e : g * v1+r=top
 r : 0≤r∧r < 4294967296
 g : 0≤g∧g < 18446744073709551616
theorem Two.pos {X D top u2 v1 v2 Q xl dl : Int} (h : Two X D top u2 v1 v2 Q xl dl) {g : Int} (k : X < g * D) : 0 < g:=by
 rcases Int.lt_or_le 0 g with h1|h1
 ·exact h1
 ·exfalso
  have h2 : g * D≤0 * D:=Int.mul_le_mul_of_nonneg_right h1 (by have:=h.d0;have:=h.q;omega)
  have:=h.x0
  omega
end Go.Proofs.YtncdiodnbkhacaaDoor.N
end
section
namespace Go.Proofs.YtncdiodnbkhacaaDoor.N
set_option linter.unusedVariables false
set_option linter.unusedSimpArgs false
open Go Go.RowKit Go.Proofs.YtncdiodnbkhacaaDoorW.PrintWords Go.Proofs.YtncdiodnbkhacaaDoorW.PrintLast Go.Proofs.YtncdiodnbkhacaaDoorW.PrintMore Go.Proofs.YtncdiodnbkhacaaDoor.Pq
theorem guess_l {u v q : List Int} {sh : Int} (hu : W u) (hv : W v) {j n : Nat} (hn : v.length=n+2) (hlen : j+n+2 < u.length) (hul : u.length < 35184372088832) {X D top u2 v1 v2 Q xl dl : Int}
  (h : Two X D top u2 v1 v2 Q xl dl) (e1 : v1=rd v ((n+1 : Nat) : Int)) (e2 : v2=rd v (n : Int)) (eu : u2=rd u ((j+n : Nat) : Int)) (R : List Int × List Int)
  (next : ∀ g,0≤g→g < 4294967296→(g - 1) * D≤X→X < (g+1) * D→Ev (fun k=>nat_long.j4 k sh v u ((n+2 : Nat) : Int) q (j : Int) g) R) :
  ∀ (m : Nat) (g r : Int),g.toNat≤m→Gs X D top v1 g r→Ev (fun k=>nat_long.l2 k sh v u ((n+2 : Nat) : Int) q (j : Int) g r) R:=by
 have b2 : (n : Int) < (v.length : Int):=by omega
 have b4 : ((j+n : Nat) : Int) < (u.length : Int):=by omega
 have w1 : wrap64 (((n+2 : Nat) : Int) - 1)=((n+1 : Nat) : Int):=by unfold wrap64;omega
 have w2 : wrap64 (((n+2 : Nat) : Int) - 2)=(n : Int):=by unfold wrap64;omega
 have w3 : wrap64 (wrap64 ((j : Int)+((n+2 : Nat) : Int)) - 2)=((j+n : Nat) : Int):=by
  rw [show wrap64 ((j : Int)+((n+2 : Nat) : Int))=((j+n+2 : Nat) : Int) by unfold wrap64;omega]
  unfold wrap64
  omega
 have dpos : 0 < D:=by have:=h.d0;have:=h.q;omega
 have hv1:=h.v1
 have hv2:=h.v2
 have hu2:=h.u2
 have e0 : IntKind.u64.wrap (rd v ((n+1 : Nat) : Int))=v1:=by rw [← e1,wrap_u64_of (by omega) (by omega)]
 -- the way down by one
 have down : ∀ (m : Nat),(∀ (g r : Int),g.toNat≤m→Gs X D top v1 g r→Ev (fun k=>nat_long.l2 k sh v u ((n+2 : Nat) : Int) q (j : Int) g r) R) →
   ∀ (g r : Int),g.toNat≤m+1→Gs X D top v1 g r→X < g * D→Ev (fun k=>nat_long.j3 k sh v u ((n+2 : Nat) : Int) q (j : Int) g r true) R:=by
  intro m ih g r hm hg hlt
  have gp:=h.pos hlt
  have hr:=hg.r
  have gb:=hg.g
  have e' : (g - 1) * v1+(r+v1)=top:=by rw [Int.sub_mul,Int.one_mul];have:=hg.e;omega
  have hlt' : X < (g - 1+1) * D:=by rw [show g - 1+1=g by omega];exact hlt
  refine Ev_up ?_
  unfold nat_long.j3
  refine Ev_pos rfl ?_
  rw [w1,e0,wrap_u64_of (x:=r+v1) (by omega) (by omega),wrap_u64_of (x:=g - 1) (by omega) (by omega)]
  refine Ev_pos (by omega) ?_
  refine Ev_pos (by omega) ?_
  by_cases hb : r+v1 ≥ 4294967296
  ·refine Ev_pos hb ?_
   have gs:=h.small e' hb
   have h3 : (g - 1) * v2≤4294967296 * v2:=Int.mul_le_mul_of_nonneg_right (by omega) hv2.1
   exact next (g - 1) (by omega) gs (h.less (by omega) gs e' (by omega)) hlt'
  ·refine Ev_neg hb ?_
   exact ih (g - 1) (r+v1) (by omega) ⟨hlt',e',by omega,by omega⟩
 intro m
 have go : ∀ (g r : Int),(X < g * D→Ev (fun k=>nat_long.j3 k sh v u ((n+2 : Nat) : Int) q (j : Int) g r true) R)→Gs X D top v1 g r→Ev (fun k=>nat_long.l2 k sh v u ((n+2 : Nat) : Int) q (j : Int) g r) R:=by
  intro g r hdown hg
  have hr:=hg.r
  have gb:=hg.g
  refine Ev_up ?_
  unfold nat_long.l2
  by_cases hb : g ≥ 4294967296
  ·refine Ev_pos hb ?_
   refine hdown ?_
   have h1 : 4294967296 * D≤g * D:=Int.mul_le_mul_of_nonneg_right hb (by omega)
   have:=h.lt
   omega
  ·refine Ev_neg hb ?_
   refine Ev_pos (by omega) ?_
   have hm:=limb_mul (x:=g) (y:=v2) (o:=0) (c:=0) ⟨gb.1,by omega⟩ hv2 (by omega) (by omega)
   have ew : IntKind.u64.wrap (g * IntKind.u64.wrap (rd v (n : Int)))=g * v2:=by
    rw [← e2,wrap_u64_of hv2.1 (by omega),wrap_u64_of hm.1 (by omega)]
   have eo : Go.bits .or .u64 (IntKind.u64.wrap (r * 4294967296)) (IntKind.u64.wrap (rd u ((j+n : Nat) : Int)))=r * 4294967296+u2:=by
    rw [← eu,wrap_u64_of (x:=r * 4294967296) (by omega) (by omega),wrap_u64_of hu2.1 (by omega),or64_f hr hu2]
   rw [w2,w3,ew,eo]
   refine Ev_pos (Int.natCast_nonneg _) ?_
   refine Ev_pos b2 ?_
   refine Ev_pos (Int.natCast_nonneg _) ?_
   refine Ev_pos b4 ?_
   by_cases hc : g * v2 > r * 4294967296+u2
   ·rw [decide_eq_true hc]
    exact hdown (h.more gb.1 hg.e hc)
   ·rw [decide_eq_false hc]
    refine Ev_up ?_
    unfold nat_long.j3
    refine Ev_neg (by decide) ?_
    exact next g gb.1 (by omega) (h.less gb.1 (by omega) hg.e (by omega)) hg.lt
 induction m with
|zero =>
  intro g r hm hg
  refine go g r (fun hlt=>?_) hg
  have:=h.pos hlt
  omega
|succ m ih =>
  intro g r hm hg
  exact go g r (fun hlt=>down m ih g r hm hg hlt) hg
end Go.Proofs.YtncdiodnbkhacaaDoor.N
end
section
namespace Go.Proofs.YtncdiodnbkhacaaDoor.N
set_option linter.unusedVariables false
set_option linter.unusedSimpArgs false
open Go Go.RowKit Go.Proofs.YtncdiodnbkhacaaDoorW.PrintWords Go.Proofs.YtncdiodnbkhacaaDoorW.PrintLast Go.Proofs.YtncdiodnbkhacaaDoorW.PrintMore Go.Proofs.YtncdiodnbkhacaaDoor.Pq
theorem drop_eq {l m : List Int} {k : Nat} (hl : l.length=m.length) (h : ∀ i : Nat,k≤i→rd l (i : Int)=rd m (i : Int)) : l.drop k=m.drop k:=by
 apply List.ext_getElem (by simp [hl])
 intro i h1 h2
 have h3:=h (k+i) (by omega)
 simp only [List.length_drop] at h1 h2
 have e1 : rd l ((k+i : Nat) : Int)=l[k+i]:=by simp only [rd,Int.toNat_natCast,List.getD_eq_getElem?_getD,List.getElem?_eq_getElem (show k+i < l.length by omega),Option.getD_some]
 have e2 : rd m ((k+i : Nat) : Int)=m[k+i]:=by simp only [rd,Int.toNat_natCast,List.getD_eq_getElem?_getD,List.getElem?_eq_getElem (show k+i < m.length by omega),Option.getD_some]
 rw [e1,e2] at h3
 rw [List.getElem_drop,List.getElem_drop]
 exact h3
structure Dg (v : List Int) (A : Int) (N : Nat) (u q : List Int) (j : Nat) : Prop where
 wu : W u
 wq : W q
 lu : u.length=N
 lq : q.length+v.length=N
 lt : V u < P j * V v
 e : V u+V v * V q=A
 z : ∀ m : Nat,m < j→rd q (m : Int)=0
theorem Dg.top {v : List Int} {A : Int} {N : Nat} {u q : List Int} {j : Nat} (h : Dg v A N u q (j+1)) (hv : W v) : V (u.drop (j+v.length+1))=0:=by
 have h1:=V_split' u (j+v.length+1)
 have h2:=V_nonneg (W_take h.wu (j+v.length+1))
 have h3:=V_nonneg (W_drop h.wu (j+v.length+1))
 have h4 : P (j+1) * V v < P (j+1) * P v.length:=Int.mul_lt_mul_of_pos_left (V_lt hv) (P_pos _)
 rw [← P_add,show j+1+v.length=j+v.length+1 by omega] at h4
 have h5:=h.lt
 rcases (show V (u.drop (j+v.length+1))=0∨1≤V (u.drop (j+v.length+1)) by omega) with h6|h6
 ·exact h6
 ·have h7 : P (j+v.length+1) * 1≤P (j+v.length+1) * V (u.drop (j+v.length+1)):=Int.mul_le_mul_of_nonneg_left h6 (by have:=P_pos (j+v.length+1);omega)
  omega
theorem Dg.x {v : List Int} {A : Int} {N : Nat} {u q : List Int} {j : Nat} (h : Dg v A N u q (j+1)) : V (u.drop j) < 4294967296 * V v:=by
 have h1:=V_split' u j
 have h2:=V_nonneg (W_take h.wu j)
 have h3:=h.lt
 have h4 : P (j+1) * V v=P j * (4294967296 * V v):=by rw [P_succ];grind
 have h5 : P j * V (u.drop j) < P j * (4294967296 * V v):=by omega
 exact Int.lt_of_mul_lt_mul_left h5 (by have:=P_pos j;omega)
theorem Dg.next {v : List Int} {A : Int} {N : Nat} {u q u' : List Int} {j : Nat} (h : Dg v A N u q (j+1)) (hw : W u') (hl : u'.length=N) {t : Int} (ht : 0≤t∧t < 4294967296)
  (hV : V u'=V u - P j * (t * V v)) (h1 : V (u.drop j) < (t+1) * V v) (hj : j < q.length) : Dg v A N u' (q.set j t) j where
 wu:=hw
 wq:=W_set h.wq _ ht.1 ht.2
 lu:=hl
 lq:=by rw [List.length_set];exact h.lq
 lt:=by
  have h2:=V_split' u j
  have h3:=V_take_lt h.wu j
  have h4 : P j * (V (u.drop j)+1)≤P j * ((t+1) * V v):=Int.mul_le_mul_of_nonneg_left (by omega) (by have:=P_pos j;omega)
  have h5 : P j * ((t+1) * V v)=P j * (t * V v)+P j * V v:=by grind
  rw [Int.mul_add] at h4
  omega
 e:=by
  have h2:=h.e
  rw [V_set _ _ _ hj,h.z j (by omega),hV]
  grind
 z:=fun m hm=>by rw [rd_set_ne _ _ _ _ (by omega)];exact h.z m (by omega)
theorem V_lt_of_drop {l : List Int} (h : W l) {k : Nat} (hz : V (l.drop k)=0) : V l < P k:=by
 have h1:=V_split' l k
 have h2:=V_take_lt h k
 rw [hz,Int.mul_zero] at h1
 omega
theorem digit_b2 {U V1 V2 G D M T X b2 : Int} (hv1 : V1=U - G+M * 1) (hv2 : V2=V1+D - M * b2) (hb2 : b2=0∨b2=1) (k1 : G - D≤X) (hx : U=T+X) (T0 : 0≤T) (hlt : V2 < M) : b2=1:=by
 rcases hb2 with rfl|rfl
 ·exfalso
  omega
 ·rfl
theorem digit_lt {U V1 G M T X : Int} (hv1 : V1=U - G+M * 1) (hx : U=T+X) (T0 : 0≤T) (hlt : V1 < M) : X < G:=by omega
theorem digit_new {U V1 V2 G D M : Int} (hv1 : V1=U - G+M * 1) (hv2 : V2=V1+D - M * 1) : V2=U - (G - D):=by omega
theorem digit_steps {v : List Int} (hv : W v) {A : Int} {N : Nat} {u q : List Int} {j : Nat} (h : Dg v A N u q (j+1)) {g : Int} (hg : 0≤g∧g < 4294967296)
  (h0 : (g - 1) * V v≤V (u.drop j)) (h1 : V (u.drop j) < (g+1) * V v) (hj : j < q.length) :
  ∃ u1,W u1∧u1.length=N∧((nat_less.f u j v g=some (false,u1)∧Dg v A N u1 (q.set j g) j) ∨
   (nat_less.f u j v g=some (true,u1)∧0 < g ∧ ∃ u2,nat_back.f u1 j v=some u2∧Dg v A N u2 (q.set j (g - 1)) j)):=by
 have hlu:=h.lu
 have hlq:=h.lq
 have hjN : j+v.length < u.length:=by clear h0 h1;omega
 have htop:=h.top hv
 have X0:=Aside0.mk (V_split' u j)
 have XT:=Aside0.mk (V_nonneg (W_take h.wu j))
 have hPj:=Aside0.mk (P_pos j)
 have H0:=Aside0.mk h0
 have H1:=Aside0.mk h1
 clear h0 h1
 obtain ⟨u1,b,e1,hw1,hl1,hb,hrd1,HV1⟩:=less_f h.wu hv j hg hjN
 have hd1 : V (u1.drop (j+v.length+1))=0:=by rw [drop_eq hl1 (fun i hi=>hrd1 i (by omega)),htop]
 have hlt1:=Aside0.mk (V_lt_of_drop hw1 hd1)
 refine ⟨u1,hw1,by omega,?_⟩
 rcases hb with hb|hb
 ·subst hb
  refine .inl ⟨e1,h.next hw1 (by omega) hg ?_ H1.out hj⟩
  have hv1:=HV1.out
  rw [Int.mul_zero,Int.add_zero] at hv1
  exact hv1
 ·subst hb
  obtain ⟨u2,b2,e2,hw2,hl2,hb2,hrd2,HV2⟩:=back_f hw1 hv j (by omega)
  have hd2 : V (u2.drop (j+v.length+1))=0:=by rw [drop_eq hl2 (fun i hi=>hrd2 i (by omega)),hd1]
  have hlt2:=Aside0.mk (V_lt_of_drop hw2 hd2)
  have k2 : Aside0 (P j * ((g - 1) * V v)=P j * (g * V v) - P j * V v):=⟨by rw [Int.sub_mul,Int.one_mul,Int.mul_sub]⟩
  have k1 : Aside0 (P j * (g * V v) - P j * V v≤P j * V (u.drop j)):=⟨by
   rw [← k2.out]
   exact Int.mul_le_mul_of_nonneg_left H0.out (Int.le_of_lt hPj.out)⟩
  obtain rfl:=digit_b2 HV1.out HV2.out hb2 k1.out X0.out XT.out hlt2.out
  have k4 : Aside0 (V (u.drop j) < g * V v):=⟨Int.lt_of_mul_lt_mul_left (digit_lt HV1.out X0.out XT.out hlt1.out) (Int.le_of_lt hPj.out)⟩
  have gp : 0 < g:=by
   rcases Int.lt_or_le 0 g with h2|h2
   ·exact h2
   ·exfalso
    obtain rfl : g=0:=by omega
    have h3:=k4.out
    rw [Int.zero_mul] at h3
    have:=V_nonneg (W_drop h.wu j)
    omega
  refine .inr ⟨e1,gp,u2,e2,h.next hw2 (by omega) (by omega) ?_ ?_ hj⟩
  ·rw [k2.out]
   exact digit_new HV1.out HV2.out
  ·rw [Int.sub_add_cancel]
   exact k4.out
theorem digit {v : List Int} (hv : W v) {A : Int} {N : Nat} (hN : N < 35184372088832) {sh : Int} {u q : List Int} {j : Nat} (h : Dg v A N u q (j+1)) {g : Int} (hg : 0≤g∧g < 4294967296)
  (h0 : Aside0 ((g - 1) * V v≤V (u.drop j))) (h1 : Aside0 (V (u.drop j) < (g+1) * V v)) (hj : j < q.length) (R : List Int × List Int)
  (next : ∀ u' q',Dg v A N u' q' j→Ev (fun k=>nat_long.l1 k sh v u' (v.length : Int) q' ((j : Int) - 1)) R) :
  Ev (fun k=>nat_long.j4 k sh v u (v.length : Int) q (j : Int) g) R:=by
 have hlu:=h.lu
 have hlq:=h.lq
 have w1 : wrap64 (wrap64 ((j : Int)+(v.length : Int))+1)=((j+v.length+1 : Nat) : Int):=by
  rw [show wrap64 ((j : Int)+(v.length : Int))=((j+v.length : Nat) : Int) by unfold wrap64;omega]
  unfold wrap64
  omega
 have w2 : wrap64 ((j : Int) - 1)=(j : Int) - 1:=by unfold wrap64;omega
 have c2 : (j : Int) < ((j+v.length+1 : Nat) : Int):=by omega
 have c3 : ((j+v.length+1 : Nat) : Int)≤(u.length : Int):=by omega
 have c4 : (j : Int)+(v.length : Int) < ((j+v.length+1 : Nat) : Int):=by omega
 have c5 : (j : Int) < (q.length : Int):=by omega
 obtain ⟨u1,hw1,hl1,hs⟩:=digit_steps hv h hg h0.out h1.out hj
 refine Ev_up ?_
 unfold nat_long.j4
 rw [w1,w2,Int.toNat_natCast]
 refine Ev_pos (Int.natCast_nonneg _) ?_
 refine Ev_pos c2 ?_
 refine Ev_pos c3 ?_
 refine Ev_pos c4 ?_
 rcases hs with ⟨e1,hd⟩|⟨e1,gp,u2,e2,hd⟩
 ·refine Ev_some e1 ?_
  refine Ev_neg (by simp) ?_
  refine Ev_pos c5 ?_
  rw [show g % 4294967296=g by omega]
  exact next _ _ hd
 ·refine Ev_some e1 ?_
  refine Ev_pos rfl ?_
  refine Ev_some e2 ?_
  refine Ev_pos c5 ?_
  rw [wrap_u64_of (x:=g - 1) (by omega) (by omega),show (g - 1) % 4294967296=g - 1 by omega]
  exact next _ _ hd
theorem Dg.two {v : List Int} (hv : W v) {A : Int} {N n : Nat} {u q : List Int} {j : Nat} (h : Dg v A N u q (j+1)) (hn : v.length=n+2) (hp : 0 < rd v ((n+1 : Nat) : Int)) :
  Two (V (u.drop j)) (V v) (rd u ((j+n+2 : Nat) : Int) * 4294967296+rd u ((j+n+1 : Nat) : Int)) (rd u ((j+n : Nat) : Int)) (rd v ((n+1 : Nat) : Int)) (rd v (n : Int)) (P n) (V ((u.drop j).take n)) (V (v.take n)) where
 q:=P_pos n
 x:=by
  have h1:=V_split' (u.drop j) n
  rw [List.drop_drop,V_drop u (j+n),V_drop u (j+n+1),V_drop u (j+n+1+1)] at h1
  have h2:=h.top hv
  rw [hn] at h2
  rw [show j+n+1+1+1=j+(n+2)+1 by omega,h2,show j+n+1+1=j+n+2 by omega] at h1
  rw [h1]
  grind
 d:=by
  have h1:=V_split' v n
  rw [V_drop v n,V_drop v (n+1),List.drop_of_length_le (by omega),V_nil] at h1
  rw [h1]
  grind
 xl:=⟨V_nonneg (W_take (W_drop h.wu j) n),V_take_lt (W_drop h.wu j) n⟩
 dl:=⟨V_nonneg (W_take hv n),V_take_lt hv n⟩
 u2:=W_rd h.wu _
 v2:=W_rd hv _
 v1:=⟨hp,(W_rd hv _).2⟩
 top:=by
  have h1:=W_rd h.wu ((j+n+2 : Nat) : Int)
  have h2:=W_rd h.wu ((j+n+1 : Nat) : Int)
  omega
 lt:=h.x
theorem Two.start {X D top u2 v1 v2 Q xl dl : Int} (h : Two X D top u2 v1 v2 Q xl dl) : Gs X D top v1 (top / v1) (top % v1) where
 lt:=h.first
 e:=by
  have:=Int.emod_add_mul_ediv top v1
  rw [Int.mul_comm]
  omega
 r:=by
  have h1:=h.v1
  have h2:=Int.emod_nonneg top (show v1≠0 by omega)
  have h3:=Int.emod_lt_of_pos top h1.1
  omega
 g:=by
  have h1:=h.top
  have h2:=Int.ediv_nonneg h1.1 (Int.le_of_lt h.v1.1)
  have h3:=Int.ediv_le_self v1 h1.1
  omega
theorem v_pos {v : List Int} (hv : W v) {n : Nat} (hn : v.length=n+2) (hp : 0 < rd v ((n+1 : Nat) : Int)) : 0 < V v:=by
 have h1:=V_split' v (n+1)
 have h2:=V_nonneg (W_take hv (n+1))
 rw [V_drop v (n+1),List.drop_of_length_le (by omega),V_nil,Int.mul_zero,Int.add_zero] at h1
 have h4 : 0 < P (n+1) * rd v ((n+1 : Nat) : Int):=Int.mul_pos (P_pos (n+1)) hp
 omega
theorem Dg.done {v : List Int} (hv : W v) (hvp : 0 < V v) {A : Int} {N : Nat} {u q : List Int} (h : Dg v A N u q 0) : V q=A / V v∧V (u.take v.length)=A % V v:=by
 have hlt:=h.lt
 have hge:=V_nonneg h.wu
 rw [P_zero,Int.one_mul] at hlt
 have e:=h.e
 have h2 : V (u.take v.length)=V u:=by
  have h3:=V_split' u v.length
  have h4:=V_nonneg (W_drop h.wu v.length)
  have h5:=V_lt hv
  have h6:=V_nonneg (W_take h.wu v.length)
  rcases (show V (u.drop v.length)=0∨1≤V (u.drop v.length) by omega) with h7|h7
  ·rw [h7,Int.mul_zero] at h3
   omega
  ·have h8 : P v.length * 1≤P v.length * V (u.drop v.length):=Int.mul_le_mul_of_nonneg_left h7 (by have:=P_pos v.length;omega)
   omega
 have d1 : A / V v=V q:=by rw [← e,Int.add_mul_ediv_left _ _ (by omega),Int.ediv_eq_zero_of_lt hge hlt];omega
 have d2 : A % V v=V u:=by rw [← e,Int.add_mul_emod_self_left,Int.emod_eq_of_lt hge hlt]
 exact ⟨d1.symm,by rw [h2,d2]⟩
theorem long_l1 {v : List Int} (hv : W v) {n : Nat} (hn : v.length=n+2) (hp : 0 < rd v ((n+1 : Nat) : Int)) {A : Int} {N : Nat} (hN : N < 35184372087809) {r : Nat} (hr : r < 32) : ∀ (j : Nat) (u q : List Int),j≤q.length→Dg v A N u q j →
  Ev (fun k=>nat_long.l1 k (r : Int) v u (v.length : Int) q ((j : Int) - 1)) (L (A / V v),L (A % V v / 2 ^ r)):=by
 have hvp:=Aside0.mk (v_pos hv hn hp)
 intro j
 induction j with
|zero =>
  intro u q hj h
  have hlu:=h.lu
  have hlq:=h.lq
  have hd:=h.done hv hvp.out
  have c1 : ((v.length : Nat) : Int)≤(u.length : Int):=by omega
  have c2 : (u.take v.length).length < 35184372087809:=by rw [List.length_take];omega
  refine Ev_up ?_
  unfold nat_long.l1
  refine Ev_neg (by omega) ?_
  refine Ev_some (trim_f h.wq) ?_
  refine Ev_pos (Int.natCast_nonneg _) ?_
  refine Ev_pos c1 ?_
  rw [Int.toNat_natCast]
  refine Ev.bind (nshr_f (W_take h.wu _) c2 hr) ?_
  refine Ev_now ?_
  rw [hd.1,hd.2]
|succ j ih =>
  intro u q hj h
  have hlu:=h.lu
  have hlq:=h.lq
  have w0 : ((j+1 : Nat) : Int) - 1=(j : Int):=by omega
  have w1 : wrap64 ((j : Int)+(v.length : Int))=((j+n+2 : Nat) : Int):=by unfold wrap64;omega
  have w2 : wrap64 (((j+n+2 : Nat) : Int) - 1)=((j+n+1 : Nat) : Int):=by unfold wrap64;omega
  have w3 : wrap64 ((v.length : Int) - 1)=((n+1 : Nat) : Int):=by unfold wrap64;omega
  have c1 : ((j+n+2 : Nat) : Int) < (u.length : Int):=by omega
  have c2 : ((j+n+1 : Nat) : Int) < (u.length : Int):=by omega
  have c3 : ((n+1 : Nat) : Int) < (v.length : Int):=by omega
  have c4 : j+n+2 < u.length:=by omega
  have c5 : u.length < 35184372088832:=by omega
  have c6 : N < 35184372088832:=by omega
  have c7 : j < q.length:=by omega
  have c8 : ((v.length : Int))=((n+2 : Nat) : Int):=by omega
  have h2:=h.two hv hn hp
  have hs:=h2.start
  have r0:=W_rd h.wu ((j+n+2 : Nat) : Int)
  have r1:=W_rd h.wu ((j+n+1 : Nat) : Int)
  have rv:=W_rd hv ((n+1 : Nat) : Int)
  have htop:=h2.top
  have eo : Go.bits .or .u64 (IntKind.u64.wrap (IntKind.u64.wrap (rd u ((j+n+2 : Nat) : Int)) * 4294967296)) (IntKind.u64.wrap (rd u ((j+n+1 : Nat) : Int)))=rd u ((j+n+2 : Nat) : Int) * 4294967296+rd u ((j+n+1 : Nat) : Int):=by
   rw [wrap_u64_of (x:=rd u ((j+n+2 : Nat) : Int)) (by omega) (by omega),wrap_u64_of (x:=rd u ((j+n+2 : Nat) : Int) * 4294967296) (by omega) (by omega),wrap_u64_of (x:=rd u ((j+n+1 : Nat) : Int)) (by omega) (by omega),or64_f r0 r1]
  have ev : IntKind.u64.wrap (rd v ((n+1 : Nat) : Int))=rd v ((n+1 : Nat) : Int):=wrap_u64_of (by omega) (by omega)
  have wg:=wrap_u64_of hs.g.1 hs.g.2
  have np : ¬ rd v ((n+1 : Nat) : Int)=0:=by omega
  refine Ev_up ?_
  unfold nat_long.l1
  rw [w0,w1,w2,w3,eo,ev,Int.tdiv_eq_ediv_of_nonneg htop.1,Int.tmod_eq_emod_of_nonneg htop.1,wg]
  refine Ev_pos (Int.natCast_nonneg _) ?_
  refine Ev_pos (Int.natCast_nonneg _) ?_
  refine Ev_pos c1 ?_
  refine Ev_pos (Int.natCast_nonneg _) ?_
  refine Ev_pos c2 ?_
  refine Ev_pos (Int.natCast_nonneg _) ?_
  refine Ev_pos c3 ?_
  refine Ev_neg np ?_
  rw [c8]
  refine guess_l h.wu hv hn c4 c5 h2 rfl rfl rfl _ (fun g' ga gb gc gd=>?_) _ _ _ (Nat.le_refl _) hs
  rw [← c8]
  exact digit hv c6 h ⟨ga,gb⟩ ⟨gc⟩ ⟨gd⟩ c7 _ (fun u' q' hd=>ih u' q' (by have:=hd.lq;omega) hd)
end Go.Proofs.YtncdiodnbkhacaaDoor.N
end
section
namespace Go.Proofs.YtncdiodnbkhacaaDoor.N
set_option linter.unusedVariables false
set_option linter.unusedSimpArgs false
open Go Go.RowKit Go.Proofs.YtncdiodnbkhacaaDoorW.PrintWords Go.Proofs.YtncdiodnbkhacaaDoorW.PrintLast Go.Proofs.YtncdiodnbkhacaaDoorW.PrintMore Go.Proofs.YtncdiodnbkhacaaDoor.Pq
theorem shifted_length {y : Int} (hy : 0 < y) {i r : Nat} (hi : (L y).length=i+1) (hr : (r : Int)=32 - bl (rd (L y) (i : Int))) (hp : 0 < rd (L y) (i : Int)) : (L (y * 2 ^ r)).length=i+1:=by
 have h1:=bl_V (W_L y) i hi hp
 rw [V_L (by omega)] at h1
 have h2:=bl_shift hy r
 have hpow : (0 : Int) < 2 ^ r:=Int.pow_pos (by decide)
 have hpos : 0 < y * 2 ^ r:=Int.mul_pos hy hpow
 have h3:=bl_log hpos
 have h4 : bl (y * 2 ^ r)=((y * 2 ^ r).toNat.log2 : Int)+1:=bl_of h3.1 h3.2
 have h5 : (y * 2 ^ r).toNat.log2+1=32 * (i+1):=by omega
 rw [h5,← P_pow] at h3
 have h6 : P i≤2 ^ (y * 2 ^ r).toNat.log2:=by
  rw [P_pow]
  exact two_pow_mono (by omega)
 have h7:=L_length_le (i+1) h3.2
 have h8:=L_length_lt (Int.le_trans h6 h3.1)
 omega
theorem L_le {x : Int} (h0 : 0≤x) : x < P (L x).length:=by
 have:=V_lt (W_L x)
 rwa [V_L h0] at this
theorem P_le_of_length {y : Int} (hy : 0≤y) {i : Nat} (hi : (L y).length=i+1) : P i≤y:=by
 rcases Int.lt_or_le y (P i) with h|h
 ·have:=L_length_le i h
  omega
 ·exact h
theorem long_l0 {a v : List Int} {A : Int} {r : Nat} {R : List Int × List Int} (ha : a.length < 35184372087800) {n : Nat} (hn : n≤a.length)
  (next : ∀ u,W u→u.length=a.length+1→Aside0 (V u=A)→Ev (fun k=>nat_long.l1 k (r : Int) v u (n : Int) (List.replicate (a.length+1 - n) 0) (((a.length+1 - n : Nat) : Int) - 1)) R) :
  ∀ (d : Nat) (u : List Int),a.length+1 - u.length=d→u.length≤a.length+1→W u→Aside0 (V u=A)→Ev (fun k=>nat_long.l0 k a (r : Int) v u (n : Int)) R:=by
 intro d
 induction d with
|zero =>
  intro u hd hl hw hv
  have hul : u.length=a.length+1:=by omega
  have w1 : wrap64 ((u.length : Int) - (n : Int))=((a.length+1 - n : Nat) : Int):=by unfold wrap64;omega
  have w2 : wrap64 (((a.length+1 - n : Nat) : Int) - 1)=((a.length+1 - n : Nat) : Int) - 1:=by unfold wrap64;omega
  refine Ev_up ?_
  unfold nat_long.l0
  rw [w1,w2,Int.toNat_natCast]
  refine Ev_neg (by omega) ?_
  refine Ev_pos (Int.natCast_nonneg _) ?_
  refine Ev_pos (by omega) ?_
  exact next u hw hul hv
|succ d ih =>
  intro u hd hl hw hv
  refine Ev_up ?_
  unfold nat_long.l0
  refine Ev_pos (by omega) ?_
  refine Ev_pos (by omega) ?_
  refine ih (u++[0]) (by simp;omega) (by simp;omega) (W_append hw (W_one (by decide) (by decide))) ⟨?_⟩
  rw [V_snoc,Int.mul_zero,Int.add_zero]
  exact hv.out
theorem dg_start {x y : Int} {v u : List Int} {i r la : Nat} (hx0 : 0≤x) (hxl : x < P la) (hyl : P i≤y) (hvv : V v=y * 2 ^ r) (hvl : v.length=i+1) (hila : i+1≤la)
  (hu : W u) (hul : u.length=la+1) (huv : V u=x * 2 ^ r) : Dg v (x * 2 ^ r) (la+1) u (List.replicate (la+1 - (i+1)) 0) (la+1 - (i+1)) where
 wu:=hu
 wq:=W_replicate _
 lu:=hul
 lq:=by rw [List.length_replicate];omega
 lt:=by
  have hpow : (0 : Int) < 2 ^ r:=Int.pow_pos (by decide)
  have h1 : P (la+1 - (i+1)) * P i≤P (la+1 - (i+1)) * y:=Int.mul_le_mul_of_nonneg_left hyl (Int.le_of_lt (P_pos _))
  rw [← P_add,show la+1 - (i+1)+i=la by omega] at h1
  have h2 : x * 2 ^ r < P (la+1 - (i+1)) * y * 2 ^ r:=Int.mul_lt_mul_of_pos_right (Int.lt_of_lt_of_le hxl h1) hpow
  rw [huv,hvv,← Int.mul_assoc]
  exact h2
 e:=by rw [V_replicate,Int.mul_zero,Int.add_zero,huv]
 z:=fun m _=>rd_replicate _ _
theorem lz_f {t : Int} (h0 : 0 < t) (h1 : t < 4294967296) : bits_LeadingZeros32.f t=some (32 - bl t):=by
 have h2:=bl_pos h0
 have h3:=bl_32 h1
 unfold bits_LeadingZeros32.f
 rw [len32_f (Int.le_of_lt h0) h1,Option.bind_some,show wrap64 (32 - bl t)=32 - bl t by unfold wrap64;omega]
theorem div_shift {x y : Int} (hy : 0 < y) (r : Nat) : x * 2 ^ r / (y * 2 ^ r)=x / y∧x * 2 ^ r % (y * 2 ^ r) / 2 ^ r=x % y:=by
 have hpow : (0 : Int) < 2 ^ r:=Int.pow_pos (by decide)
 constructor
 ·exact Int.mul_ediv_mul_of_pos_left x y hpow
 ·rw [Int.mul_comm x,Int.mul_comm y,Int.mul_emod_mul_of_pos _ _ hpow,Int.mul_comm]
  exact Int.mul_ediv_cancel _ (by omega)
theorem long_f {x y : Int} (hy : 0 < y) (hyx : y≤x) (h2 : 2≤(L y).length) (hl : (L x).length < 35184360000000) : Ev (fun k=>nat_long.f k (L x) (L y)) (L (x / y),L (x % y)):=by
 obtain ⟨i,hi,hp⟩:=rd_last hy
 have rt:=W_rd (W_L y) (i : Int)
 have hb1:=bl_pos hp
 have hb2:=bl_32 rt.2
 obtain ⟨r,hr⟩ : ∃ r : Nat,(r : Int)=32 - bl (rd (L y) (i : Int)):=⟨(32 - bl (rd (L y) (i : Int))).toNat,by omega⟩
 have hr32 : r < 32:=by omega
 have hr65 : (r : Int)≤65536:=by omega
 have hx0 : 0≤x:=by omega
 have hy0 : 0≤y:=by omega
 have hxl:=L_le hx0
 have hyl:=P_le_of_length hy0 hi
 have hvl:=shifted_length hy hi hr hp
 have hila : i+1≤(L x).length:=by
  have:=L_length_lt (Int.le_trans hyl hyx)
  omega
 have hpow : (0 : Int) < 2 ^ r:=Int.pow_pos (by decide)
 have hys : 0 < y * 2 ^ r:=Int.mul_pos hy hpow
 have hxs : 0≤x * 2 ^ r:=Int.mul_nonneg hx0 (by omega)
 have hvv : V (L (y * 2 ^ r))=y * 2 ^ r:=V_L (by omega)
 have huv : V (L (x * 2 ^ r))=x * 2 ^ r:=V_L hxs
 obtain ⟨n,rfl⟩ : ∃ n,i=n+1:=⟨i - 1,by omega⟩
 obtain ⟨i',hi',hp'⟩:=rd_last hys
 have hii : i'=n+1:=by omega
 subst hii
 have hul : (L (x * 2 ^ r)).length≤(L x).length+1:=by
  refine L_length_le _ ?_
  rw [P_succ,Int.mul_comm 4294967296]
  have h3:=two_pow_le hr32
  have h4 : x * 2 ^ r < P (L x).length * 2 ^ r:=Int.mul_lt_mul_of_pos_right hxl hpow
  have h5 : P (L x).length * 2 ^ r≤P (L x).length * 4294967296:=Int.mul_le_mul_of_nonneg_left h3 (Int.le_of_lt (P_pos _))
  omega
 have w1 : wrap64 (((L y).length : Int) - 1)=((n+1 : Nat) : Int):=by unfold wrap64;omega
 have c1 : ((n+1 : Nat) : Int) < ((L y).length : Int):=by omega
 have c2 : (L y).length < 35184370000000:=by omega
 have c3 : (L x).length < 35184370000000:=by omega
 have c4 : (L x).length < 35184372087800:=by omega
 have c5 : (L x).length+1 < 35184372087809:=by omega
 have c6 : (L (y * 2 ^ r)).length≤(L x).length:=by omega
 have s1:=nshl_f (W_L y) c2 (r : Int)
 have s2:=nshl_f (W_L x) c3 (r : Int)
 rw [V_L hy0,shS_ok (Int.natCast_nonneg _) hr65,Int.toNat_natCast] at s1
 rw [V_L hx0,shS_ok (Int.natCast_nonneg _) hr65,Int.toNat_natCast] at s2
 have hds:=div_shift (x:=x) hy r
 unfold nat_long.f
 rw [w1]
 refine Ev_pos (Int.natCast_nonneg _) ?_
 refine Ev_pos c1 ?_
 refine Ev_some (lz_f hp rt.2) ?_
 rw [← hr]
 refine Ev.bind s1 ?_
 refine Ev.bind s2 ?_
 refine long_l0 c4 c6 (A:=x * 2 ^ r) (fun u hu hul' huv'=>?_) _ _ rfl hul (W_L _) ⟨huv⟩
 have hdg:=dg_start hx0 hxl hyl hvv (by omega : (L (y * 2 ^ r)).length=n+1+1) hila hu hul' huv'.out
 have e:=long_l1 (W_L (y * 2 ^ r)) hi' hp' c5 hr32 _ u _ (by rw [List.length_replicate];exact Nat.le_refl _) hdg
 rw [hvv,hds.1,hds.2] at e
 rw [hvl]
 rw [hvl] at e
 exact e
def dmS (x y : Int) : List Int × List Int × Bool:=if y=0 then ([],[],false) else (L (x / y),L (x % y),true)
theorem ndm_f {a b : List Int} (ha : W a) (hb : W b) (sa : a.length < 35184360000000) (sb : b.length < 35184360000000) : Ev (fun k=>nat_DivMod.f k a b) (dmS (V a) (V b)):=by
 have va:=V_nonneg ha
 have vb:=V_nonneg hb
 have la:=L_len_le ha
 have lb:=L_len_le hb
 have hsa : Sm (L (V a)):=by unfold Sm;omega
 have hsb : Sm (L (V b)):=by unfold Sm;omega
 have sa' : (L (V a)).length < 35184372087809:=by omega
 have sa2 : (L (V a)).length < 35184360000000:=by omega
 refine Ev_some (trim_f ha) ?_
 refine Ev_some (trim_f hb) ?_
 generalize V a=x at *
 generalize V b=y at *
 unfold dmS
 by_cases hy : y=0
 ·subst hy
  rw [if_pos rfl,L_zero]
  refine Ev_pos rfl ?_
  exact Ev.now _
 ·rw [if_neg hy]
  have hne : (L y).length≠0:=fun e=>hy ((L_nil_iff vb).1 (List.eq_nil_of_length_eq_zero e))
  have hyp : 0 < y:=by omega
  have n1 : ¬ ((L y).length : Int)=0:=by omega
  have hc:=ncmp_f (W_L x) (W_L y) hsa hsb
  rw [V_L va,V_L vb] at hc
  refine Ev_neg n1 ?_
  refine Ev.bind hc ?_
  by_cases h : x < y
  ·refine Ev_pos (cm_neg.2 h) ?_
   have hn:=norm_f (W_L x) hsa
   rw [V_L va] at hn
   refine Ev_some hn ?_
   rw [Int.ediv_eq_zero_of_lt va h,Int.emod_eq_of_lt va h,L_zero]
   exact Ev.now _
  ·refine Ev_neg (fun e=>h (cm_neg.1 e)) ?_
   by_cases h1 : ((L y).length : Int)=1
   ·refine Ev_pos h1 ?_
    refine Ev_pos (by omega) ?_
    obtain ⟨z,hz⟩:=List.length_eq_one_iff.1 (show (L y).length=1 by omega)
    have hv:=V_L vb
    rw [hz,V_one] at hv
    subst hv
    have hw:=W_L z
    rw [hz] at hw
    have hzb:=hw z (List.mem_singleton.2 rfl)
    have hs:=small_f (W_L x) (dv:=z) ⟨hyp,hzb.2⟩ sa'
    rw [V_L va] at hs
    rw [hz]
    refine Ev.bind hs ?_
    exact Ev.now _
   ·refine Ev_neg h1 ?_
    refine Ev.bind (long_f hyp (by omega) (by omega) sa2) ?_
    exact Ev.now _
end Go.Proofs.YtncdiodnbkhacaaDoor.N
end
section
namespace Go.Proofs.YtncdiodnbkhacaaDoor.N
set_option linter.unusedVariables false
set_option linter.unusedSimpArgs false
open Go Go.RowKit Go.Proofs.YtncdiodnbkhacaaDoorW.PrintWords Go.Proofs.YtncdiodnbkhacaaDoorW.PrintLast Go.Proofs.YtncdiodnbkhacaaDoorW.PrintMore Go.Proofs.YtncdiodnbkhacaaDoor.Pq
theorem Nm.zero : Nm (N.L 0) 0 0:=by rw [L_zero];exact Nm.nil
theorem Nm.dm {a b : List Int} {m n : Nat} {x y : Int} (h : Nm a m x) (k : Nm b n y) (hm : m < 35184360000000) (hn : n < 35184360000000) : Ev (fun r=>nat_DivMod.f r a b) (dmS x y):=by
 have h1:=h.le
 have h2:=k.le
 have e:=ndm_f h.w k.w (by omega) (by omega)
 rwa [h.v,k.v] at e
end Go.Proofs.YtncdiodnbkhacaaDoor.N
end
section
namespace Go.Proofs.YtncdiodnbkhacaaDoor.N
set_option linter.unusedVariables false
set_option linter.unusedSimpArgs false
open Go Go.RowKit Go.Proofs.YtncdiodnbkhacaaDoorW.PrintWords Go.Proofs.YtncdiodnbkhacaaDoorW.PrintLast Go.Proofs.YtncdiodnbkhacaaDoorW.PrintMore Go.Proofs.YtncdiodnbkhacaaDoor.Pq
def gz (x y : Int) : Int:=(Int.gcd x y : Int)
theorem gz_nonneg (x y : Int) : 0≤gz x y:=Int.natCast_nonneg _
theorem gz_nat (m n : Nat) : gz (m : Int) (n : Int)=(Nat.gcd m n : Int):=by
 unfold gz
 rw [Int.gcd_natCast_natCast]
theorem gz_zero {x : Int} (h : 0≤x) : gz x 0=x:=by
 obtain ⟨m,rfl⟩:=Int.eq_ofNat_of_zero_le h
 have:=gz_nat m 0
 rw [Nat.gcd_zero_right] at this
 exact this
theorem gz_step {x y : Int} (hx : 0≤x) (hy : 0≤y) : gz y (x % y)=gz x y:=by
 obtain ⟨m,rfl⟩:=Int.eq_ofNat_of_zero_le hx
 obtain ⟨n,rfl⟩:=Int.eq_ofNat_of_zero_le hy
 have e : ((m : Int) % (n : Int))=((m % n : Nat) : Int):=rfl
 rw [e,gz_nat,gz_nat,Nat.gcd_comm n,← Nat.gcd_rec,Nat.gcd_comm]
theorem gz_comm (x y : Int) : gz x y=gz y x:=by unfold gz;rw [Int.gcd_comm]
theorem gz_dvd_left (x y : Int) : gz x y ∣ x:=Int.gcd_dvd_left ..
theorem gz_dvd_right (x y : Int) : gz x y ∣ y:=Int.gcd_dvd_right ..
theorem gz_lt {x y B : Int} (hx : 0≤x) (hy : 0≤y) (hxB : x < B) (hyB : y < B) : gz x y < B:=by
 rcases Int.lt_or_eq_of_le hx with h|h
 ·have:=Int.le_of_dvd h (gz_dvd_left x y)
  omega
 ·subst h
  rw [gz_comm,gz_zero hy]
  exact hyB
theorem L_len0 {x : Int} (h : 0≤x) : ((L x).length : Int)=0↔x=0:=by
 rw [← L_nil_iff h]
 constructor
 ·intro e;exact List.eq_nil_of_length_eq_zero (by omega)
 ·intro e;rw [e];rfl
theorem dmS_pos {x y : Int} (h : 0 < y) : dmS x y=(L (x / y),L (x % y),true):=if_neg (by omega)
theorem gcd_l0 {N : Nat} (hN : N < 35184360000000) : ∀ (M : Nat) (x y : Int),y.toNat < M→0≤x→0≤y→x < P N→y < P N→Ev (fun k=>root_Gcd.l0 k (L x) (L y)) (L (gz x y)):=by
 intro M
 induction M with
|zero=>intro x y h;omega
|succ M ih =>
  intro x y hM hx hy hxN hyN
  have hl:=L_len0 hy
  refine Ev_up ?_
  unfold root_Gcd.l0
  by_cases h0 : y=0
  ·have h1 : ¬ ((L y).length : Int) > 0:=by rw [hl.2 h0];decide
   refine Ev_neg h1 ?_
   refine Ev_now ?_
   rw [h0,gz_zero hx]
  ·have hp : 0 < y:=by omega
   have h1 : ((L y).length : Int) > 0:=by
    have : ((L y).length : Int)≠0:=fun e=>h0 (hl.1 e)
    omega
   have m0:=Int.emod_nonneg x h0
   have m1:=Int.emod_lt_of_pos x hp
   refine Ev_pos h1 ?_
   refine Ev.bind ((Nm.L hx hxN).dm (Nm.L hy hyN) hN hN) ?_
   rw [dmS_pos hp,← gz_step hx hy]
   exact ih y (x % y) (by omega) hy m0 hyN (by omega)
theorem Nm.gcd {a b : List Int} {m n : Nat} {x y : Int} (h : Nm a m x) (k : Nm b n y) (hm : m < 17592180000000) (hn : n < 17592180000000) : Ev (fun r=>root_Gcd.f r a b) (N.L (gz x y)):=by
 refine Ev_some (h.nrm (by omega)) ?_
 refine Ev_some (k.nrm (by omega)) ?_
 exact gcd_l0 (N:=m+n) (by omega) _ x y (Nat.lt_succ_self _) h.pos k.pos (Int.lt_of_lt_of_le h.lt (P_le (by omega))) (Int.lt_of_lt_of_le k.lt (P_le (by omega)))
theorem Nm.gcdL {a b : List Int} {m n : Nat} {x y : Int} (h : Nm a m x) (k : Nm b n y) : Nm (N.L (gz x y)) (m+n) (gz x y) :=
 Nm.L (gz_nonneg x y) (gz_lt h.pos k.pos (Int.lt_of_lt_of_le h.lt (P_le (by omega))) (Int.lt_of_lt_of_le k.lt (P_le (by omega))))
end Go.Proofs.YtncdiodnbkhacaaDoor.N
end
section
namespace Go.Proofs.YtncdiodnbkhacaaDoor.N
set_option linter.unusedVariables false
set_option linter.unusedSimpArgs false
open Go Go.RowKit Go.Proofs.YtncdiodnbkhacaaDoorW.PrintWords Go.Proofs.YtncdiodnbkhacaaDoorW.PrintLast Go.Proofs.YtncdiodnbkhacaaDoorW.PrintMore Go.Proofs.YtncdiodnbkhacaaDoor.Pq
def ratS (neg : Bool) (x y : Int) : Bool × List Int × List Int:=if x=0∨y=0 then (false,[],[1]) else (neg,L (x / gz x y),L (y / gz x y))
theorem ratS_zero {neg : Bool} {x y : Int} (h : x=0∨y=0) : ratS neg x y=(false,[],[1]):=if_pos h
theorem ratS_pos {neg : Bool} {x y : Int} (h : ¬ (x=0∨y=0)) : ratS neg x y=(neg,L (x / gz x y),L (y / gz x y)):=if_neg h
theorem gz_pos {x y : Int} (h : ¬ (x=0∨y=0)) : 0 < gz x y:=by
 have h1:=gz_nonneg x y
 by_cases h2 : gz x y=0
 ·exfalso
  have h3:=gz_dvd_left x y
  rw [h2] at h3
  exact h (.inl (Int.zero_dvd.mp h3))
 ·omega
theorem gz_le {x y : Int} (hx : 0≤x) (h : ¬ (x=0∨y=0)) : gz x y≤x:=Int.le_of_dvd (by omega) (gz_dvd_left x y)
theorem made_f {a b : List Int} {m n : Nat} {x y : Int} (h : Nm a m x) (k : Nm b n y) (hm : m < 1000000000) (hn : n < 1000000000) (neg : Bool) : Ev (fun r=>rat_made.f r neg a b) (ratS neg x y):=by
 have hx:=h.pos
 have hy:=k.pos
 have jT : ∀ (l : List Int) (l' : List Int),Ev (fun r=>rat_made.j0 r neg l l' true) (false,[],[1]):=fun l l'=>by
  refine Ev_up ?_
  unfold rat_made.j0
  exact Ev_pos rfl (Ev.now _)
 unfold rat_made.f
 refine Ev_some (h.nrm (by omega)) ?_
 refine Ev_some (k.nrm (by omega)) ?_
 by_cases hx0 : x=0
 ·refine Ev_pos ((L_len0 hx).mpr hx0) ?_
  rw [ratS_zero (.inl hx0)]
  exact jT _ _
 ·refine Ev_neg (fun hh=>hx0 ((L_len0 hx).mp hh)) ?_
  by_cases hy0 : y=0
  ·rw [ratS_zero (.inr hy0),show (((N.L y).length : Int) == 0)=true from beq_iff_eq.mpr ((L_len0 hy).mpr hy0)]
   exact jT _ _
  ·have h0 : ¬ (x=0∨y=0):=by omega
   have hg:=gz_pos h0
   have hgx:=gz_le hx h0
   rw [ratS_pos h0,show (((N.L y).length : Int) == 0)=false from beq_eq_false_iff_ne.mpr (fun hh=>hy0 ((L_len0 hy).mp hh))]
   have jj : Ev (fun r=>rat_made.j1 r neg (L x) (L y) (L (gz x y)) true) (neg,L (x / gz x y),L (y / gz x y)):=by
    refine Ev_up ?_
    unfold rat_made.j1
    refine Ev_pos rfl ?_
    refine Ev.bind (h.norm.dm (h.norm.gcdL k.norm) (by omega) (by omega)) ?_
    refine Ev.bind (k.norm.dm (h.norm.gcdL k.norm) (by omega) (by omega)) ?_
    rw [dmS_pos hg,dmS_pos hg]
    exact Ev.now _
   refine Ev_up ?_
   simp only [rat_made.j0]
   refine Ev_neg (by simp) ?_
   refine Ev.bind (h.norm.gcd k.norm (by omega) (by omega)) ?_
   by_cases hl : ((L (gz x y)).length : Int) > 1
   ·exact Ev_pos hl jj
   ·have hl0 : 0 < (L (gz x y)).length:=L_length_lt (m:=0) (by rw [P_zero];omega)
    refine Ev_neg hl ?_
    refine Ev_pos (by omega) ?_
    by_cases h1 : rd (L (gz x y)) 0 > 1
    ·rw [decide_eq_true h1]
     exact jj
    ·rw [decide_eq_false h1]
     have hb : gz x y < 4294967296:=by
      have h9:=V_lt (W_L (gz x y))
      have e1 : (L (gz x y)).length=1:=by omega
      rw [V_L (Int.le_of_lt hg),e1,show P 1=4294967296 by decide +kernel] at h9
      exact h9
     have hgg : gz x y=1:=by
      rw [L_pos hg] at h1
      have e2 : rd (gz x y % 4294967296 :: L (gz x y / 4294967296)) 0=gz x y % 4294967296:=rfl
      rw [e2] at h1
      generalize gz x y=g at *
      omega
     refine Ev_up ?_
     simp only [rat_made.j1]
     refine Ev_neg (by simp) ?_
     rw [hgg,Int.ediv_one,Int.ediv_one]
     exact Ev.now _
theorem read_f {a b : List Int} {m n : Nat} {x y : Int} (h : Nm a m x) (k : Nm b n y) (hm : m < 1000000000) (hn : n < 1000000000) (neg : Bool) : Ev (fun r=>rat_Read.f r neg a b) (ratS neg x y):=by
 unfold rat_Read.f
 refine Ev.bind (made_f h k hm hn neg) ?_
 exact Ev.now _
theorem ratS_parts {m n : Nat} {x y : Int} (hx : 0≤x) (hy : 0≤y) (hxm : x < P m) (hyn : y < P n) (neg : Bool) :
  ∃ s p q,ratS neg x y=(s,L p,L q)∧Nm (L p) m p∧Nm (L q) (n+1) q∧0 < q:=by
 by_cases h : x=0∨y=0
 ·refine ⟨false,0,1,by rw [ratS_zero h,L_zero,show L 1=[1] by rw [L_pos (by decide),show (1 : Int) / 4294967296=0 from rfl,L_zero];rfl],?_,?_,by decide⟩
  ·exact Nm.zero.up (Nat.zero_le _)
  ·rw [show L 1=[1] by rw [L_pos (by decide),show (1 : Int) / 4294967296=0 from rfl,L_zero];rfl]
   exact Nm.one.up (by omega)
 ·have hg:=gz_pos h
  refine ⟨neg,x / gz x y,y / gz x y,ratS_pos h,?_,?_,?_⟩
  ·exact Nm.L (Int.ediv_nonneg hx (by omega)) (Int.lt_of_le_of_lt (Int.ediv_le_self _ hx) hxm)
  ·exact (Nm.L (n:=n) (Int.ediv_nonneg hy (by omega)) (Int.lt_of_le_of_lt (Int.ediv_le_self _ hy) hyn)).up (by omega)
  ·exact Int.ediv_pos_of_pos_of_dvd (by omega) (by omega) (gz_dvd_right x y)
end Go.Proofs.YtncdiodnbkhacaaDoor.N
end
section
namespace Go.Proofs.YtncdiodnbkhacaaDoor.N
set_option linter.unusedVariables false
set_option linter.unusedSimpArgs false
open Go Go.RowKit Go.Proofs.YtncdiodnbkhacaaDoorW.PrintWords Go.Proofs.YtncdiodnbkhacaaDoorW.PrintLast Go.Proofs.YtncdiodnbkhacaaDoorW.PrintMore Go.Proofs.YtncdiodnbkhacaaDoor.Pq
def bs (b : ByteArray) : List UInt8:=b.data.toList
theorem bs_mk (l : List UInt8) : bs ⟨l.toArray⟩=l:=rfl
theorem bs_size (b : ByteArray) : b.size=(bs b).length:=by
 unfold bs
 rw [Array.length_toList]
 rfl
theorem bs_list (b : ByteArray) : b.toList=bs b:=ByteArray.toList_eq b
theorem bs_append (a b : ByteArray) : bs (a++b)=bs a++bs b:=by
 unfold bs
 rw [ByteArray.data_append,Array.toList_append]
theorem bs_extract (b : ByteArray) (i j : Nat) : bs (b.extract i j)=((bs b).take j).drop i:=by
 unfold bs
 rw [ByteArray.data_extract,Array.toList_extract,List.extract_eq_take_drop,List.drop_take]
theorem bs_first (b : ByteArray) (i : Nat) : bs (b.extract 0 i)=(bs b).take i:=by rw [bs_extract,List.drop_zero]
theorem bs_rest (b : ByteArray) (i : Nat) : bs (b.extract i b.size)=(bs b).drop i:=by rw [bs_extract,bs_size,List.take_length]
theorem bs_bt (b : ByteArray) (i : Nat) : bt b (i : Int)=(((bs b).getD i 0).toNat : Int):=by
 unfold bt
 rw [Int.toNat_natCast]
 by_cases h : i < b.size
 ·rw [dif_pos h]
  have h2 : i < (bs b).length:=by rw [← bs_size];exact h
  rw [List.getD_eq_getElem?_getD,List.getElem?_eq_getElem h2,Option.getD_some]
  rfl
 ·rw [dif_neg h]
  have h2 : ¬ i < (bs b).length:=by rw [← bs_size];exact h
  rw [List.getD_eq_getElem?_getD,List.getElem?_eq_none (by omega)]
  rfl
def isD (c : UInt8) : Bool:=decide (48≤c.toNat) && decide (c.toNat≤57)
theorem isD_iff {c : UInt8} : isD c=true↔48≤c.toNat∧c.toNat≤57:=by
 unfold isD
 simp
def nd (l : List UInt8) : Nat:=(l.takeWhile isD).length
theorem nd_le (l : List UInt8) : nd l≤l.length:=List.Sublist.length_le (List.takeWhile_sublist _)
theorem nd_cons_pos {c : UInt8} {l : List UInt8} (h : isD c=true) : nd (c :: l)=nd l+1:=by
 unfold nd
 rw [List.takeWhile_cons_of_pos h]
 rfl
theorem nd_cons_neg {c : UInt8} {l : List UInt8} (h : ¬ isD c=true) : nd (c :: l)=0:=by
 unfold nd
 rw [List.takeWhile_cons_of_neg h]
 rfl
theorem nd_all {l : List UInt8} : ∀ c∈l.take (nd l),isD c=true:=by
 intro c hc
 have h1 : l.take (nd l)=l.takeWhile isD:=by
  have h2:=List.takeWhile_append_dropWhile (p:=isD) (l:=l)
  have h3 : (l.takeWhile isD++l.dropWhile isD).take (nd l)=l.takeWhile isD:=by
   unfold nd
   rw [List.take_left]
  rw [h2] at h3
  exact h3
 rw [h1] at hc
 exact (List.all_eq_true.mp (List.all_takeWhile (p:=isD) (l:=l))) c hc
theorem tenth : ∀ n : Fin 256,([48,49,50,51,52,53,54,55,56,57] : List UInt8).contains (UInt8.ofNat n.val)=isD (UInt8.ofNat n.val):=by decide +kernel
theorem digit_set (c : UInt8) : ([48,49,50,51,52,53,54,55,56,57] : List UInt8).contains c=isD c:=by
 have h:=tenth ⟨c.toNat,c.toNat_lt⟩
 rw [show UInt8.ofNat (Fin.val (⟨c.toNat,c.toNat_lt⟩ : Fin 256))=c from UInt8.ofNat_toNat] at h
 exact h
theorem digits_f {b : ByteArray} (hb : b.size≤140737488351232) : decimal_digits.f b=some ((nd (bs b) : Nat) : Int):=by
 have hs:=bs_size b
 unfold decimal_digits.f strings_TrimLeft.f
 rw [if_pos ⟨by decide,by decide +kernel⟩,Option.bind_some]
 have h1 : (b.data.toList.dropWhile fun x=>(⟨#[48,49,50,51,52,53,54,55,56,57]⟩ : ByteArray).data.toList.contains x)=(bs b).dropWhile isD:=by
  show (bs b).dropWhile _=_
  congr 1
  funext c
  exact digit_set c
 rw [h1,bs_size ⟨((bs b).dropWhile isD).toArray⟩,bs_mk]
 have h2:=congrArg List.length (List.takeWhile_append_dropWhile (p:=isD) (l:=bs b))
 rw [List.length_append] at h2
 have h3 : (nd (bs b) : Nat)=((bs b).takeWhile isD).length:=rfl
 rw [wrap64_of (by omega) (by omega)]
 congr 1
 omega
def nv (v : Int) : List UInt8→Int
|[]=>v
|c :: l=>nv (v * 10+((c.toNat : Int) - 48)) l
theorem nv_append (v : Int) (l m : List UInt8) : nv v (l++m)=nv (nv v l) m:=by
 induction l generalizing v with
|nil=>rfl
|cons c l ih=>exact ih _
theorem nv_ahead (v : Int) (l : List UInt8) : nv v l=v * 10 ^ l.length+nv 0 l:=by
 induction l generalizing v with
|nil=>simp [nv]
|cons c l ih =>
  show nv _ l=_ * 10 ^ (l.length+1)+nv (0 * 10+((c.toNat : Int) - 48)) l
  rw [ih,ih (0 * 10+((c.toNat : Int) - 48)),Int.pow_succ,Int.add_mul,Int.add_mul,Int.mul_assoc v 10,Int.mul_comm 10]
  omega
theorem nv_bound {l : List UInt8} (hd : ∀ c∈l,isD c=true) {v : Int} {n : Nat} (h0 : 0≤v) (h : v < 10 ^ n) : 0≤nv v l∧nv v l < 10 ^ (n+l.length):=by
 induction l generalizing v n with
|nil=>exact ⟨h0,h⟩
|cons c l ih =>
  have hc:=isD_iff.mp (hd c (List.mem_cons_self ..))
  have e : n+(c :: l).length=(n+1)+l.length:=by simp;omega
  rw [e]
  refine ih (fun x hx=>hd x (List.mem_cons_of_mem _ hx)) (by omega) ?_
  rw [Int.pow_succ]
  omega
theorem ten_P (n : Nat) : (10 : Int) ^ n≤P n:=by
 induction n with
|zero=>rw [P_zero,Int.pow_zero];exact Int.le_refl _
|succ n ih =>
  rw [P_succ,Int.pow_succ]
  have:=P_pos n
  omega
theorem ten_pos (n : Nat) : (0 : Int) < 10 ^ n:=Int.pow_pos (by decide)
end Go.Proofs.YtncdiodnbkhacaaDoor.N
end
section
namespace Go.Proofs.YtncdiodnbkhacaaDoor.N
set_option linter.unusedVariables false
set_option linter.unusedSimpArgs false
open Go Go.RowKit Go.Proofs.YtncdiodnbkhacaaDoorW.PrintWords Go.Proofs.YtncdiodnbkhacaaDoorW.PrintLast Go.Proofs.YtncdiodnbkhacaaDoorW.PrintMore Go.Proofs.YtncdiodnbkhacaaDoor.Pq
theorem pow9 : ∀ n : Fin 10,(10 : Int) ^ n.val≤1000000000:=by decide +kernel
theorem u64_of {x : Int} (h0 : 0≤x) (h1 : x < 18446744073709551616) : IntKind.u64.wrap x=x:=wrap_u64_of h0 h1
theorem number_l1 {b : ByteArray} (hb : b.size≤1000000) (hd : ∀ c∈bs b,isD c=true) {n : Nat} (hn : n≤9) (hnl : n≤(bs b).length) {v : Int} {m : Nat} (hx : Nm (L v) m v) (hm : m < 10000000) {R : List Int}
  (fin : Ev (fun k=>decimal_number.l0 k (b.extract n b.size) (L (v * 10 ^ n+nv 0 ((bs b).take n)))) R) : ∀ (d i : Nat),n - i=d→i≤n →
  Ev (fun k=>decimal_number.l1 k b (L v) (n : Int) (nv 0 ((bs b).take i)) (10 ^ i) (n : Int) (i : Int)) R
|0,i,he,hi=>by
  have hin : i=n:=by omega
  subst hin
  have hp:=pow9 ⟨i,by omega⟩
  simp only at hp
  have hp0:=ten_pos i
  have hb2:=nv_bound (v:=0) (n:=0) (fun c hc=>hd c (List.mem_of_mem_take hc)) (l:=(bs b).take i) (by decide) (by decide)
  rw [List.length_take,Nat.min_eq_left hnl,Nat.zero_add] at hb2
  have hs:=bs_size b
  refine Ev_up ?_
  unfold decimal_number.l1
  refine Ev_neg (by omega) ?_
  have n1 : Nm (L (10 ^ i)) 1 (10 ^ i):=Nm.L (by omega) (by rw [show P 1=4294967296 by decide +kernel];omega)
  have n2 : Nm (L (nv 0 ((bs b).take i))) 1 (nv 0 ((bs b).take i)):=Nm.L hb2.1 (by rw [show P 1=4294967296 by decide +kernel];omega)
  refine Ev_some (nof_f (by omega) (by omega)) ?_
  refine Ev.bind (hx.mul n1 (by omega) (by omega)) ?_
  refine Ev_some (nof_f hb2.1 (by omega)) ?_
  refine Ev.bind ((hx.mulL n1).add n2 (by omega) (by omega)) ?_
  refine Ev_pos (by omega) ?_
  refine Ev_pos (by omega) ?_
  rw [Int.toNat_natCast]
  exact fin
|d+1,i,he,hi=>by
  have hs:=bs_size b
  have hlt : i < (bs b).length:=by omega
  have hc:=isD_iff.mp (hd (bs b)[i] (List.getElem_mem hlt))
  have hp:=pow9 ⟨i,by omega⟩
  simp only at hp
  have hp0:=ten_pos i
  have hb2:=nv_bound (v:=0) (n:=0) (fun c hc=>hd c (List.mem_of_mem_take hc)) (l:=(bs b).take i) (by decide) (by decide)
  rw [List.length_take,Nat.min_eq_left (by omega),Nat.zero_add] at hb2
  refine Ev_up ?_
  unfold decimal_number.l1
  refine Ev_pos (by omega) ?_
  refine Ev_pos (by omega) ?_
  refine Ev_pos (by omega) ?_
  have hnx : nv 0 ((bs b).take (i+1))=nv 0 ((bs b).take i) * 10+(((bs b)[i].toNat : Int) - 48):=by
   rw [List.take_succ_eq_append_getElem hlt,nv_append]
   rfl
  rw [bs_bt,List.getD_eq_getElem?_getD,List.getElem?_eq_getElem hlt,Option.getD_some]
  have ih:=number_l1 hb hd hn hnl hx hm fin d (i+1) (by omega) (by omega)
  rw [hnx,Int.pow_succ] at ih
  generalize (bs b)[i].toNat=c at hc ih
  generalize nv 0 ((bs b).take i)=y at hb2 ih
  generalize (10 : Int) ^ i=p at hp hp0 hb2 ih
  rw [u64_of (x:=10 * y) (by omega) (by omega),show (((c : Int) - 48) % 256)=(c : Int) - 48 by omega,u64_of (x:=10 * y+((c : Int) - 48)) (by omega) (by omega),u64_of (x:=p * 10) (by omega) (by omega),wrap64_of (by omega) (by omega),
   show 10 * y=y * 10 by omega]
  exact ih
theorem number_l0 : ∀ (M : Nat) (b : ByteArray) (v : Int) (m : Nat),(bs b).length < M→b.size≤1000000→(∀ c∈bs b,isD c=true)→Nm (L v) m v→m+(bs b).length < 10000000 →
  Ev (fun k=>decimal_number.l0 k b (L v)) (L (nv v (bs b)))
|0,b,v,m,h,_,_,_,_=>by omega
|M+1,b,v,m,h,hb,hd,hx,hm=>by
  have hs:=bs_size b
  refine Ev_up ?_
  unfold decimal_number.l0
  by_cases h0 : (bs b).length=0
  ·refine Ev_neg (by omega) ?_
   rw [List.eq_nil_of_length_eq_zero h0]
   exact Ev.now _
  ·refine Ev_pos (by omega) ?_
   obtain ⟨n,en,hn,hnl,hn0⟩ : ∃ n : Nat,mn 9 (b.size : Int)=(n : Int)∧n≤9∧n≤(bs b).length∧0 < n:=by
    refine ⟨min 9 (bs b).length,?_,by omega,by omega,by omega⟩
    unfold mn
    split <;> omega
   rw [en]
   have hp:=pow9 ⟨n,by omega⟩
   simp only at hp
   have hp0:=ten_pos n
   have n1 : Nm (L (10 ^ n)) 1 (10 ^ n):=Nm.L (by omega) (by rw [show P 1=4294967296 by decide +kernel];omega)
   have hb2:=nv_bound (v:=0) (n:=0) (fun c hc=>hd c (List.mem_of_mem_take hc)) (l:=(bs b).take n) (by decide) (by decide)
   rw [List.length_take,Nat.min_eq_left hnl,Nat.zero_add] at hb2
   have n2 : Nm (L (nv 0 ((bs b).take n))) 1 (nv 0 ((bs b).take n)):=Nm.L hb2.1 (by rw [show P 1=4294967296 by decide +kernel];omega)
   have hlen : (bs (b.extract n b.size)).length=(bs b).length - n:=by rw [bs_rest,List.length_drop]
   have nx : Nm (L (v * 10 ^ n+nv 0 ((bs b).take n))) (m+n) (v * 10 ^ n+nv 0 ((bs b).take n)):=by
    refine Nm.L (Int.add_nonneg (Int.mul_nonneg hx.pos (by omega)) hb2.1) ?_
    have h1 : v+1≤P m:=hx.lt
    have h2 : (v+1) * 10 ^ n≤P m * P n:=Int.mul_le_mul h1 (ten_P n) (by omega) (Int.le_of_lt (P_pos m))
    rw [P_add]
    rw [Int.add_mul] at h2
    omega
   have ih:=number_l0 M (b.extract n b.size) (v * 10 ^ n+nv 0 ((bs b).take n)) (m+n) (by omega) (by rw [bs_size];omega) (by rw [bs_rest];exact fun c hc=>hd c (List.mem_of_mem_drop hc)) nx (by omega)
   have e : nv (v * 10 ^ n+nv 0 ((bs b).take n)) (bs (b.extract n b.size))=nv v (bs b):=by
    rw [bs_rest]
    have e1:=nv_append v ((bs b).take n) ((bs b).drop n)
    rw [List.take_append_drop] at e1
    rw [e1,nv_ahead v ((bs b).take n),List.length_take,Nat.min_eq_left hnl]
   rw [e] at ih
   have h9:=number_l1 hb hd hn hnl hx (by omega) ih _ 0 rfl (Nat.zero_le _)
   rw [List.take_zero,Int.pow_zero] at h9
   exact h9
theorem number_f {b : ByteArray} (hb : b.size≤1000000) (hd : ∀ c∈bs b,isD c=true) : Ev (fun k=>decimal_number.f k b) (L (nv 0 (bs b))):=by
 have h:=number_l0 _ b 0 0 (Nat.lt_succ_self _) hb hd Nm.zero (by rw [← bs_size];omega)
 rw [L_zero] at h
 exact h
theorem Nm.number {l : List UInt8} (hd : ∀ c∈l,isD c=true) : Nm (N.L (nv 0 l)) l.length (nv 0 l):=by
 have h:=nv_bound hd (v:=0) (n:=0) (by decide) (by decide)
 rw [Nat.zero_add] at h
 exact Nm.L h.1 (Int.lt_of_lt_of_le h.2 (ten_P _))
end Go.Proofs.YtncdiodnbkhacaaDoor.N
end
section
namespace Go.Proofs.YtncdiodnbkhacaaDoor.N
set_option linter.unusedVariables false
set_option linter.unusedSimpArgs false
open Go Go.RowKit Go.Proofs.YtncdiodnbkhacaaDoorW.PrintWords Go.Proofs.YtncdiodnbkhacaaDoorW.PrintLast Go.Proofs.YtncdiodnbkhacaaDoorW.PrintMore Go.Proofs.YtncdiodnbkhacaaDoor.Pq
def finS (neg : Bool) (x y : Int) : Bool × List Int × List Int × Int:=if y=0 then (false,[],[1],42) else ((ratS neg x y).1,(ratS neg x y).2.1,(ratS neg x y).2.2,0)
def restS (neg : Bool) (d : List UInt8) : List UInt8→Bool × List Int × List Int × Int
|[]=>finS neg (nv 0 d) 1
|c :: m=>if nd m=0∨nd m < m.length∨(c.toNat≠46∧c.toNat≠47) then (false,[],[1],40) else if c.toNat=46 then finS neg (nv 0 (d++m)) (10 ^ m.length) else finS neg (nv 0 d) (nv 0 m)
theorem restS_cons (neg : Bool) (d : List UInt8) (c : UInt8) (m : List UInt8) : restS neg d (c :: m)=if nd m=0∨nd m < m.length∨(c.toNat≠46∧c.toNat≠47) then (false,[],[1],40) else if c.toNat=46 then finS neg (nv 0 (d++m)) (10 ^ m.length) else finS neg (nv 0 d) (nv 0 m):=rfl
def bodyS (neg : Bool) (l : List UInt8) : Bool × List Int × List Int × Int:=if nd l=0 then (false,[],[1],40) else restS neg (l.take (nd l)) (l.drop (nd l))
def cutS (l : List UInt8) : List UInt8 × Bool:=if l.head? = some 45 then (l.drop 1,true) else (l,false)
def parseS (l : List UInt8) : Bool × List Int × List Int × Int:=if l.length > 20000 then (false,[],[1],41) else bodyS (cutS l).2 (cutS l).1
def cutB (b : ByteArray) : ByteArray × Bool:=if (bs b).head? = some 45 then (b.extract 1 b.size,true) else (b,false)
theorem rat_of01 : Ev (fun k=>rat_Of.f k 0 1) (false,[],[1]):=by
 have h0 : rat_size.f 0=some (L 0):=by
  unfold rat_size.f
  rw [if_neg (by decide),show IntKind.u64.wrap 0=0 by decide,nof_f (by decide) (by decide)]
  rfl
 have h1 : rat_size.f 1=some (L 1):=by
  unfold rat_size.f
  rw [if_neg (by decide),show IntKind.u64.wrap 1=1 by decide,nof_f (by decide) (by decide)]
  rfl
 unfold rat_Of.f
 refine Ev_some h0 ?_
 refine Ev_some h1 ?_
 refine Ev.bind (made_f (m:=1) (n:=1) (Nm.zero.up (by omega)) (Nm.L (by decide) (by decide +kernel)) (by omega) (by omega) _) ?_
 rw [ratS_zero (.inl rfl)]
 exact Ev.now _
theorem cut_f (b : ByteArray) : strings_CutPrefix.f b ⟨#[45]⟩=some (cutB b):=by
 have hs:=bs_size b
 have h1 : (⟨#[45]⟩ : ByteArray).size=1:=rfl
 unfold strings_CutPrefix.f stringslite_CutPrefix.f stringslite_HasPrefix.f cutB
 rw [h1]
 by_cases h0 : (bs b).length=0
 ·rw [if_neg (by omega),List.eq_nil_of_length_eq_zero h0]
  rfl
 ·rw [if_pos (by omega),if_pos (by omega),if_pos (by omega)]
  obtain ⟨c,m,e⟩ : ∃ c m,bs b=c :: m:=by
   cases hb : bs b with
  |nil=>rw [hb] at h0;exact absurd rfl h0
  |cons c m=>exact ⟨c,m,rfl⟩
  have h2 : (b.extract 0 (((1 : Nat) : Int)).toNat).toList=[c]:=by
   rw [bs_list,show (((1 : Nat) : Int)).toNat=1 from rfl,bs_first,e]
   rfl
  rw [h2,e,show (⟨#[45]⟩ : ByteArray).toList=[45] by decide +kernel,Option.bind_some]
  by_cases hc : c=45
  ·subst hc
   rw [if_pos (by rfl),if_pos (by omega),if_pos (by omega),if_pos (show (45 :: m).head? = some 45 from rfl)]
   rfl
  ·rw [if_neg (by simpa using hc),if_neg (by simpa using hc)]
   rfl
theorem cutB_bs (b : ByteArray) : bs (cutB b).1=(cutS (bs b)).1∧(cutB b).2=(cutS (bs b)).2:=by
 unfold cutB cutS
 by_cases h : (bs b).head? = some 45
 ·rw [if_pos h,if_pos h]
  exact ⟨bs_rest b 1,rfl⟩
 ·rw [if_neg h,if_neg h]
  exact ⟨rfl,rfl⟩
theorem cutS_len (l : List UInt8) : (cutS l).1.length≤l.length:=by
 unfold cutS
 split
 ·simp
 ·exact Nat.le_refl _
theorem parse_j1 {neg : Bool} {n : Nat} {f d : ByteArray} (hf : f.size≤1000000) (hd : d.size≤1000000) (df : ∀ c∈bs f,isD c=true) (dd : ∀ c∈bs d,isD c=true) :
  Ev (fun k=>decimal_Parse.j1 k neg (n : Int) f d false [] [1]) (if n=0 then (false,[],[1],40) else finS neg (nv 0 (bs f)) (nv 0 (bs d))):=by
 have sf:=bs_size f
 have sd:=bs_size d
 refine Ev_up ?_
 unfold decimal_Parse.j1
 by_cases hn : n=0
 ·rw [if_pos hn]
  exact Ev_pos (by omega) (Ev.now _)
 ·rw [if_neg hn]
  refine Ev_neg (by omega) ?_
  have nf:=Nm.number df
  have nd':=Nm.number dd
  refine Ev.bind (number_f hd dd) ?_
  unfold finS
  by_cases h0 : nv 0 (bs d)=0
  ·rw [if_pos h0]
   exact Ev_pos ((L_len0 nd'.pos).mpr h0) (Ev.now _)
  ·rw [if_neg h0]
   refine Ev_neg (fun h=>h0 ((L_len0 nd'.pos).mp h)) ?_
   refine Ev.bind (number_f hf df) ?_
   refine Ev.bind (read_f nf nd' (by omega) (by omega) neg) ?_
   exact Ev.now _
theorem repeat_n (n : Nat) : strings_Repeat.n [48] n=List.replicate n 48:=by
 induction n with
|zero=>rfl
|succ n ih =>
  show [48]++strings_Repeat.n [48] n=_
  rw [ih]
  rfl
theorem nv_zeros (v : Int) (n : Nat) : nv v (List.replicate n 48)=v * 10 ^ n:=by
 induction n generalizing v with
|zero=>simp [nv]
|succ n ih =>
  show nv (v * 10+(((48 : UInt8).toNat : Int) - 48)) (List.replicate n 48)=_
  rw [show v * 10+(((48 : UInt8).toNat : Int) - 48)=v * 10 by have : ((48 : UInt8).toNat : Int)=48:=rfl;omega,ih,Int.pow_succ,Int.mul_assoc,Int.mul_comm 10]
theorem parse_j0 {neg bad : Bool} {n : Nat} {f r s : ByteArray} {c : UInt8} {m : List UInt8} (hf : f.size≤20000) (hr : r.size≤20000) (er : bs r=c :: m) (es : bs s=m) (df : ∀ x∈bs f,isD x=true)
  (hbad : bad=true↔(nd m=0∨nd m < m.length∨(c.toNat≠46∧c.toNat≠47))) :
  Ev (fun k=>decimal_Parse.j0 k neg (n : Int) f r s bad false [] [1]) (if n=0 then (false,[],[1],40) else restS neg (bs f) (c :: m)):=by
 have sf:=bs_size f
 have sr:=bs_size r
 have ss:=bs_size s
 rw [er] at sr
 rw [es] at ss
 simp only [List.length_cons] at sr
 refine Ev_up ?_
 unfold decimal_Parse.j0
 rw [restS_cons]
 by_cases hb : bad=true
 ·rw [if_pos (hbad.mp hb)]
  refine Ev_pos hb ?_
  rw [ite_self]
  exact Ev.now _
 ·have hb' : ¬ (nd m=0∨nd m < m.length∨(c.toNat≠46∧c.toNat≠47)):=fun h=>hb (hbad.mpr h)
  rw [if_neg hb']
  have hm : nd m=m.length:=by have:=nd_le m;omega
  have dm : ∀ x∈m,isD x=true:=by
   have:=nd_all (l:=m)
   rw [hm,List.take_length] at this
   exact this
  refine Ev_neg hb ?_
  refine Ev_pos (by omega) ?_
  have hbt : bt r 0=(c.toNat : Int):=by
   have:=bs_bt r 0
   rw [er] at this
   exact this
  rw [hbt]
  by_cases h46 : c.toNat=46
  ·rw [if_pos h46]
   refine Ev_pos (by omega) ?_
   refine Ev_pos (by omega) ?_
   have hrep : strings_Repeat.f ⟨#[48]⟩ (s.size : Int)=some ⟨(List.replicate m.length 48).toArray⟩:=by
    unfold strings_Repeat.f
    rw [if_pos ⟨by omega,by omega,by rw [show (⟨#[48]⟩ : ByteArray).size=1 from rfl];omega⟩,Int.toNat_natCast,ss]
    show some (⟨(strings_Repeat.n [48] m.length).toArray⟩ : ByteArray)=_
    rw [repeat_n]
   refine Ev_some hrep ?_
   have sz : (⟨(List.replicate m.length 48).toArray⟩ : ByteArray).size=m.length:=by rw [bs_size,bs_mk,List.length_replicate]
   refine Ev_pos (by rw [sz];omega) ?_
   have e1 : bs (f++s)=bs f++m:=by rw [bs_append,es]
   have e2 : bs ((⟨#[49]⟩ : ByteArray)++⟨(List.replicate m.length 48).toArray⟩)=49 :: List.replicate m.length 48:=by rw [bs_append,bs_mk];rfl
   have h:=parse_j1 (neg:=neg) (n:=n) (f:=f++s) (d:=(⟨#[49]⟩ : ByteArray)++⟨(List.replicate m.length 48).toArray⟩)
    (by rw [bs_size,e1,List.length_append];omega) (by rw [bs_size,e2,List.length_cons,List.length_replicate];omega)
    (by rw [e1];intro x hx;rcases List.mem_append.mp hx with h|h;exact df x h;exact dm x h)
    (by rw [e2];intro x hx;rcases List.mem_cons.mp hx with h|h;rw [h];rfl;rw [List.eq_of_mem_replicate h];rfl)
   rw [e1,e2] at h
   have e3 : nv 0 (49 :: List.replicate m.length 48)=10 ^ m.length:=by
    show nv (0 * 10+(((49 : UInt8).toNat : Int) - 48)) _=_
    rw [show (0 : Int) * 10+(((49 : UInt8).toNat : Int) - 48)=1 from rfl,nv_zeros,Int.one_mul]
   rw [e3] at h
   exact h
  ·rw [if_neg h46]
   refine Ev_neg (by omega) ?_
   have h:=parse_j1 (neg:=neg) (n:=n) (f:=f) (d:=s) (by omega) (by omega) df (by rw [es];exact dm)
   rw [es] at h
   exact h
theorem bs_one : bs (⟨#[49]⟩ : ByteArray)=[49]:=rfl
theorem parse_f {b : ByteArray} (hb : b.size≤140737488351232) : Ev (fun k=>decimal_Parse.f k b) (parseS (bs b)):=by
 have hbs:=bs_size b
 unfold decimal_Parse.f parseS
 refine Ev.bind rat_of01 ?_
 dsimp only
 by_cases hl : (b.size : Int) > 20000
 ·rw [if_pos (by omega)]
  exact Ev_pos hl (Ev.now _)
 ·rw [if_neg (by omega)]
  refine Ev_neg hl ?_
  refine Ev_some (cut_f b) ?_
  have hc:=cutB_bs b
  have hcl:=cutS_len (bs b)
  generalize cutB b=yb at hc
  obtain ⟨y,neg⟩:=yb
  obtain ⟨hc1,hc2⟩:=hc
  simp only at hc1 hc2
  rw [← hc1] at hcl
  rw [← hc1,← hc2]
  dsimp only
  have hys:=bs_size y
  refine Ev_some (digits_f (by omega)) ?_
  have hn:=nd_le (bs y)
  have hall:=nd_all (l:=bs y)
  unfold bodyS
  generalize nd (bs y)=n at hn hall
  refine Ev_pos (by omega) ?_
  refine Ev_pos (by omega) ?_
  rw [Int.toNat_natCast]
  have hf : bs (y.extract 0 n)=(bs y).take n:=bs_first y n
  have hr : bs (y.extract n y.size)=(bs y).drop n:=bs_rest y n
  generalize y.extract 0 n=f at hf
  generalize y.extract n y.size=r at hr
  rw [← hf,← hr]
  rw [← hf] at hall
  have hfs : f.size≤20000:=by rw [bs_size,hf,List.length_take];omega
  have hrs : r.size≤20000:=by rw [bs_size,hr,List.length_drop];omega
  cases er : bs r with
 |nil =>
   refine Ev_pos (by rw [bs_list,er]) ?_
   have h:=parse_j1 (neg:=neg) (n:=n) (f:=f) (d:=(⟨#[49]⟩ : ByteArray)) (by omega) (by decide) hall (by rw [bs_one];intro x hx;rw [List.mem_singleton.mp hx];rfl)
   exact h
 |cons c m =>
   have hrl:=bs_size r
   rw [er,List.length_cons] at hrl
   refine Ev_neg (by rw [bs_list,er];simp) ?_
   refine Ev_pos (by omega) ?_
   have es : bs (r.extract 1 r.size)=m:=by rw [bs_rest,er];rfl
   generalize r.extract 1 r.size=s at es
   have hss:=bs_size s
   rw [es] at hss
   refine Ev_some (digits_f (by omega)) ?_
   rw [es]
   have hbt : bt r 0=(c.toNat : Int):=by
    have:=bs_bt r 0
    rw [er] at this
    exact this
   have hj:=fun (bad : Bool) h=>parse_j0 (neg:=neg) (bad:=bad) (n:=n) (f:=f) (r:=r) (s:=s) hfs hrs er es hall h
   have hnm:=nd_le m
   by_cases h0 : nd m=0
   ·exact Ev_pos (by omega) (hj true ⟨fun _=>.inl h0,fun _=>rfl⟩)
   ·refine Ev_neg (by omega) ?_
    by_cases h1 : nd m < m.length
    ·exact Ev_pos (by omega) (hj true ⟨fun _=>.inr (.inl h1),fun _=>rfl⟩)
    ·refine Ev_neg (by omega) ?_
     refine Ev_pos (by omega) ?_
     rw [hbt]
     by_cases h46 : c.toNat=46
     ·exact Ev_pos (by omega) (hj false ⟨fun h=>(by cases h),fun h=>(by omega)⟩)
     ·refine Ev_neg (by omega) ?_
      refine hj _ ⟨fun h=>?_,fun h=>?_⟩
      ·have h2 : ¬ ((c.toNat : Int)=47):=bne_iff_ne.mp h
       exact .inr (.inr ⟨h46,by omega⟩)
      ·exact bne_iff_ne.mpr (by omega)
end Go.Proofs.YtncdiodnbkhacaaDoor.N
end
section
namespace Go.Proofs.YtncdiodnbkhacaaDoor.N
set_option linter.unusedVariables false
set_option linter.unusedSimpArgs false
open Go Go.RowKit Go.Proofs.YtncdiodnbkhacaaDoorW.PrintWords Go.Proofs.YtncdiodnbkhacaaDoorW.PrintLast Go.Proofs.YtncdiodnbkhacaaDoor.Pq
theorem is_same {neg : Bool} {a b : List Int} (ha : a.length < 4611686018427387904) (hb : b.length < 4611686018427387904) : Ev (fun k=>penumbraref03_Is.f k neg a b neg a b) true:=by
 unfold penumbraref03_Is.f
 refine Ev_pos (by simp) ?_
 refine Ev.bind (same_f ha) ?_
 refine Ev_pos rfl ?_
 refine Ev.bind (same_f hb) ?_
 exact Ev.now _
end Go.Proofs.YtncdiodnbkhacaaDoor.N
end
section
namespace Go.Proofs.YtncdiodnbkhacaaDoor.N
set_option linter.unusedVariables false
set_option linter.unusedSimpArgs false
open Go Go.RowKit Go.Proofs.YtncdiodnbkhacaaDoorW.PrintWords Go.Proofs.YtncdiodnbkhacaaDoorW.PrintLast Go.Proofs.YtncdiodnbkhacaaDoorW.PrintMore Go.Proofs.YtncdiodnbkhacaaDoor.Pq
def db (n : Nat) : UInt8:=UInt8.ofNat (48+n % 10)
def dg (n : Nat) : List UInt8:=if h : n=0 then [] else dg (n / 10)++[db n]
termination_by n
decreasing_by omega
end Go.Proofs.YtncdiodnbkhacaaDoor.N
end
section
namespace Go.Proofs.YtncdiodnbkhacaaDoor.N
set_option linter.unusedVariables false
set_option linter.unusedSimpArgs false
open Go Go.RowKit Go.Proofs.YtncdiodnbkhacaaDoorW.PrintWords Go.Proofs.YtncdiodnbkhacaaDoorW.PrintLast Go.Proofs.YtncdiodnbkhacaaDoorW.PrintMore Go.Proofs.YtncdiodnbkhacaaDoor.Pq
theorem size_append (a b : ByteArray) : (a++b).size=a.size+b.size:=by rw [bs_size,bs_append,List.length_append,← bs_size,← bs_size]
end Go.Proofs.YtncdiodnbkhacaaDoor.N
end
section
namespace Go.Proofs.YtncdiodnbkhacaaDoor.N
set_option linter.unusedVariables false
set_option linter.unusedSimpArgs false
open Go Go.RowKit Go.Proofs.YtncdiodnbkhacaaDoorW.PrintWords Go.Proofs.YtncdiodnbkhacaaDoorW.PrintLast Go.Proofs.YtncdiodnbkhacaaDoorW.PrintMore Go.Proofs.YtncdiodnbkhacaaDoor.Pq
theorem nd_append {l r : List UInt8} (hl : ∀ c∈l,isD c=true) (hr : ∀ c∈r.head?,¬ isD c=true) : nd (l++r)=l.length:=by
 induction l with
|nil =>
  cases r with
 |nil=>rfl
 |cons c m=>exact nd_cons_neg (hr c (by simp))
|cons c l ih =>
  rw [List.cons_append,nd_cons_pos (hl c (List.mem_cons_self ..)),ih (fun x hx=>hl x (List.mem_cons_of_mem _ hx))]
  rfl
end Go.Proofs.YtncdiodnbkhacaaDoor.N
end
section
namespace Go.Proofs.YtncdiodnbkhacaaDoor.N
set_option linter.unusedVariables false
set_option linter.unusedSimpArgs false
open Go Go.RowKit Go.Proofs.YtncdiodnbkhacaaDoorW.PrintWords Go.Proofs.YtncdiodnbkhacaaDoorW.PrintLast Go.Proofs.YtncdiodnbkhacaaDoorW.PrintMore Go.Proofs.YtncdiodnbkhacaaDoor.Pq
def qv (neg : Bool) (x y : Int) : Rat:=if neg=true then Rat.divInt (-x) y else Rat.divInt x y
def cq (q : Rat) : Bool × List Int × List Int:=(decide (q.num < 0),L (q.num.natAbs : Int),L (q.den : Int))
theorem L_unit : L 1=[1]:=by rw [L_pos (by decide),show (1 : Int) / 4294967296=0 from rfl,L_zero];rfl
theorem cq_zero : cq 0=(false,[],[1]):=by unfold cq;rw [← L_unit,← L_zero];rfl
theorem qv_zero {neg : Bool} {x y : Int} (h : x=0∨y=0) : qv neg x y=0:=by
 unfold qv
 rcases h with rfl|rfl <;> cases neg <;> simp [Rat.divInt_zero,Rat.zero_divInt]
theorem cq_qv {neg : Bool} {x y : Int} (hx : 0≤x) (hy : 0≤y) : ratS neg x y=cq (qv neg x y):=by
 by_cases h : x=0∨y=0
 ·rw [ratS_zero h,qv_zero h,cq_zero]
 ·rw [ratS_pos h]
  have x0 : 0 < x:=by omega
  have y0 : 0 < y:=by omega
  have hg:=gz_pos h
  have g1 : ((y.gcd x : Nat) : Int)=gz x y:=by unfold gz;rw [Int.gcd_comm]
  have g2 : ((y.gcd (-x) : Nat) : Int)=gz x y:=by rw [Int.gcd_neg];exact g1
  have hd1 : 0 < x / gz x y:=Int.ediv_pos_of_pos_of_dvd x0 (by omega) (gz_dvd_left x y)
  have hd2 : 0≤y / gz x y:=Int.ediv_nonneg hy (by omega)
  have hden : ∀ z : Int,((y.gcd z : Nat) : Int)=gz x y→(((Rat.divInt z y).den : Nat) : Int)=y / gz x y:=by
   intro z hz
   rw [Rat.den_divInt,if_neg (by omega),Int.natCast_ediv,hz]
   rw [Int.natAbs_of_nonneg hy]
  unfold cq qv
  cases neg
  ·rw [if_neg (by simp)]
   have hn : (Rat.divInt x y).num=x / gz x y:=by
    rw [Rat.num_divInt,g1,Int.sign_eq_one_of_pos y0,Int.one_mul]
   rw [hn,hden x g1,Int.natAbs_of_nonneg (by omega),decide_eq_false (by omega)]
  ·rw [if_pos rfl]
   have hn : (Rat.divInt (-x) y).num = -(x / gz x y):=by
    rw [Rat.num_divInt,g2,Int.sign_eq_one_of_pos y0,Int.one_mul,Int.neg_ediv_of_dvd (gz_dvd_left x y)]
   rw [hn,hden (-x) g2,Int.natAbs_neg,Int.natAbs_of_nonneg (by omega),decide_eq_true (by omega)]
def Sz (q : Rat) (n : Nat) : Prop:=(q.num.natAbs : Int) < P n∧(q.den : Int) < P n
theorem Sz.nums {q : Rat} {n : Nat} (h : Sz q n) : Nm (L (q.num.natAbs : Int)) n (q.num.natAbs : Int)∧Nm (L (q.den : Int)) n (q.den : Int):=⟨Nm.L (Int.natCast_nonneg _) h.1,Nm.L (Int.natCast_nonneg _) h.2⟩
theorem qv_cq (q : Rat) : qv (decide (q.num < 0)) (q.num.natAbs : Int) (q.den : Int)=q:=by
 unfold qv
 by_cases h : q.num < 0
 ·rw [decide_eq_true h,if_pos rfl,show -((q.num.natAbs : Nat) : Int)=q.num by omega]
  exact Rat.num_divInt_den q
 ·rw [decide_eq_false h,if_neg (by simp),show ((q.num.natAbs : Nat) : Int)=q.num by omega]
  exact Rat.num_divInt_den q
theorem Sz.up {q : Rat} {m n : Nat} (h : Sz q m) (hmn : m≤n) : Sz q n:=⟨Int.lt_of_lt_of_le h.1 (P_le hmn),Int.lt_of_lt_of_le h.2 (P_le hmn)⟩
theorem Sz.qv {neg : Bool} {x y : Int} {m n : Nat} (hx : 0≤x) (hy : 0≤y) (hxm : x < P m) (hyn : y < P n) : Sz (qv neg x y) (m+n+1):=by
 obtain ⟨s,p,q,e,hp,hq,hq0⟩:=ratS_parts hx hy hxm hyn neg
 rw [cq_qv hx hy] at e
 obtain ⟨_,e⟩:=Prod.mk.inj e
 obtain ⟨e1,e2⟩:=Prod.mk.inj e
 have e1:=L_inj (Int.natCast_nonneg _) hp.pos e1
 have e2:=L_inj (Int.natCast_nonneg _) hq.pos e2
 exact ⟨by rw [e1];exact Int.lt_of_lt_of_le hp.lt (P_le (by omega)),by rw [e2];exact Int.lt_of_lt_of_le hq.lt (P_le (by omega))⟩
theorem divInt_qv (neg : Bool) (x y : Int) : qv neg x y=(if neg=true then -(x : Rat) else (x : Rat)) / (y : Rat):=by
 unfold qv
 cases neg <;> simp [Rat.divInt_eq_div,Rat.intCast_neg]
theorem Sz.add {q r : Rat} {m n : Nat} (h : Sz q m) (k : Sz r n) : Sz (q+r) (m+n+1):=by
 have pm:=P_pos m
 have pn:=P_pos n
 have e : P (m+n+1)=4294967296 * (P m * P n):=by rw [P_succ,P_add]
 obtain ⟨h1,h2⟩:=h
 obtain ⟨k1,k2⟩:=k
 have t1 : ((q.num.natAbs : Nat) : Int) * (r.den : Int)≤P m * P n:=Int.mul_le_mul (by omega) (by omega) (Int.natCast_nonneg _) (by omega)
 have t2 : ((r.num.natAbs : Nat) : Int) * (q.den : Int)≤P m * P n:=by rw [Int.mul_comm (P m)];exact Int.mul_le_mul (by omega) (by omega) (Int.natCast_nonneg _) (by omega)
 have t3 : ((q.den : Nat) : Int) * (r.den : Int)≤P m * P n:=Int.mul_le_mul (by omega) (by omega) (Int.natCast_nonneg _) (by omega)
 have t0 : 0 < P m * P n:=Int.mul_pos pm pn
 have u1 : (((q.num * (r.den : Int)).natAbs : Nat) : Int)=((q.num.natAbs : Nat) : Int) * (r.den : Int):=by rw [Int.natAbs_mul,Int.natCast_mul,Int.natAbs_natCast]
 have u2 : (((r.num * (q.den : Int)).natAbs : Nat) : Int)=((r.num.natAbs : Nat) : Int) * (q.den : Int):=by rw [Int.natAbs_mul,Int.natCast_mul,Int.natAbs_natCast]
 have d0 : q.den * r.den≠0:=Nat.mul_ne_zero q.den_nz r.den_nz
 rw [Rat.add_def']
 unfold Sz
 rw [Rat.num_mkRat,if_neg d0,Rat.den_mkRat,if_neg d0,e]
 constructor
 ·have z1 : ∀ (a : Int) (g : Nat),(((a / (g : Int)).natAbs : Nat) : Int)≤((a.natAbs : Nat) : Int):=fun a g=>Int.ofNat_le.mpr (Int.natAbs_ediv_le_natAbs a g)
  have z2:=z1 (q.num * ↑r.den+r.num * ↑q.den) ((q.den * r.den).gcd (q.num * ↑r.den+r.num * ↑q.den).natAbs)
  omega
 ·have z1:=Nat.div_le_self (q.den * r.den) ((q.den * r.den).gcd (q.num * ↑r.den+r.num * ↑q.den).natAbs)
  have z2 : ((q.den * r.den : Nat) : Int)=(q.den : Int) * (r.den : Int):=Int.natCast_mul _ _
  omega
theorem plus_val {n m : Bool} {x y u v : Int} (hy : y≠0) (hv : v≠0) : qv n x y+qv m u v =
  if n=m then qv n (x * v+u * y) (y * v) else if u * y≤x * v then qv n (x * v - u * y) (y * v) else qv m (u * y - x * v) (y * v):=by
 have hy' : (y : Rat)≠0:=by simpa using hy
 have hv' : (v : Rat)≠0:=by simpa using hv
 simp only [divInt_qv]
 cases n <;> cases m <;> simp only [Bool.false_eq_true,if_false,if_true,Rat.intCast_add,Rat.intCast_mul,Rat.intCast_sub,reduceCtorEq] <;> (try split) <;> grind
theorem bl_zero_iff {x : Int} (h : 0≤x) : bl x=0↔x=0:=by
 constructor
 ·intro hb
  by_cases h0 : x=0
  ·exact h0
  ·have:=bl_pos (n:=x) (by omega)
   omega
 ·intro hb
  rw [hb,bl_zero]
theorem whole_f {a b : List Int} {i j : Nat} {x y : Int} (ha : Nm a i x) (hb : Nm b j y) (hj : j < 100000000) (n : Bool) :
  ∃ m c d u v,rat_whole.f n a b=some (m,c,d)∧Nm c i u∧Nm d (j+1) v∧0 < v∧qv m u v=qv n x y:=by
 unfold rat_whole.f
 rw [hb.bits (by omega)]
 by_cases h : y=0
 ·subst h
  rw [Option.bind_some,if_pos bl_zero]
  exact ⟨false,[],[1],0,1,rfl,Nm.nil.up (Nat.zero_le _),Nm.one.up (by omega),by decide,by rw [qv_zero (.inl rfl),qv_zero (.inr rfl)]⟩
 ·rw [Option.bind_some,if_neg (fun hh=>h ((bl_zero_iff hb.pos).mp hh))]
  have:=hb.pos
  exact ⟨n,a,b,x,y,rfl,ha,hb.up (by omega),by omega,rfl⟩
theorem plus_f {a b c d : List Int} {i j k l : Nat} {x y u v : Int} (ha : Nm a i x) (hb : Nm b j y) (hc : Nm c k u) (hd : Nm d l v) (hi : i < 100000000) (hj : j < 100000000) (hk : k < 100000000) (hl : l < 100000000) (n m : Bool) :
  Ev (fun r=>rat_plus.f r n a b m c d) (cq (qv n x y+qv m u v)):=by
 obtain ⟨n',a',b',x',y',e1,ha',hb',y0,w1⟩:=whole_f ha hb hj n
 obtain ⟨m',c',d',u',v',e2,hc',hd',v0,w2⟩:=whole_f hc hd hl m
 rw [← w1,← w2,plus_val (by omega) (by omega)]
 have hx:=ha'.pos
 have hu:=hc'.pos
 have p1:=ha'.mulL hd'
 have p2:=hc'.mulL hb'
 have p3:=hb'.mulL hd'
 unfold rat_plus.f
 refine Ev_some e1 ?_
 refine Ev_some e2 ?_
 refine Ev.bind (ha'.mul hd' (by omega) (by omega)) ?_
 refine Ev.bind (hc'.mul hb' (by omega) (by omega)) ?_
 refine Ev.bind (hb'.mul hd' (by omega) (by omega)) ?_
 by_cases h : n'=m'
 ·refine Ev_pos (by simpa using h) ?_
  rw [if_pos h,← cq_qv (Int.add_nonneg p1.pos p2.pos) p3.pos]
  refine Ev.bind (p1.add p2 (by omega) (by omega)) ?_
  exact made_f (p1.sumL p2) p3 (by omega) (by omega) _
 ·refine Ev_neg (by simpa using h) ?_
  rw [if_neg h]
  refine Ev.bind (p1.sub p2 (by omega) (by omega)) ?_
  unfold subS
  by_cases hl : x' * v' < u' * y'
  ·rw [if_pos hl,if_neg (by omega)]
   refine Ev_neg (by simp) ?_
   refine Ev.bind (p2.sub p1 (by omega) (by omega)) ?_
   unfold subS
   rw [if_neg (by omega),← cq_qv (by omega) p3.pos]
   exact made_f (Nm.L (n:=k+(j+1)) (by omega) (by have:=p2.lt;have:=p1.pos;omega)) p3 (by omega) (by omega) _
  ·rw [if_neg hl,if_pos (by omega)]
   refine Ev_pos rfl ?_
   rw [← cq_qv (by omega) p3.pos]
   exact made_f (Nm.L (n:=i+(l+1)) (by omega) (by have:=p1.lt;have:=p2.pos;omega)) p3 (by omega) (by omega) _
theorem readq {q : Rat} {n : Nat} (h : Sz q n) (hn : n < 100000000) : Ev (fun r=>rat_Read.f r (cq q).1 (cq q).2.1 (cq q).2.2) (cq q):=by
 have h2:=read_f h.nums.1 h.nums.2 (by omega) (by omega) (decide (q.num < 0))
 rw [cq_qv (Int.natCast_nonneg _) (Int.natCast_nonneg _),qv_cq] at h2
 exact h2
theorem plusq {q r : Rat} {m n : Nat} (h : Sz q m) (k : Sz r n) (hm : m < 100000000) (hn : n < 100000000) : Ev (fun t=>rat_plus.f t (cq q).1 (cq q).2.1 (cq q).2.2 (cq r).1 (cq r).2.1 (cq r).2.2) (cq (q+r)):=by
 have h2:=plus_f h.nums.1 h.nums.2 k.nums.1 k.nums.2 hm hm hn hn (decide (q.num < 0)) (decide (r.num < 0))
 rw [qv_cq,qv_cq] at h2
 exact h2
end Go.Proofs.YtncdiodnbkhacaaDoor.N
end
section
namespace Go.Proofs.YtncdiodnbkhacaaDoor.N
set_option linter.unusedVariables false
set_option linter.unusedSimpArgs false
open Go Go.RowKit Go.Proofs.YtncdiodnbkhacaaDoorW.PrintWords Go.Proofs.YtncdiodnbkhacaaDoorW.PrintLast Go.Proofs.YtncdiodnbkhacaaDoorW.PrintMore Go.Proofs.YtncdiodnbkhacaaDoor.Pq
theorem nd_full {l : List UInt8} (h : ∀ c∈l,isD c=true) : nd l=l.length:=by
 have:=nd_append (r:=[]) h (fun c hc=>by cases hc)
 rwa [List.append_nil] at this
theorem not45 {l : List UInt8} (h : ∀ c∈l,isD c=true) (r : List UInt8) (h0 : l≠[]) : ¬ (l++r).head? = some 45:=by
 cases l with
|nil=>exact absurd rfl h0
|cons c t =>
  intro e
  have e2 : c=45:=by simpa using e
  have:=h c (by simp)
  rw [e2] at this
  exact absurd this (by decide)
theorem cut_join {l : List UInt8} (h : ∀ c∈l,isD c=true) (r : List UInt8) (h0 : l≠[]) (neg : Bool) : cutS ((if neg=true then [45] else [])++(l++r))=(l++r,neg):=by
 unfold cutS
 cases neg
 ·simp only [Bool.false_eq_true,if_false,List.nil_append]
  rw [if_neg (not45 h r h0)]
 ·simp only [if_true,List.cons_append,List.nil_append,List.head?_cons,List.drop_succ_cons,List.drop_zero]
theorem parse_two {neg : Bool} {d m : List UInt8} {c : UInt8} (hd : ∀ c∈d,isD c=true) (hm : ∀ c∈m,isD c=true) (d0 : d≠[]) (m0 : m≠[]) (hc : c.toNat=46∨c.toNat=47) (hl : d.length+m.length≤1000) :
  parseS ((if neg=true then [45] else [])++(d++c :: m))=if c.toNat=46 then finS neg (nv 0 (d++m)) (10 ^ m.length) else finS neg (nv 0 d) (nv 0 m):=by
 have hlen : ¬ ((if neg=true then [(45 : UInt8)] else [])++(d++c :: m)).length > 20000:=by
  have : (if neg=true then [(45 : UInt8)] else []).length≤1:=by split <;> simp
  rw [List.length_append,List.length_append,List.length_cons]
  omega
 have hnd : nd (d++c :: m)=d.length:=nd_append hd (fun x hx=>by
  have e : x=c:=by simpa using hx.symm
  rw [e,isD_iff]
  omega)
 have dl : d.length≠0:=fun h=>d0 (List.eq_nil_of_length_eq_zero h)
 have ml : m.length≠0:=fun h=>m0 (List.eq_nil_of_length_eq_zero h)
 unfold parseS
 rw [if_neg hlen,cut_join hd _ d0]
 unfold bodyS
 rw [hnd,if_neg dl,List.take_left,List.drop_left,restS_cons,nd_full hm,if_neg (by omega)]
theorem parse_one {d : List UInt8} (hd : ∀ c∈d,isD c=true) (d0 : d≠[]) (hl : d.length≤1000) : parseS d=finS false (nv 0 d) 1:=by
 have hc:=cut_join hd [] d0 false
 simp only [Bool.false_eq_true,if_false,List.nil_append,List.append_nil] at hc
 have dl : d.length≠0:=fun h=>d0 (List.eq_nil_of_length_eq_zero h)
 unfold parseS
 rw [if_neg (by omega),hc]
 unfold bodyS
 rw [nd_full hd,if_neg dl,List.take_length,List.drop_length]
 rfl
theorem finS_pos {neg : Bool} {x y : Int} (hx : 0≤x) (hy : 0 < y) : finS neg x y=((cq (qv neg x y)).1,(cq (qv neg x y)).2.1,(cq (qv neg x y)).2.2,0):=by
 unfold finS
 rw [if_neg (by omega),cq_qv hx (Int.le_of_lt hy)]
theorem nv_noughts (v : Int) : ∀ n : Nat,nv v (List.replicate n 48)=v * 10 ^ n
|0=>by simp [nv]
|n+1=>by
  rw [List.replicate_succ']
  rw [nv_append,nv_noughts v n]
  unfold nv nv
  rw [Int.pow_succ,← Int.mul_assoc,show ((48 : UInt8).toNat : Int)=48 from rfl]
  omega
theorem qv_scale {neg : Bool} {x y z : Int} (hz : z≠0) : qv neg (x * z) (y * z)=qv neg x y:=by
 have hz' : (z : Rat)≠0:=by simpa using hz
 simp only [divInt_qv]
 by_cases hy : y=0
 ·subst hy
  simp [Rat.div_def]
 ·have hy' : (y : Rat)≠0:=by simpa using hy
  cases neg <;> simp only [Bool.false_eq_true,if_false,if_true,Rat.intCast_mul] <;> grind
theorem qv_neg (neg : Bool) (x y : Int) : qv (!neg) x y = -qv neg x y:=by
 simp only [divInt_qv]
 cases neg <;> simp only [Bool.not_false,Bool.not_true,Bool.false_eq_true,if_false,if_true] <;> grind
theorem neg_f {q : Rat} {n : Nat} (h : Sz q n) (hn : n < 100000000) : Ev (fun r=>rat_Neg.f r (cq q).1 (cq q).2.1 (cq q).2.2) (cq (-q)):=by
 unfold rat_Neg.f
 have h2:=made_f h.nums.1 h.nums.2 (by omega) (by omega) (!decide (q.num < 0))
 rw [cq_qv (Int.natCast_nonneg _) (Int.natCast_nonneg _),qv_neg,qv_cq] at h2
 exact Ev.bind h2 (Ev.now _)
end Go.Proofs.YtncdiodnbkhacaaDoor.N
end
section
namespace Go.Proofs.YtncdiodnbkhacaaDoor.N
open Go Go.RowKit Go.Proofs.YtncdiodnbkhacaaDoor.Pq Go.Proofs.YtncdiodnbkhacaaDoorW.PrintWords Go.Proofs.YtncdiodnbkhacaaDoorW.PrintLast
set_option linter.unusedVariables false
set_option linter.unusedSimpArgs false
def digB : ByteArray:=⟨#[48,49,50,51,52,53,54,55,56,57]⟩
theorem dig_ten : ∀ n : Fin 10,bs (digB.extract n.val (n.val+1))=[UInt8.ofNat (48+n.val)]∧isD (UInt8.ofNat (48+n.val))=true:=by decide +kernel
theorem dig_one (n : Fin 10) : ∃ c,bs (digB.extract n.val (n.val+1))=[c]∧isD c=true:=⟨_,dig_ten n⟩
theorem digits_l0 (l : List Int) (hl : l.length≤140737488351232) (hw : ∀ x∈l,(Lit.int .u8 x).wf=true) : ∀ (d i : Nat) (b : ByteArray),60 - i=d→i≤60→(bs b).length=i→(∀ c∈bs b,isD c=true) →
  ∃ r,Ev (fun k=>penumbralaw04_digits.l0 k l b (i : Int)) r∧(bs r).length≤60 ∧ ∀ c∈bs r,isD c=true:=by
 intro d
 induction d with
|zero =>
  intro i b hd hi hb hD
  refine ⟨b,?_,by omega,hD⟩
  refine Ev_up ?_
  simp only [penumbralaw04_digits.l0]
  by_cases h : (i : Int) < (l.length : Int)
  ·exact Ev_pos h (Ev_neg (by omega) (Ev.now _))
  ·exact Ev_neg h (Ev.now _)
|succ d ih =>
  intro i b hd hi hb hD
  by_cases h : (i : Int) < (l.length : Int)
  ·have hx : (Lit.int .u8 (rd l (i : Int))).wf=true:=hw _ (by unfold rd;rw [Int.toNat_natCast,List.getD_eq_getElem?_getD,List.getElem?_eq_getElem (by omega)];exact List.getElem_mem _)
   have hx2 : 0≤rd l (i : Int)∧rd l (i : Int)≤255:=by
    have h1:=hx
    simp [Lit.wf] at h1
    have e1 : IntKind.u8.min=0:=rfl
    have e2 : IntKind.u8.max=255:=rfl
    omega
   obtain ⟨x,hxx⟩ : ∃ x,rd l (i : Int)=x:=⟨_,rfl⟩
   rw [hxx] at hx2
   have ht : Int.tmod x 10=x % 10:=Int.tmod_eq_emod_of_nonneg hx2.1
   obtain ⟨n,hn⟩ : ∃ n : Fin 10,x % 10=(n.val : Int):=⟨⟨(x % 10).toNat,by omega⟩,by simp;omega⟩
   obtain ⟨c,hc,hcd⟩:=dig_one n
   have hn9:=n.isLt
   have hm : ((n.val : Int)+1) % 256=((n.val+1 : Nat) : Int):=by omega
   have hcs : (digB.extract n.val (n.val+1)).size=1:=by rw [bs_size,hc];rfl
   obtain ⟨r,hr,hrl,hrd⟩:=ih (i+1) (b++digB.extract n.val (n.val+1)) (by omega) (by omega) (by rw [bs_append,hc,List.length_append,hb];rfl) (by
    intro z hz
    rw [bs_append,hc] at hz
    rcases List.mem_append.mp hz with hz|hz
    ·exact hD z hz
    ·rw [List.mem_singleton.mp hz];exact hcd)
   refine ⟨r,?_,hrl,hrd⟩
   refine Ev_up ?_
   simp only [penumbralaw04_digits.l0]
   rw [hxx,ht,hn]
   have hbs:=bs_size b
   have g1 : (i : Int) < 60:=by omega
   have g2 : 0≤(i : Int):=by omega
   have g3 : 0≤(n.val : Int):=by omega
   have g4 : (n.val : Int)≤((n.val : Int)+1) % 256:=by omega
   have g5 : ((n.val : Int)+1) % 256≤10:=by omega
   have g6 : b.size+(digB.extract n.val (n.val+1)).size≤9223372036854775807:=by omega
   have hw1 : wrap64 ((i : Int)+1)=((i+1 : Nat) : Int):=by clear g1 g2 g3 g4 g5 g6;unfold wrap64;omega
   refine Ev_pos h (Ev_pos g1 (Ev_pos g2 (Ev_pos g3 (Ev_pos g4 (Ev_pos g5 ?_)))))
   rw [hm,Int.toNat_natCast,Int.toNat_natCast,hw1]
   exact Ev_pos g6 hr
  ·refine ⟨b,?_,by omega,hD⟩
   refine Ev_up ?_
   simp only [penumbralaw04_digits.l0]
   exact Ev_neg h (Ev.now _)
theorem lawdigits (l : List Int) (hl : l.length≤140737488351232) (hw : ∀ x∈l,(Lit.int .u8 x).wf=true) : ∃ r,Ev (fun k=>penumbralaw04_digits.f k l) r∧(bs r).length≤60 ∧ ∀ c∈bs r,isD c=true :=
 digits_l0 l hl hw 60 0 ⟨#[]⟩ rfl (by omega) rfl (fun c hc=>by cases hc)
theorem noughts_digits (n : Nat) : ∀ c∈List.replicate n (48 : UInt8),isD c=true:=fun c hc=>by rw [(List.mem_replicate.mp hc).2];decide
theorem digits_append {a b : List UInt8} (ha : ∀ c∈a,isD c=true) (hb : ∀ c∈b,isD c=true) : ∀ c∈a++b,isD c=true:=fun c hc=>(List.mem_append.mp hc).elim (ha c) (hb c)
theorem bs48 : bs (⟨#[48]⟩ : ByteArray)=[48]:=rfl
theorem size_ne {b : ByteArray} (h : ¬ b.toList=[]) : bs b≠[]:=by rw [bs_list] at h;exact h
theorem is_cq (q : Rat) (n : Nat) (h : Sz q n) (hn : n < 1000000) : Ev (fun k=>penumbraref03_Is.f k (cq q).1 (cq q).2.1 (cq q).2.2 (cq q).1 (cq q).2.1 (cq q).2.2) true:=is_same (by have:=h.nums.1.le;unfold cq;dsimp only;omega) (by have:=h.nums.2.le;unfold cq;dsimp only;omega)
theorem bs_nz : ∀ i,bs (nz i)=List.replicate i 48
|0=>rfl
|i+1=>by unfold nz;rw [bs_append,bs_nz i,bs48,← List.replicate_succ']
theorem bs_no : ∀ i,bs (no i)=49 :: List.replicate i 48
|0=>rfl
|i+1=>by unfold no;rw [bs_append,bs_no i,bs48,List.cons_append,← List.replicate_succ']
set_option maxHeartbeats 4000000 in
theorem points_end {s t : ByteArray} {N : Nat} (hs : ∀ c∈bs s,isD c=true) (ht : ∀ c∈bs t,isD c=true) (ls : (bs s).length≤60) (lt : (bs t).length≤60) (s0 : bs s≠[]) (t0 : bs t≠[]) (hN : N≤20) :
  ∃ (a c d p : Bool × List Int × List Int) (K : Nat),∀ k,K≤k→Pts k s t N a c d p:=by
 have hz:=bs_nz N
 have ho:=bs_no t.size
 generalize hzz : nz N=z at hz
 generalize hoo : no t.size=o at ho
 have zs:=bs_size s
 have zt:=bs_size t
 rw [zt] at ho
 have zz:=bs_size z
 have zo:=bs_size o
 rw [hz,List.length_replicate] at zz
 rw [ho,List.length_cons,List.length_replicate] at zo
 have e1 : ∀ x : Int,nv 0 (49 :: List.replicate x.toNat 48)=10 ^ x.toNat:=fun x=>by
  have h : nv 0 (49 :: List.replicate x.toNat 48)=nv 1 (List.replicate x.toNat 48):=rfl
  rw [h,nv_noughts,Int.one_mul]
 have X0:=nv_bound (digits_append hs ht) (v:=0) (n:=0) (by decide) (by decide)
 have S0:=nv_bound hs (v:=0) (n:=0) (by decide) (by decide)
 have T0:=nv_bound ht (v:=0) (n:=0) (by decide) (by decide)
 have e2 : nv 0 (bs s++bs t)=nv 0 (bs s) * 10 ^ (bs t).length+nv 0 (bs t):=by rw [nv_append,nv_ahead]
 have tp:=ten_pos (bs t).length
 have np:=ten_pos N
 rw [Nat.zero_add,List.length_append] at X0
 rw [Nat.zero_add] at S0 T0
 have szX : Sz (qv false (nv 0 (bs s++bs t)) (10 ^ (bs t).length)) 300 :=
  (Sz.qv (m:=120) (n:=61) X0.1 (Int.le_of_lt tp) (Int.lt_of_lt_of_le X0.2 (Int.le_trans (ten_P _) (P_le (by omega)))) (Int.lt_of_le_of_lt (ten_P _) (P_lt (by omega)))).up (by omega)
 have szS : Sz (qv false (nv 0 (bs s)) 1) 300 :=
  (Sz.qv (m:=60) (n:=1) S0.1 (by decide) (Int.lt_of_lt_of_le S0.2 (Int.le_trans (ten_P _) (P_le (by omega)))) (by rw [show P 1=4294967296 by decide +kernel];decide)).up (by omega)
 have szT : Sz (qv false (nv 0 (bs t)) (10 ^ (bs t).length)) 300 :=
  (Sz.qv (m:=60) (n:=61) T0.1 (Int.le_of_lt tp) (Int.lt_of_lt_of_le T0.2 (Int.le_trans (ten_P _) (P_le (by omega)))) (Int.lt_of_le_of_lt (ten_P _) (P_lt (by omega)))).up (by omega)
 -- the five texts
 have pA : parseS (bs s++46 :: bs t)=finS false (nv 0 (bs s++bs t)) (10 ^ (bs t).length):=by
  have h:=parse_two (neg:=false) (c:=46) hs ht s0 t0 (.inl rfl) (by omega)
  simpa using h
 have pB : parseS (bs s++bs t++47 :: (49 :: List.replicate (bs t).length 48))=finS false (nv 0 (bs s++bs t)) (10 ^ (bs t).length):=by
  have h:=parse_two (neg:=false) (c:=47) (d:=bs s++bs t) (m:=49 :: List.replicate (bs t).length 48) (digits_append hs ht) (fun c hc=>(List.mem_cons.mp hc).elim (fun e=>by rw [e];decide) (noughts_digits _ c)) (by simp [s0]) (by simp) (.inr rfl) (by simp;omega)
  have e3:=e1 ((bs t).length : Int)
  rw [Int.toNat_natCast] at e3
  rw [e3] at h
  simpa using h
 have pC : parseS (45 :: (List.replicate N 48++bs s++46 :: (bs t++List.replicate N 48)))=finS true (nv 0 (bs s++bs t) * 10 ^ N) (10 ^ (bs t).length * 10 ^ N):=by
  have h:=parse_two (neg:=true) (c:=46) (d:=List.replicate N 48++bs s) (m:=bs t++List.replicate N 48) (digits_append (noughts_digits N) hs) (digits_append ht (noughts_digits N)) (by simp [s0]) (by simp [t0]) (.inl rfl) (by simp;omega)
  have e4 : nv 0 (List.replicate N 48++bs s++(bs t++List.replicate N 48))=nv 0 (bs s++bs t) * 10 ^ N:=by
   rw [List.append_assoc,nv_append,nv_noughts,Int.zero_mul,← List.append_assoc,nv_append,nv_noughts]
  rw [e4,List.length_append,List.length_replicate,Int.pow_add] at h
  simpa using h
 have pP : parseS (48 :: 46 :: bs t)=finS false (nv 0 (bs t)) (10 ^ (bs t).length):=by
  have h:=parse_two (neg:=false) (c:=46) (d:=[48]) (by decide) ht (by simp) t0 (.inl rfl) (by simp;omega)
  have e5 : nv 0 ([48]++bs t)=nv 0 (bs t):=rfl
  rw [e5] at h
  simpa using h
 have pS:=parse_one hs s0 (by omega)
 rw [finS_pos X0.1 tp] at pA pB
 rw [finS_pos (Int.mul_nonneg X0.1 (Int.le_of_lt np)) (Int.mul_pos tp np),qv_scale (by omega),show qv true (nv 0 (bs s++bs t)) (10 ^ (bs t).length) = -qv false (nv 0 (bs s++bs t)) (10 ^ (bs t).length) from qv_neg false _ _] at pC
 rw [finS_pos S0.1 (by decide)] at pS
 rw [finS_pos T0.1 tp] at pP
 have hsum : qv false (nv 0 (bs s)) 1+qv false (nv 0 (bs t)) (10 ^ (bs t).length)=qv false (nv 0 (bs s++bs t)) (10 ^ (bs t).length):=by
  rw [plus_val (by decide) (by omega),if_pos rfl,e2,Int.mul_one,Int.one_mul]
 have hnn : - -qv false (nv 0 (bs s++bs t)) (10 ^ (bs t).length)=qv false (nv 0 (bs s++bs t)) (10 ^ (bs t).length):=Rat.neg_neg _
 have szN : Sz (-qv false (nv 0 (bs s++bs t)) (10 ^ (bs t).length)) 300:=by
  unfold Sz
  rw [Rat.neg_num,Rat.neg_den,Int.natAbs_neg]
  exact szX
 generalize qv false (nv 0 (bs s++bs t)) (10 ^ (bs t).length)=qa at *
 generalize qv false (nv 0 (bs s)) 1=qs at *
 generalize qv false (nv 0 (bs t)) (10 ^ (bs t).length)=qt at *
 have big : ∀ b : ByteArray,(bs b).length≤1000→b.size≤140737488351232:=fun b h=>by rw [bs_size];omega
 have b46 : bs (⟨#[46]⟩ : ByteArray)=[46]:=rfl
 have b47 : bs (⟨#[47]⟩ : ByteArray)=[47]:=rfl
 have b45 : bs (⟨#[45]⟩ : ByteArray)=[45]:=rfl
 have b0 : bs (⟨#[48,46]⟩ : ByteArray)=[48,46]:=rfl
 have fA : Ev (fun k=>decimal_Parse.f k ((s++(⟨#[46]⟩ : ByteArray))++t)) ((cq qa).1,(cq qa).2.1,(cq qa).2.2,0):=by
  have e : bs ((s++(⟨#[46]⟩ : ByteArray))++t)=bs s++46 :: bs t:=by rw [bs_append,bs_append,b46,List.append_assoc,List.singleton_append]
  have h:=parse_f (big _ (by rw [e,List.length_append,List.length_cons];omega))
  rw [e,pA] at h
  exact h
 have fB : Ev (fun k=>decimal_Parse.f k (((s++t)++(⟨#[47]⟩ : ByteArray))++o)) ((cq qa).1,(cq qa).2.1,(cq qa).2.2,0):=by
  have e : bs (((s++t)++(⟨#[47]⟩ : ByteArray))++o)=bs s++bs t++47 :: (49 :: List.replicate (bs t).length 48):=by rw [bs_append,bs_append,bs_append,b47,ho,List.append_assoc (bs s++bs t),List.singleton_append]
  have h:=parse_f (big _ (by rw [e,List.length_append,List.length_append,List.length_cons,List.length_cons,List.length_replicate];omega))
  rw [e,pB] at h
  exact h
 have fC : Ev (fun k=>decimal_Parse.f k ((((((⟨#[45]⟩ : ByteArray)++z)++s)++(⟨#[46]⟩ : ByteArray))++t)++z)) ((cq (-qa)).1,(cq (-qa)).2.1,(cq (-qa)).2.2,0):=by
  have e : bs ((((((⟨#[45]⟩ : ByteArray)++z)++s)++(⟨#[46]⟩ : ByteArray))++t)++z)=45 :: (List.replicate N 48++bs s++46 :: (bs t++List.replicate N 48)):=by
   rw [bs_append,bs_append,bs_append,bs_append,bs_append,b45,b46,hz]
   simp
  have h:=parse_f (big _ (by rw [e];simp;omega))
  rw [e,pC] at h
  exact h
 have fS : Ev (fun k=>decimal_Parse.f k s) ((cq qs).1,(cq qs).2.1,(cq qs).2.2,0):=by
  have h:=parse_f (big s (by omega))
  rw [pS] at h
  exact h
 have fP : Ev (fun k=>decimal_Parse.f k ((⟨#[48,46]⟩ : ByteArray)++t)) ((cq qt).1,(cq qt).2.1,(cq qt).2.2,0):=by
  have e : bs ((⟨#[48,46]⟩ : ByteArray)++t)=48 :: 46 :: bs t:=by rw [bs_append,b0];rfl
  have h:=parse_f (big _ (by rw [e,List.length_cons,List.length_cons];omega))
  rw [e,pP] at h
  exact h
 have fN:=neg_f szN (by omega)
 rw [hnn] at fN
 have fR : Ev (fun k=>rat_Sum.f k [(⟨(cq qs).1,(cq qs).2.1,(cq qs).2.2⟩ : S25),⟨(cq qt).1,(cq qt).2.1,(cq qt).2.2⟩]) (cq qa):=by
  unfold rat_Sum.f
  refine Ev.bind (readq szS (by omega)) ?_
  unfold rat_Sum.n
  refine Ev.bind (plusq szS szT (by omega) (by omega)) ?_
  rw [hsum]
  exact Ev.now _
 have fI:=is_cq qa 300 szX (by omega)
 obtain ⟨k1,h1⟩:=fA
 obtain ⟨k2,h2⟩:=fB
 obtain ⟨k3,h3⟩:=fC
 obtain ⟨k4,h4⟩:=fS
 obtain ⟨k5,h5⟩:=fP
 obtain ⟨k6,h6⟩:=fN
 obtain ⟨k7,h7⟩:=fR
 obtain ⟨k8,h8⟩:=fI
 refine ⟨cq qa,cq (-qa),cq qs,cq qt,k1+k2+k3+k4+k5+k6+k7+k8,fun k hk=>?_⟩
 subst hzz
 subst hoo
 exact ⟨h1 k (by omega),h2 k (by omega),h3 k (by omega),h4 k (by omega),h5 k (by omega),h6 k (by omega),h7 k (by omega),h8 k (by omega)⟩
end Go.Proofs.YtncdiodnbkhacaaDoor.N
namespace Go.Proofs.YtncdiodnbkhacaaDoor.Pure
open Go Go.RowKit Go.Proofs.YtncdiodnbkhacaaDoor.Pq Go.Proofs.YtncdiodnbkhacaaDoorW.PrintWords Go.Proofs.YtncdiodnbkhacaaDoorW.PrintLast Go.Proofs.YtncdiodnbkhacaaDoor.N
theorem DecimalPoints_walk (a0 : Option Addr) (len0 cap0 : Nat) (z0 : List Int) (a1 : Option Addr) (len1 cap1 : Nat) (z1 : List Int) (n : Int) (w : World) (w0 : (a0=none∧len0=0∧cap0=0∧z0=[]) ∨ ∃ x,a0=some x∧len0≤cap0∧cap0≤maxLen∧z0.length=cap0∧(∀ i,i < z0.length→w.cell? (x.add i)=some (.int .u8 (z0.getD i 0))) ∧ ∀ n∈z0,(Lit.int .u8 n).wf=true) (y0 : len0 * 1≤140737488351232) (w1 : (a1=none∧len1=0∧cap1=0∧z1=[]) ∨ ∃ x,a1=some x∧len1≤cap1∧cap1≤maxLen∧z1.length=cap1∧(∀ i,i < z1.length→w.cell? (x.add i)=some (.int .u8 (z1.getD i 0))) ∧ ∀ n∈z1,(Lit.int .u8 n).wf=true) (y1 : len1 * 1≤140737488351232) (w2 : (Lit.int .i64 n).wf=true) :
  Calls Tryd.prog 7 #[.slice a0 len0 cap0,.slice a1 len1 cap1,.int .i64 n] w fun e w'=>e=.returned (.bool true)∧Below w.heap.size w w':=by
 obtain ⟨l0,rfl,hr0,hm0,hw0,hc0⟩:=ReadsInt.ofRowC w0
 obtain ⟨l1,rfl,hr1,hm1,hw1,hc1⟩:=ReadsInt.ofRowC w1
 have c0:=Kd.C_of_reads (d:=(0 : Int)) (h1:=fun _=>rfl) hr0
 have c1:=Kd.C_of_reads (d:=(0 : Int)) (h1:=fun _=>rfl) hr1
 obtain ⟨s,⟨k1,fs⟩,ls,hs⟩:=lawdigits l0 (by omega) hw0
 obtain ⟨t,⟨k2,ft⟩,lt,ht⟩:=lawdigits l1 (by omega) hw1
 obtain ⟨k3,ff⟩:=fixed4
 by_cases h : s.toList=[]∨t.toList=[]∨n < 0∨20 < n
 ·exact points_early (k1+k2+k3) _ _ l0 _ _ l1 n w c0 hc0 c1 hc1 s t (fs _ (by omega)) (ft _ (by omega)) (ff _ (by omega)) h
 ·obtain ⟨N,rfl⟩ : ∃ N : Nat,n=(N : Int):=⟨n.toNat,by omega⟩
  have s0 : ¬ s.toList=[]:=fun e=>h (.inl e)
  have t0 : ¬ t.toList=[]:=fun e=>h (.inr (.inl e))
  obtain ⟨a,c,d,p,k4,hp⟩:=points_end (N:=N) hs ht ls lt (size_ne s0) (size_ne t0) (by omega)
  exact points_main (k1+k2+k3+k4) _ _ l0 _ _ l1 N w c0 hc0 c1 hc1 s t a c d p (fs _ (by omega)) (ft _ (by omega)) (ff _ (by omega)) (by simpa using s0) (by simpa using t0) (by omega) (by rw [bs_size];exact ls) (by rw [bs_size];exact lt) (hp _ (by omega))
end Go.Proofs.YtncdiodnbkhacaaDoor.Pure
end
section
namespace Go.Proofs.YtncdiodnbkhacaaDoorW.PrintWords
open Go.ChangeShapes Go.WideShapes
theorem sized_ints {H : Type} {enc : TypeId × Value→H} {P : Program} {W : World} {base : Nat} {spare : Nat→Bool} {held : Bool} {t e : TypeId} {k : IntKind} {a : Option Addr} {len cap : Nat} {d : DataW H} {ps : List MemPlace} {ts : List TypeId} {ds : List (DataW H)} {j : Nat}
  (hsz : (DataW.weightsEach P ts ds).all (· ≤ reachBytes)=true) (ht : ts[j]? = some t) (hd : ds[j]? = some d) (hu : P.underlying t=some (.slice e)) (he : P.underlying e=some (.int k)) (hc : P.cellsOf e=1) {B : Nat} (hB : P.bytesOf e=B)
  (h : DataW.Trod enc P W base spare held t (.slice a len cap) d ps) : len * B≤140737488351232:=by
 obtain ⟨fuel,hf⟩:=h
 rcases open_ints hu he hc hf with ⟨hcs,_⟩|⟨x,l,c,zs,hcs,_,hl,_,hz,hx,_,_⟩
 ·simp [Value.cells] at hcs
  obtain ⟨rfl,rfl,rfl⟩:=hcs
  simp
 ·simp [Value.cells] at hcs
  obtain ⟨rfl,rfl,rfl⟩:=hcs
  obtain ⟨hx,_⟩:=Prod.mk.inj hx
  subst hx
  have z:=sized_slice hsz ht hd hu
  rw [hB] at z
  have hl2 : len≤zs.length:=by
   rw [hz]
   split
   ·exact hl
   ·exact Nat.le_refl _
  have h1 : (lits (H:=H) k (zs.take len)).length+(lits (H:=H) k (zs.drop len)).length=zs.length:=by
   simp [lits]
   omega
  rw [h1] at z
  exact Nat.le_trans (Nat.mul_le_mul_right _ hl2) z
end Go.Proofs.YtncdiodnbkhacaaDoorW.PrintWords
end
section
namespace Go.Proofs.YtncdiodnbkhacaaDoor.decimalPoints
open Go.ChangeShapes Go.WideShapes Go.ChangeAt Go.RowKit
open Go.ChangeMaps (open_string shut_string)
set_option linter.unusedVariables false
theorem own : ownKnob Tryd.prog.godebug=none:=by kernel_rfl
theorem laidOut : laidOutB Tryd.prog=true:=by kernel_rfl
def IsRow (k : IntKind) (w : World) (a : Option Addr) (len cap : Nat) (zs : List Int) : Prop :=
 (a=none∧len=0∧cap=0∧zs=[]) ∨
 ∃ x,a=some x∧len≤cap∧cap≤maxLen∧zs.length=cap∧(∀ i,i < zs.length→w.cell? (x.add i)=some (.int k (zs.getD i 0))) ∧ ∀ n∈zs,(Lit.int k n).wf=true
theorem reads (os : Os) {H : Type} (enc : TypeId × Value→H) : ∃ places,DataW.whole enc Tryd.prog ((Lb.world os).forCall (fun _ _=>0) ⟨#[],#[.slice none 0 0,.slice none 0 0,.int .i64 0],[]⟩).memory Tryd.f7.params.toList Rows.decimalPointsSpec.vars false (#[.slice none 0 0,.slice none 0 0,.int .i64 0] : Array Value).toList 8=some ([.nil,.nil,.lit (.int .i64 0)],[],places) :=
 ⟨[],by kernel_rfl⟩
set_option maxRecDepth 100000 in
theorem lifted (os : Os) (started : os.Started) (H : Type) (enc : TypeId × Value→H) (F : Stop.Interp) :
  ReturnsInHanded {} Tryd.checked os 7 .any ((OpenSpec.ofChange Rows.decimalPointsSpec).preRow enc Tryd.prog Tryd.f7 Rows.decimalPointsRow.domain false Rows.decimalPointsRow.laid) (((OpenSpec.ofChange Rows.decimalPointsSpec).at F).post enc Tryd.prog Tryd.f7 false true false false):=by
 obtain ⟨x,hx⟩:=reads os enc
 refine returnsInHanded_of_row (C:=Tryd.checked) (s:=(OpenSpec.ofChange Rows.decimalPointsSpec)) own started (by kernel_rfl) Tryd.func7
  (witness_row_at (enc:=enc) (C:=Tryd.checked) false (Lb.world os) #[.slice none 0 0,.slice none 0 0,.int .i64 0] rfl (Lb.vars os _) (Lb.rest os _) (by kernel_rfl)
   (OpenSpec.preRow_of_cond 8 hx (by kernel_rfl) (fun k hk=>by cases hk) (by kernel_rfl) (Lb.met os _))) ?_
 intro W base args ds gs before hval0 hW hcnd _ hsz0 _ _ _
 have hsz : (DataW.weightsEach Tryd.prog (Tryd.f7.params.toList++Rows.decimalPointsSpec.plain.varTypes Tryd.prog) (ds++gs)).all (· ≤ reachBytes)=true:=hsz0
 have hval : ∀ (j : Nat) t v,Tryd.f7.params[j]? = some t→args[j]? = some v→Value.okWide Tryd.prog W .any base t v:=hval0
 have hW':=hW
 obtain ⟨p,q,hA0,hV,rfl,hfz,hnd⟩:=hW
 have hA : DataW.TrodAll enc Tryd.prog W 0 (fun _=>true) true Tryd.f7.params.toList args.toList ds p:=hA0
 rw [Tryd.params7] at hA hval hsz
 obtain ⟨v0,vs0,d0,ds0,p0,q0,hargs,rfl,rfl,h0,r0⟩:=trodAll_cons hA
 obtain ⟨v1,vs1,d1,ds1,p1,q1,rfl,rfl,rfl,h1,r1⟩:=trodAll_cons r0
 obtain ⟨v2,vs2,d2,ds2,p2,q2,rfl,rfl,rfl,h2,r2⟩:=trodAll_cons r1
 obtain ⟨rfl,rfl,rfl⟩:=trodAll_nil r2
 obtain rfl : args=#[v0,v1,v2]:=by cases args;simp_all
 obtain ⟨rfl,rfl⟩:=trodVars_none hV
 obtain ⟨a0,len0,cap0,rfl⟩:=okWide_slice Tryd.underlying39 (hval 0 39 v0 rfl rfl)
 have k0:=h0
 have lt0 : ∀ x∈p0,x.block < W.heap.size:=by obtain ⟨m,hm⟩:=k0;exact DataW.trod_lt m _ _ _ hm
 obtain ⟨z0,w0⟩ : ∃ zs,IsRow .u8 W a0 len0 cap0 zs:=by
  obtain ⟨fuel,hf⟩:=h0
  rcases open_ints Tryd.underlying39 Tryd.underlying5 (by kernel_rfl) hf with ⟨hcs,_⟩|⟨x,l,c,zs,hcs,_,hl,hm,hz,_,hcell,hwz⟩
  ·simp [Value.cells] at hcs
   obtain ⟨rfl,rfl,rfl⟩:=hcs
   exact ⟨[],.inl ⟨rfl,rfl,rfl,rfl⟩⟩
  ·simp [Value.cells] at hcs
   obtain ⟨rfl,rfl,rfl⟩:=hcs
   exact ⟨zs,.inr ⟨_,rfl,hl,hm,by simpa using hz,hcell,hwz⟩⟩
 have y0 : len0 * 1≤140737488351232:=Go.Proofs.YtncdiodnbkhacaaDoorW.PrintWords.sized_ints hsz (j:=0) (t:=39) rfl rfl Tryd.underlying39 Tryd.underlying5 (by kernel_rfl) (by kernel_rfl) h0
 obtain ⟨a1,len1,cap1,rfl⟩:=okWide_slice Tryd.underlying39 (hval 1 39 v1 rfl rfl)
 have k1:=h1
 have lt1 : ∀ x∈p1,x.block < W.heap.size:=by obtain ⟨m,hm⟩:=k1;exact DataW.trod_lt m _ _ _ hm
 obtain ⟨z1,w1⟩ : ∃ zs,IsRow .u8 W a1 len1 cap1 zs:=by
  obtain ⟨fuel,hf⟩:=h1
  rcases open_ints Tryd.underlying39 Tryd.underlying5 (by kernel_rfl) hf with ⟨hcs,_⟩|⟨x,l,c,zs,hcs,_,hl,hm,hz,_,hcell,hwz⟩
  ·simp [Value.cells] at hcs
   obtain ⟨rfl,rfl,rfl⟩:=hcs
   exact ⟨[],.inl ⟨rfl,rfl,rfl,rfl⟩⟩
  ·simp [Value.cells] at hcs
   obtain ⟨rfl,rfl,rfl⟩:=hcs
   exact ⟨zs,.inr ⟨_,rfl,hl,hm,by simpa using hz,hcell,hwz⟩⟩
 have y1 : len1 * 1≤140737488351232:=Go.Proofs.YtncdiodnbkhacaaDoorW.PrintWords.sized_ints hsz (j:=1) (t:=39) rfl rfl Tryd.underlying39 Tryd.underlying5 (by kernel_rfl) (by kernel_rfl) h1
 obtain ⟨a2,rfl,rfl,rfl,w2⟩:=open_int Tryd.underlying3 (hval 2 3 v2 rfl rfl) h2
 clear hA0 hval0 hsz0 hsz
 refine (Pure.DecimalPoints_walk a0 len0 cap0 z0 a1 len1 cap1 z1 a2 W w0 y0 w1 y1 w2).mono fun e W' ⟨he,bel⟩=>?_
 subst he
 exact ⟨_,rfl,_,_,_,[],_,[],hW',trodAll_mk1 (shut_bool Tryd.underlying4 _),(trodAll_cons_mk (Below.trod laidOut (by kernel_rfl) (of_decide_eq_true (by kernel_rfl)) k0 bel lt0) (trodAll_cons_mk (Below.trod laidOut (by kernel_rfl) (of_decide_eq_true (by kernel_rfl)) k1 bel lt1) (trodAll_cons_mk (shut_int Tryd.underlying3 w2) trodAll_mk0))),rfl,bel.frame _,fun h=>by cases h⟩
theorem over : Rows.decimalPointsRow.holds Tryd.pinned (OpenSpec.ofChange Rows.decimalPointsSpec) :=
 OpenClaim.holds_of_cond 7 Tryd.f7 rfl rfl rfl rfl rfl rfl rfl ⟨rfl,rfl,rfl,rfl,rfl⟩ rfl rfl rfl rfl rfl (by kernel_rfl) Tryd.func7 (by kernel_rfl)
  (of_decide_eq_true (by kernel_rfl)) (by unfold Func.isWrapper;first|(rw [if_pos (by decide +kernel)];kernel_rfl)|(rw [if_neg (by decide +kernel)];exact ⟨rfl,rfl⟩))
  (fun os started H enc _ F=>by rw [OpenClaim.pre_eq_preRow];exact lifted os started H enc F)
theorem proved : Rows.DecimalPointsSaid:=over
theorem plain (f : FuncId) (fn : Func) (hf : Tryd.pinned.checked.prog.funcNamed "penumbra/penumbralaw04.DecimalPoints" = some f) (hfn : Tryd.pinned.checked.prog.funcs[f]? = some fn) :
  false=Tryd.pinned.checked.prog.looks [] ∧ ∀ (j : Nat) t,fn.params[j]? = some t→Tryd.pinned.checked.prog.wantsStandIn t=false:=by
 obtain rfl : f=7:=Option.some.inj ((show Tryd.prog.funcNamed "penumbra/penumbralaw04.DecimalPoints" = some 7 by kernel_rfl).symm.trans hf) |>.symm
 obtain rfl : fn=Tryd.f7:=(Option.some.inj (Tryd.func7.symm.trans hfn)).symm
 refine ⟨by kernel_rfl,fun j t ht=>?_⟩
 rw [Tryd.params7] at ht
 have hm:=Array.mem_of_getElem? ht
 simp only [List.mem_toArray,List.mem_cons,List.not_mem_nil,or_false] at hm
 rcases hm with rfl|rfl|rfl
 ·exact (show Tryd.prog.wantsStandIn 39=false by kernel_rfl)
 ·exact (show Tryd.prog.wantsStandIn 39=false by kernel_rfl)
 ·exact (show Tryd.prog.wantsStandIn 3=false by kernel_rfl)
theorem card : Rows.DecimalPointsCardSaid :=
 Claim7.holds_tied_plain_at .later [] _ _ _ _ proved (fun _ h=>by cases h) (by kernel_rfl) (fun _ h=>by cases h) decimalPoints_row_tie rfl ⟨rfl,rfl⟩ (by kernel_rfl) rfl plain (by kernel_rfl)
#print axioms card
end Go.Proofs.YtncdiodnbkhacaaDoor.decimalPoints
namespace Go.Proofs.YtncdiodnbkhacaaDoor
theorem decimalPoints_holds : Rows.DecimalPointsCardSaid:=decimalPoints.card
end Go.Proofs.YtncdiodnbkhacaaDoor
end
