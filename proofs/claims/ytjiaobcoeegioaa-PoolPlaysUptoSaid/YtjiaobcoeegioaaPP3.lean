import Derived.Test.YtjiaobcoeegioaaPP2
set_option linter.unusedVariables false
set_option linter.unusedSimpArgs false
section
namespace Go.Proofs.Ytjiaobcoeegioaa.N
open Go Go.RowKit Go.Proofs.YtjiaobcoeegioaaW.PrintWords Go.Proofs.YtjiaobcoeegioaaW.PrintLast Go.Proofs.YtjiaobcoeegioaaW.PrintMore Go.Proofs.Ytjiaobcoeegioaa.Pq
def gz (x y : Int) : Int:=(Int.gcd x y : Int)
theorem gz_nonneg (x y : Int) : 0≤gz x y:=Int.natCast_nonneg _
theorem gz_nat (m n : Nat) : gz (m : Int) (n : Int)=(Nat.gcd m n : Int):=by
 unfold gz;rw [Int.gcd_natCast_natCast]
theorem gz_zero {x : Int} (h : 0≤x) : gz x 0=x:=by
 obtain ⟨m,rfl⟩:=Int.eq_ofNat_of_zero_le h;have:=gz_nat m 0;rw [Nat.gcd_zero_right] at this;exact this
theorem gz_step {x y : Int} (hx : 0≤x) (hy : 0≤y) : gz y (x % y)=gz x y:=by
 obtain ⟨m,rfl⟩:=Int.eq_ofNat_of_zero_le hx;obtain ⟨n,rfl⟩:=Int.eq_ofNat_of_zero_le hy;have e : ((m : Int) % (n : Int))=((m % n : Nat) : Int):=rfl;rw [e,gz_nat,gz_nat,Nat.gcd_comm n,← Nat.gcd_rec,Nat.gcd_comm]
theorem gz_comm (x y : Int) : gz x y=gz y x:=by unfold gz;rw [Int.gcd_comm]
theorem gz_dvd_left (x y : Int) : gz x y ∣ x:=Int.gcd_dvd_left ..
theorem gz_dvd_right (x y : Int) : gz x y ∣ y:=Int.gcd_dvd_right ..
theorem gz_lt {x y B : Int} (hx : 0≤x) (hy : 0≤y) (hxB : x < B) (hyB : y < B) : gz x y < B:=by
 rcases Int.lt_or_eq_of_le hx with h|h
 ·have:=Int.le_of_dvd h (gz_dvd_left x y)
  omega
 ·subst h
  rw [gz_comm,gz_zero hy];exact hyB
theorem L_len0 {x : Int} (h : 0≤x) : ((L x).length : Int)=0↔x=0:=by
 rw [← L_nil_iff h];constructor
 ·intro e;exact List.eq_nil_of_length_eq_zero (by omega)
 ·intro e;rw [e];rfl
theorem dmS_pos {x y : Int} (h : 0 < y) : dmS x y=(L (x / y),L (x % y),true):=if_neg (by omega)
theorem gcd_l0 {N : Nat} (hN : N < 35184360000000) : ∀ (M : Nat) (x y : Int),y.toNat < M→0≤x→0≤y→x < P N→y < P N→Ev (fun k=>root_Gcd.l0 k (L x) (L y)) (L (gz x y)):=by
 intro M
 induction M with
 | zero=>intro x y h;omega
 | succ M ih =>
  intro x y hM hx hy hxN hyN;have hl:=L_len0 hy;refine Ev_up ?_;unfold root_Gcd.l0
  by_cases h0 : y=0
  ·have h1 : ¬ ((L y).length : Int) > 0:=by rw [hl.2 h0];decide
   refine Ev_neg h1 ?_;refine Ev_now ?_;rw [h0,gz_zero hx]
  ·have hp : 0 < y:=by omega
   have h1 : ((L y).length : Int) > 0:=by
    have : ((L y).length : Int)≠0:=fun e=>h0 (hl.1 e)
    omega
   have m0:=Int.emod_nonneg x h0;have m1:=Int.emod_lt_of_pos x hp;refine Ev_pos h1 ?_;refine Ev.bind ((Nm.L hx hxN).dm (Nm.L hy hyN) hN hN) ?_;rw [dmS_pos hp,← gz_step hx hy];exact ih y (x % y) (by omega) hy m0 hyN (by omega)
theorem Nm.gcd {a b : List Int} {m n : Nat} {x y : Int} (h : Nm a m x) (k : Nm b n y) (hm : m < 17592180000000) (hn : n < 17592180000000) : Ev (fun r=>root_Gcd.f r a b) (N.L (gz x y)):=by
 refine Ev_some (h.nrm (by omega)) ?_;refine Ev_some (k.nrm (by omega)) ?_;exact gcd_l0 (N:=m+n) (by omega) _ x y (Nat.lt_succ_self _) h.pos k.pos (Int.lt_of_lt_of_le h.lt (P_le (by omega))) (Int.lt_of_lt_of_le k.lt (P_le (by omega)))
theorem Nm.gcdL {a b : List Int} {m n : Nat} {x y : Int} (h : Nm a m x) (k : Nm b n y) : Nm (N.L (gz x y)) (m+n) (gz x y) :=
 Nm.L (gz_nonneg x y) (gz_lt h.pos k.pos (Int.lt_of_lt_of_le h.lt (P_le (by omega))) (Int.lt_of_lt_of_le k.lt (P_le (by omega))))
theorem rgcd_l0 {N : Nat} (hN : N < 8796093000000) : ∀ (M : Nat) (a b : List Int) (x y : Int),y.toNat < M→Nm a N x→Nm b N y→Ev (fun k=>penumbraref02_Gcd.l0 k a b) (L (gz x y)):=by
 intro M
 induction M with
 | zero=>intro a b x y h;omega
 | succ M ih =>
  intro a b x y hM hx hy;have px:=hx.pos;have py:=hy.pos;refine Ev_up ?_;unfold penumbraref02_Gcd.l0;refine Ev.bind (hy.rzero (by omega)) ?_
  by_cases h0 : y=0
  ·refine Ev_pos (decide_eq_true h0) ?_
   refine Ev.bind (hx.rnrm (by omega)) ?_;refine Ev_now ?_;rw [h0,gz_zero px]
  ·have hp : 0 < y:=by omega
   have m0:=Int.emod_nonneg x h0;have m1:=Int.emod_lt_of_pos x hp;refine Ev_neg (by rw [decide_eq_true_iff];exact h0) ?_;refine Ev.bind (hx.rdm hy hN hN) ?_;rw [dmS_pos hp,← gz_step px py];exact ih b (L (x % y)) y (x % y) (by omega) hy (Nm.L m0 (Int.lt_trans m1 hy.lt))
theorem Nm.rgcd {a b : List Int} {m n : Nat} {x y : Int} (h : Nm a m x) (k : Nm b n y) (hm : m < 4398040000000) (hn : n < 4398040000000) : Ev (fun r=>penumbraref02_Gcd.f r a b) (N.L (gz x y)) :=
 rgcd_l0 (N:=m+n) (by omega) _ a b x y (Nat.lt_succ_self _) (h.up (by omega)) (k.up (by omega))
end Go.Proofs.Ytjiaobcoeegioaa.N
end
section
namespace Go.Proofs.Ytjiaobcoeegioaa.N
open Go Go.RowKit Go.Proofs.YtjiaobcoeegioaaW.PrintWords Go.Proofs.YtjiaobcoeegioaaW.PrintLast Go.Proofs.YtjiaobcoeegioaaW.PrintMore Go.Proofs.Ytjiaobcoeegioaa.Pq
def ratS (neg : Bool) (x y : Int) : Bool × List Int × List Int:=if x=0∨y=0 then (false,[],[1]) else (neg,L (x / gz x y),L (y / gz x y))
theorem ratS_zero {neg : Bool} {x y : Int} (h : x=0∨y=0) : ratS neg x y=(false,[],[1]):=if_pos h
theorem ratS_pos {neg : Bool} {x y : Int} (h : ¬ (x=0∨y=0)) : ratS neg x y=(neg,L (x / gz x y),L (y / gz x y)):=if_neg h
theorem gz_pos {x y : Int} (h : ¬ (x=0∨y=0)) : 0 < gz x y:=by
 have h1:=gz_nonneg x y
 by_cases h2 : gz x y=0
 ·exfalso
  have h3:=gz_dvd_left x y;rw [h2] at h3;exact h (.inl (Int.zero_dvd.mp h3))
 ·omega
theorem gz_le {x y : Int} (hx : 0≤x) (h : ¬ (x=0∨y=0)) : gz x y≤x:=Int.le_of_dvd (by omega) (gz_dvd_left x y)
theorem made_f {a b : List Int} {m n : Nat} {x y : Int} (h : Nm a m x) (k : Nm b n y) (hm : m < 1000000000) (hn : n < 1000000000) (neg : Bool) : Ev (fun r=>rat_made.f r neg a b) (ratS neg x y):=by
 have hx:=h.pos;have hy:=k.pos
 have jT : ∀ (l : List Int) (l' : List Int),Ev (fun r=>rat_made.j0 r neg l l' true) (false,[],[1]):=fun l l'=>by
  refine Ev_up ?_;unfold rat_made.j0;exact Ev_pos rfl (Ev.now _)
 unfold rat_made.f;refine Ev_some (h.nrm (by omega)) ?_;refine Ev_some (k.nrm (by omega)) ?_
 by_cases hx0 : x=0
 ·refine Ev_pos ((L_len0 hx).mpr hx0) ?_
  rw [ratS_zero (.inl hx0)];exact jT _ _
 ·refine Ev_neg (fun hh=>hx0 ((L_len0 hx).mp hh)) ?_
  by_cases hy0 : y=0
  ·rw [ratS_zero (.inr hy0),show (((N.L y).length : Int) == 0)=true from beq_iff_eq.mpr ((L_len0 hy).mpr hy0)]
   exact jT _ _
  ·have h0 : ¬ (x=0∨y=0):=by omega
   have hg:=gz_pos h0;have hgx:=gz_le hx h0;rw [ratS_pos h0,show (((N.L y).length : Int) == 0)=false from beq_eq_false_iff_ne.mpr (fun hh=>hy0 ((L_len0 hy).mp hh))]
   have jj : Ev (fun r=>rat_made.j1 r neg (L x) (L y) (L (gz x y)) true) (neg,L (x / gz x y),L (y / gz x y)):=by
    refine Ev_up ?_;unfold rat_made.j1;refine Ev_pos rfl ?_;refine Ev.bind (h.norm.dm (h.norm.gcdL k.norm) (by omega) (by omega)) ?_;refine Ev.bind (k.norm.dm (h.norm.gcdL k.norm) (by omega) (by omega)) ?_;rw [dmS_pos hg,dmS_pos hg];exact Ev.now _
   refine Ev_up ?_;simp only [rat_made.j0];refine Ev_neg (by simp) ?_;refine Ev.bind (h.norm.gcd k.norm (by omega) (by omega)) ?_
   by_cases hl : ((L (gz x y)).length : Int) > 1
   ·exact Ev_pos hl jj
   ·have hl0 : 0 < (L (gz x y)).length:=L_length_lt (m:=0) (by rw [P_zero];omega)
    refine Ev_neg hl ?_;refine Ev_pos (by omega) ?_
    by_cases h1 : rd (L (gz x y)) 0 > 1
    ·rw [decide_eq_true h1]
     exact jj
    ·rw [decide_eq_false h1]
     have hb : gz x y < 4294967296:=by
      have h9:=V_lt (W_L (gz x y))
      have e1 : (L (gz x y)).length=1:=by omega
      rw [V_L (Int.le_of_lt hg),e1,show P 1=4294967296 by decide +kernel] at h9;exact h9
     have hgg : gz x y=1:=by
      rw [L_pos hg] at h1;have e2 : rd (gz x y % 4294967296 :: L (gz x y / 4294967296)) 0=gz x y % 4294967296:=rfl;rw [e2] at h1;generalize gz x y=g at *;omega
     refine Ev_up ?_;simp only [rat_made.j1];refine Ev_neg (by simp) ?_;rw [hgg,Int.ediv_one,Int.ediv_one];exact Ev.now _
theorem rread_f {a b : List Int} {m n : Nat} {x y : Int} (h : Nm a m x) (k : Nm b n y) (hm : m < 1000000000) (hn : n < 1000000000) (neg : Bool) : Ev (fun r=>penumbraref03_Read.f r neg a b) (ratS neg x y):=by
 have hx:=h.pos;have hy:=k.pos
 have jT : ∀ (l : List Int) (l' : List Int),Ev (fun r=>penumbraref03_Read.j0 r true neg l l') (false,[],[1]):=fun l l'=>by
  refine Ev_up ?_;unfold penumbraref03_Read.j0;refine Ev_pos rfl ?_;exact Ev.now _
 unfold penumbraref03_Read.f;refine Ev.bind (k.rzero (by omega)) ?_
 by_cases hy0 : y=0
 ·rw [ratS_zero (.inr hy0),decide_eq_true hy0]
  exact Ev_pos rfl (jT _ _)
 ·rw [decide_eq_false hy0]
  refine Ev_neg (by simp) ?_;refine Ev.bind (h.rzero (by omega)) ?_
  by_cases hx0 : x=0
  ·rw [ratS_zero (.inl hx0),decide_eq_true hx0]
   exact jT _ _
  ·have h0 : ¬ (x=0∨y=0):=by omega
   have hg:=gz_pos h0;rw [ratS_pos h0,decide_eq_false hx0];refine Ev_up ?_;simp only [penumbraref03_Read.j0];refine Ev_neg (by simp) ?_;refine Ev.bind (h.rgcd k (by omega) (by omega)) ?_;refine Ev.bind (h.rdm (h.gcdL k) (by omega) (by omega)) ?_;refine Ev.bind (k.rdm (h.gcdL k) (by omega) (by omega)) ?_;rw [dmS_pos hg,dmS_pos hg];exact Ev.now _
theorem read_f {a b : List Int} {m n : Nat} {x y : Int} (h : Nm a m x) (k : Nm b n y) (hm : m < 1000000000) (hn : n < 1000000000) (neg : Bool) : Ev (fun r=>rat_Read.f r neg a b) (ratS neg x y):=by
 unfold rat_Read.f;refine Ev.bind (made_f h k hm hn neg) ?_;exact Ev.now _
theorem ratS_parts {m n : Nat} {x y : Int} (hx : 0≤x) (hy : 0≤y) (hxm : x < P m) (hyn : y < P n) (neg : Bool) :
  ∃ s p q,ratS neg x y=(s,L p,L q)∧Nm (L p) m p∧Nm (L q) (n+1) q∧0 < q:=by
 by_cases h : x=0∨y=0
 ·refine ⟨false,0,1,by rw [ratS_zero h,L_zero,show L 1=[1] by rw [L_pos (by decide),show (1 : Int) / 4294967296=0 from rfl,L_zero];rfl],?_,?_,by decide⟩
  ·exact Nm.zero.up (Nat.zero_le _)
  ·rw [show L 1=[1] by rw [L_pos (by decide),show (1 : Int) / 4294967296=0 from rfl,L_zero];rfl]
   exact Nm.one.up (by omega)
 ·have hg:=gz_pos h
  refine ⟨neg,x / gz x y,y / gz x y,ratS_pos h,?_,?_,?_⟩
  ·exact Nm.L (Int.ediv_nonneg hx (by omega)) (Int.lt_of_le_of_lt (Int.ediv_le_self _ hx) hxm)
  ·exact (Nm.L (n:=n) (Int.ediv_nonneg hy (by omega)) (Int.lt_of_le_of_lt (Int.ediv_le_self _ hy) hyn)).up (by omega)
  ·exact Int.ediv_pos_of_pos_of_dvd (by omega) (by omega) (gz_dvd_right x y)
end Go.Proofs.Ytjiaobcoeegioaa.N
end
section
namespace Go.Proofs.Ytjiaobcoeegioaa.N
open Go Go.RowKit Go.Proofs.YtjiaobcoeegioaaW.PrintWords Go.Proofs.YtjiaobcoeegioaaW.PrintLast Go.Proofs.YtjiaobcoeegioaaW.PrintMore Go.Proofs.Ytjiaobcoeegioaa.Pq
def qv (neg : Bool) (x y : Int) : Rat:=if neg=true then Rat.divInt (-x) y else Rat.divInt x y
def cq (q : Rat) : Bool × List Int × List Int:=(decide (q.num < 0),L (q.num.natAbs : Int),L (q.den : Int))
theorem L_unit : L 1=[1]:=by rw [L_pos (by decide),show (1 : Int) / 4294967296=0 from rfl,L_zero];rfl
theorem cq_zero : cq 0=(false,[],[1]):=by unfold cq;rw [← L_unit,← L_zero];rfl
theorem qv_zero {neg : Bool} {x y : Int} (h : x=0∨y=0) : qv neg x y=0:=by
 unfold qv
 rcases h with rfl|rfl <;> cases neg <;> simp [Rat.divInt_zero,Rat.zero_divInt]
theorem cq_qv {neg : Bool} {x y : Int} (hx : 0≤x) (hy : 0≤y) : ratS neg x y=cq (qv neg x y):=by
 by_cases h : x=0∨y=0
 ·rw [ratS_zero h,qv_zero h,cq_zero]
 ·rw [ratS_pos h]
  have x0 : 0 < x:=by omega
  have y0 : 0 < y:=by omega
  have hg:=gz_pos h
  have g1 : ((y.gcd x : Nat) : Int)=gz x y:=by unfold gz;rw [Int.gcd_comm]
  have g2 : ((y.gcd (-x) : Nat) : Int)=gz x y:=by rw [Int.gcd_neg];exact g1
  have hd1 : 0 < x / gz x y:=Int.ediv_pos_of_pos_of_dvd x0 (by omega) (gz_dvd_left x y);have hd2 : 0≤y / gz x y:=Int.ediv_nonneg hy (by omega)
  have hden : ∀ z : Int,((y.gcd z : Nat) : Int)=gz x y→(((Rat.divInt z y).den : Nat) : Int)=y / gz x y:=by
   intro z hz;rw [Rat.den_divInt,if_neg (by omega),Int.natCast_ediv,hz];rw [Int.natAbs_of_nonneg hy]
  unfold cq qv;cases neg
  ·rw [if_neg (by simp)]
   have hn : (Rat.divInt x y).num=x / gz x y:=by
    rw [Rat.num_divInt,g1,Int.sign_eq_one_of_pos y0,Int.one_mul]
   rw [hn,hden x g1,Int.natAbs_of_nonneg (by omega),decide_eq_false (by omega)]
  ·rw [if_pos rfl]
   have hn : (Rat.divInt (-x) y).num = -(x / gz x y):=by
    rw [Rat.num_divInt,g2,Int.sign_eq_one_of_pos y0,Int.one_mul,Int.neg_ediv_of_dvd (gz_dvd_left x y)]
   rw [hn,hden (-x) g2,Int.natAbs_neg,Int.natAbs_of_nonneg (by omega),decide_eq_true (by omega)]
def Sz (q : Rat) (n : Nat) : Prop:=(q.num.natAbs : Int) < P n∧(q.den : Int) < P n
theorem Sz.nums {q : Rat} {n : Nat} (h : Sz q n) : Nm (L (q.num.natAbs : Int)) n (q.num.natAbs : Int)∧Nm (L (q.den : Int)) n (q.den : Int):=⟨Nm.L (Int.natCast_nonneg _) h.1,Nm.L (Int.natCast_nonneg _) h.2⟩
theorem qv_cq (q : Rat) : qv (decide (q.num < 0)) (q.num.natAbs : Int) (q.den : Int)=q:=by
 unfold qv
 by_cases h : q.num < 0
 ·rw [decide_eq_true h,if_pos rfl,show -((q.num.natAbs : Nat) : Int)=q.num by omega]
  exact Rat.num_divInt_den q
 ·rw [decide_eq_false h,if_neg (by simp),show ((q.num.natAbs : Nat) : Int)=q.num by omega]
  exact Rat.num_divInt_den q
theorem Sz.up {q : Rat} {m n : Nat} (h : Sz q m) (hmn : m≤n) : Sz q n:=⟨Int.lt_of_lt_of_le h.1 (P_le hmn),Int.lt_of_lt_of_le h.2 (P_le hmn)⟩
theorem Sz.qv {neg : Bool} {x y : Int} {m n : Nat} (hx : 0≤x) (hy : 0≤y) (hxm : x < P m) (hyn : y < P n) : Sz (qv neg x y) (m+n+1):=by
 obtain ⟨s,p,q,e,hp,hq,hq0⟩:=ratS_parts hx hy hxm hyn neg;rw [cq_qv hx hy] at e;obtain ⟨_,e⟩:=Prod.mk.inj e;obtain ⟨e1,e2⟩:=Prod.mk.inj e;have e1:=L_inj (Int.natCast_nonneg _) hp.pos e1;have e2:=L_inj (Int.natCast_nonneg _) hq.pos e2;exact ⟨by rw [e1];exact Int.lt_of_lt_of_le hp.lt (P_le (by omega)),by rw [e2];exact Int.lt_of_lt_of_le hq.lt (P_le (by omega))⟩
theorem divInt_qv (neg : Bool) (x y : Int) : qv neg x y=(if neg=true then -(x : Rat) else (x : Rat)) / (y : Rat):=by
 unfold qv
 cases neg <;> simp [Rat.divInt_eq_div,Rat.intCast_neg]
theorem Sz.add {q r : Rat} {m n : Nat} (h : Sz q m) (k : Sz r n) : Sz (q+r) (m+n+1):=by
 have pm:=P_pos m;have pn:=P_pos n
 have e : P (m+n+1)=4294967296 * (P m * P n):=by rw [P_succ,P_add]
 obtain ⟨h1,h2⟩:=h;obtain ⟨k1,k2⟩:=k;have t1 : ((q.num.natAbs : Nat) : Int) * (r.den : Int)≤P m * P n:=Int.mul_le_mul (by omega) (by omega) (Int.natCast_nonneg _) (by omega)
 have t2 : ((r.num.natAbs : Nat) : Int) * (q.den : Int)≤P m * P n:=by rw [Int.mul_comm (P m)];exact Int.mul_le_mul (by omega) (by omega) (Int.natCast_nonneg _) (by omega)
 have t3 : ((q.den : Nat) : Int) * (r.den : Int)≤P m * P n:=Int.mul_le_mul (by omega) (by omega) (Int.natCast_nonneg _) (by omega);have t0 : 0 < P m * P n:=Int.mul_pos pm pn
 have u1 : (((q.num * (r.den : Int)).natAbs : Nat) : Int)=((q.num.natAbs : Nat) : Int) * (r.den : Int):=by rw [Int.natAbs_mul,Int.natCast_mul,Int.natAbs_natCast]
 have u2 : (((r.num * (q.den : Int)).natAbs : Nat) : Int)=((r.num.natAbs : Nat) : Int) * (q.den : Int):=by rw [Int.natAbs_mul,Int.natCast_mul,Int.natAbs_natCast]
 have d0 : q.den * r.den≠0:=Nat.mul_ne_zero q.den_nz r.den_nz;rw [Rat.add_def'];unfold Sz;rw [Rat.num_mkRat,if_neg d0,Rat.den_mkRat,if_neg d0,e];constructor
 ·have z1 : ∀ (a : Int) (g : Nat),(((a / (g : Int)).natAbs : Nat) : Int)≤((a.natAbs : Nat) : Int):=fun a g=>Int.ofNat_le.mpr (Int.natAbs_ediv_le_natAbs a g)
  have z2:=z1 (q.num * ↑r.den+r.num * ↑q.den) ((q.den * r.den).gcd (q.num * ↑r.den+r.num * ↑q.den).natAbs);omega
 ·have z1:=Nat.div_le_self (q.den * r.den) ((q.den * r.den).gcd (q.num * ↑r.den+r.num * ↑q.den).natAbs)
  have z2 : ((q.den * r.den : Nat) : Int)=(q.den : Int) * (r.den : Int):=Int.natCast_mul _ _;omega
theorem plus_val {n m : Bool} {x y u v : Int} (hy : y≠0) (hv : v≠0) : qv n x y+qv m u v =
  if n=m then qv n (x * v+u * y) (y * v) else if u * y≤x * v then qv n (x * v - u * y) (y * v) else qv m (u * y - x * v) (y * v):=by
 have hy' : (y : Rat)≠0:=by simpa using hy
 have hv' : (v : Rat)≠0:=by simpa using hv
 simp only [divInt_qv]
 cases n <;> cases m <;> simp only [Bool.false_eq_true,if_false,if_true,Rat.intCast_add,Rat.intCast_mul,Rat.intCast_sub,reduceCtorEq] <;> (try split) <;> grind
theorem bl_zero_iff {x : Int} (h : 0≤x) : bl x=0↔x=0:=by
 constructor
 ·intro hb
  by_cases h0 : x=0
  ·exact h0
  ·have:=bl_pos (n:=x) (by omega)
   omega
 ·intro hb
  rw [hb,bl_zero]
theorem whole_f {a b : List Int} {i j : Nat} {x y : Int} (ha : Nm a i x) (hb : Nm b j y) (hj : j < 100000000) (n : Bool) :
  ∃ m c d u v,rat_whole.f n a b=some (m,c,d)∧Nm c i u∧Nm d (j+1) v∧0 < v∧qv m u v=qv n x y:=by
 unfold rat_whole.f;rw [hb.bits (by omega)]
 by_cases h : y=0
 ·subst h
  rw [Option.bind_some,if_pos bl_zero];exact ⟨false,[],[1],0,1,rfl,Nm.nil.up (Nat.zero_le _),Nm.one.up (by omega),by decide,by rw [qv_zero (.inl rfl),qv_zero (.inr rfl)]⟩
 ·rw [Option.bind_some,if_neg (fun hh=>h ((bl_zero_iff hb.pos).mp hh))]
  have:=hb.pos;exact ⟨n,a,b,x,y,rfl,ha,hb.up (by omega),by omega,rfl⟩
theorem plus_f {a b c d : List Int} {i j k l : Nat} {x y u v : Int} (ha : Nm a i x) (hb : Nm b j y) (hc : Nm c k u) (hd : Nm d l v) (hi : i < 100000000) (hj : j < 100000000) (hk : k < 100000000) (hl : l < 100000000) (n m : Bool) :
  Ev (fun r=>rat_plus.f r n a b m c d) (cq (qv n x y+qv m u v)):=by
 obtain ⟨n',a',b',x',y',e1,ha',hb',y0,w1⟩:=whole_f ha hb hj n;obtain ⟨m',c',d',u',v',e2,hc',hd',v0,w2⟩:=whole_f hc hd hl m;rw [← w1,← w2,plus_val (by omega) (by omega)];have hx:=ha'.pos;have hu:=hc'.pos;have p1:=ha'.mulL hd';have p2:=hc'.mulL hb';have p3:=hb'.mulL hd';unfold rat_plus.f;refine Ev_some e1 ?_;refine Ev_some e2 ?_;refine Ev.bind (ha'.mul hd' (by omega) (by omega)) ?_;refine Ev.bind (hc'.mul hb' (by omega) (by omega)) ?_;refine Ev.bind (hb'.mul hd' (by omega) (by omega)) ?_
 by_cases h : n'=m'
 ·refine Ev_pos (by simpa using h) ?_
  rw [if_pos h,← cq_qv (Int.add_nonneg p1.pos p2.pos) p3.pos];refine Ev.bind (p1.add p2 (by omega) (by omega)) ?_;exact made_f (p1.sumL p2) p3 (by omega) (by omega) _
 ·refine Ev_neg (by simpa using h) ?_
  rw [if_neg h];refine Ev.bind (p1.sub p2 (by omega) (by omega)) ?_;unfold subS
  by_cases hl : x' * v' < u' * y'
  ·rw [if_pos hl,if_neg (by omega)]
   refine Ev_neg (by simp) ?_;refine Ev.bind (p2.sub p1 (by omega) (by omega)) ?_;unfold subS;rw [if_neg (by omega),← cq_qv (by omega) p3.pos];exact made_f (Nm.L (n:=k+(j+1)) (by omega) (by have:=p2.lt;have:=p1.pos;omega)) p3 (by omega) (by omega) _
  ·rw [if_neg hl,if_pos (by omega)]
   refine Ev_pos rfl ?_;rw [← cq_qv (by omega) p3.pos];exact made_f (Nm.L (n:=i+(l+1)) (by omega) (by have:=p1.lt;have:=p2.pos;omega)) p3 (by omega) (by omega) _
end Go.Proofs.Ytjiaobcoeegioaa.N
end
section
namespace Go.Proofs.Ytjiaobcoeegioaa.N
open Go Go.RowKit Go.Proofs.YtjiaobcoeegioaaW.PrintWords Go.Proofs.YtjiaobcoeegioaaW.PrintLast Go.Proofs.YtjiaobcoeegioaaW.PrintMore Go.Proofs.Ytjiaobcoeegioaa.Pq
abbrev RatS:=S63
structure Wf (n : Nat) (x : RatS) : Prop where
 a : Nm x.f1 n (V x.f1)
 b : Nm x.f2 n (V x.f2)
def qOf (x : RatS) : Rat:=qv x.f0 (V x.f1) (V x.f2)
def mkR (q : Rat) : RatS:=⟨(cq q).1,(cq q).2.1,(cq q).2.2⟩
def chk (x : RatS) : Bool:=(x.f0 == (cq (qOf x)).1) && (x.f1 == (cq (qOf x)).2.1) && (x.f2 == (cq (qOf x)).2.2)
theorem chk_iff {x : RatS} : chk x=true↔x=mkR (qOf x):=by
 obtain ⟨a,b,c⟩:=x;unfold chk mkR;simp only [Bool.and_eq_true,beq_iff_eq];constructor
 ·rintro ⟨⟨h1,h2⟩,h3⟩
  exact congr (congr (congrArg S63.mk h1) h2) h3
 ·intro h
  injection h with h1 h2 h3
  exact ⟨⟨h1,h2⟩,h3⟩
theorem Wf.up {m n : Nat} {x : RatS} (h : Wf m x) (hmn : m≤n) : Wf n x:=⟨h.a.up hmn,h.b.up hmn⟩
theorem Sz.wf {q : Rat} {n : Nat} (h : Sz q n) : Wf n (mkR q):=⟨by
 have:=h.nums.1;unfold mkR cq;dsimp only;rw [V_L this.pos]
 exact this,by
 have:=h.nums.2;unfold mkR cq;dsimp only;rw [V_L this.pos]
 exact this⟩
theorem qOf_mkR (q : Rat) : qOf (mkR q)=q:=by
 unfold qOf mkR;have h1 : V (cq q).2.1=(q.num.natAbs : Int):=V_L (Int.natCast_nonneg _);have h2 : V (cq q).2.2=(q.den : Int):=V_L (Int.natCast_nonneg _);rw [h1,h2];exact qv_cq q
theorem chk_mkR (q : Rat) : chk (mkR q)=true:=chk_iff.mpr (by rw [qOf_mkR])
theorem Wf.sz {n : Nat} {x : RatS} (h : Wf n x) : Sz (qOf x) (n+n+1):=Sz.qv h.a.pos h.b.pos h.a.lt h.b.lt
theorem read_ev {n : Nat} {x : RatS} (h : Wf n x) (hn : n < 10000000) : Ev (fun k=>rat_Read.f k x.f0 x.f1 x.f2) (cq (qOf x)):=by
 have h2:=read_f h.a h.b (by omega) (by omega) x.f0;rw [cq_qv h.a.pos h.b.pos] at h2;exact h2
theorem equal_l0 {a b : List Int} (hl : a.length=b.length) (ha : a.length < 4611686018427387904) : ∀ (d i : Nat),a.length - i=d→i≤a.length→(∀ j,j < i→a.getD j 0=b.getD j 0) →
  Ev (fun k=>slices_Equal_uint32_uint32.l0 k a b (a.length : Int) (i : Int)) (a == b):=by
 intro d
 induction d with
 | zero =>
  intro i hd hi hj
  obtain rfl : i=a.length:=by omega
  refine Ev_up ?_;simp only [slices_Equal_uint32_uint32.l0];refine Ev_neg (by omega) ?_
  have e : a=b:=by
   apply List.ext_getElem hl;intro j h1 h2;have:=hj j h1
   rwa [List.getD_eq_getElem?_getD,List.getD_eq_getElem?_getD,List.getElem?_eq_getElem h1,List.getElem?_eq_getElem h2] at this
  rw [e,beq_self_eq_true];exact Ev.now _
 | succ d ih =>
  intro i hd hi hj
  have h1 : i < a.length:=by omega
  have r1 : rd a (i : Int)=a.getD i 0:=by unfold rd;rw [Int.toNat_natCast]
  have r2 : rd b (i : Int)=b.getD i 0:=by unfold rd;rw [Int.toNat_natCast]
  have g1 : (i : Int) < (a.length : Int):=by omega
  have g2 : 0≤(i : Int):=by omega
  have g3 : (i : Int) < (b.length : Int):=by omega
  have hw : wrap64 ((i : Int)+1)=((i+1 : Nat) : Int):=by clear ih hj;unfold wrap64;omega
  refine Ev_up ?_;simp only [slices_Equal_uint32_uint32.l0];refine Ev_pos g1 (Ev_pos g2 (Ev_pos g1 (Ev_pos g3 ?_)));rw [r1,r2,hw]
  by_cases he : a.getD i 0=b.getD i 0
  ·refine Ev_pos he ?_
   exact ih (i+1) (by omega) (by omega) (fun j hj'=>by
    rcases Nat.lt_or_ge j i with h|h
    ·exact hj j h
    ·obtain rfl : j=i:=by omega
     exact he)
  ·refine Ev_neg he ?_
   rw [show (a == b)=false from beq_eq_false_iff_ne.mpr (fun e=>he (by rw [e]))];exact Ev.now _
theorem equal_f {a b : List Int} (ha : a.length < 4611686018427387904) : Ev (fun k=>slices_Equal_uint32_uint32.f k a b) (a == b):=by
 unfold slices_Equal_uint32_uint32.f
 by_cases hl : a.length=b.length
 ·exact Ev_pos (by omega) (equal_l0 hl ha a.length 0 rfl (Nat.zero_le _) (fun j hj=>by omega))
 ·refine Ev_neg (by omega) ?_
  rw [show (a == b)=false from beq_eq_false_iff_ne.mpr (fun e=>hl (by rw [e]))];exact Ev.now _
theorem check_ev {n : Nat} {x : RatS} (h : Wf n x) (hn : n < 10000000) : Ev (fun k=>rat_Check.f k x.f0 x.f1 x.f2) (chk x):=by
 unfold rat_Check.f chk;have hs:=h.sz.nums;refine Ev.bind (read_ev h hn) ?_
 by_cases h1 : ((cq (qOf x)).1 == x.f0)=true
 ·refine Ev_pos h1 ?_
  rw [show (x.f0 == (cq (qOf x)).1)=true by rw [beq_iff_eq] at h1 ⊢;exact h1.symm,Bool.true_and];have l1 : (cq (qOf x)).2.1.length < 4611686018427387904:=Nat.lt_of_le_of_lt hs.1.le (by omega);have l2 : (cq (qOf x)).2.2.length < 4611686018427387904:=Nat.lt_of_le_of_lt hs.2.le (by omega)
  have c1 : ((cq (qOf x)).2.1 == x.f1)=(x.f1 == (cq (qOf x)).2.1):=by rw [Bool.eq_iff_iff,beq_iff_eq,beq_iff_eq];exact eq_comm
  have c2 : ((cq (qOf x)).2.2 == x.f2)=(x.f2 == (cq (qOf x)).2.2):=by rw [Bool.eq_iff_iff,beq_iff_eq,beq_iff_eq];exact eq_comm
  have e1:=equal_f (a:=(cq (qOf x)).2.1) (b:=x.f1) l1;have e2:=equal_f (a:=(cq (qOf x)).2.2) (b:=x.f2) l2;rw [c1] at e1;rw [c2] at e2;refine Ev.bind e1 ?_;cases h3 : (x.f1 == (cq (qOf x)).2.1)
  ·exact Ev_neg (by simp) (by rw [Bool.false_and];exact Ev.now _)
  ·exact Ev_pos rfl (Ev.bind e2 (by rw [Bool.true_and];exact Ev.now _))
 ·refine Ev_neg h1 ?_
  rw [show (x.f0 == (cq (qOf x)).1)=false by rw [beq_eq_false_iff_ne];intro e;exact h1 (by rw [e];exact beq_self_eq_true _),Bool.false_and,Bool.false_and];exact Ev.now _
end Go.Proofs.Ytjiaobcoeegioaa.N
end
section
namespace Go.Proofs.Ytjiaobcoeegioaa.N
open Go Go.RowKit Go.Proofs.YtjiaobcoeegioaaW.PrintWords Go.Proofs.YtjiaobcoeegioaaW.PrintLast Go.Proofs.YtjiaobcoeegioaaW.PrintMore Go.Proofs.Ytjiaobcoeegioaa.Pq
def szs (w h b : Int) : Bool:=decide (1≤w) && decide (w≤16) && decide (1≤h) && decide (h≤16) && decide (1≤b) && decide (b≤8)
theorem sizes_f (w h b : Int) : film_sizes.f w h b=some (szs w h b):=by
 unfold film_sizes.f szs
 by_cases h1 : w ≥ 1 <;> by_cases h2 : w≤16 <;> by_cases h3 : h ≥ 1 <;> by_cases h4 : h≤16 <;> by_cases h5 : b ≥ 1 <;> simp [*] <;> omega
def chkF (F : S27) : Bool:=szs F.f0 F.f1 F.f2 && decide ((F.f3.length : Int)=F.f0 * F.f1 * F.f2) && decide ((F.f4.length : Int)=F.f0 * F.f1 * F.f2) && F.f3.all chk && F.f4.all chk
def WfF (n : Nat) (F : S27) : Prop:=(∀ x∈F.f3,Wf n x)∧(∀ x∈F.f4,Wf n x)
end Go.Proofs.Ytjiaobcoeegioaa.N
end
section
namespace Go.Proofs.Ytjiaobcoeegioaa.Pq
open Go.RowKit Go.Proofs.YtjiaobcoeegioaaW.PrintWords Go.Proofs.YtjiaobcoeegioaaW.PrintLast Go.Proofs.YtjiaobcoeegioaaW.PrintMore Go.Proofs.Ytjiaobcoeegioaa.N
theorem szs_prod {w h b : Int} (hs : szs w h b=true) : 0≤w * h∧w * h≤256∧0≤w * h * b∧w * h * b≤2048:=by
 simp only [szs,Bool.and_eq_true,decide_eq_true_eq] at hs;obtain ⟨⟨⟨⟨⟨h1,h2⟩,h3⟩,h4⟩,h5⟩,h6⟩:=hs;have a1 : 0≤w * h:=Int.mul_nonneg (by omega) (by omega);have a2 : w * h≤16 * 16:=Int.mul_le_mul h2 h4 (by omega) (by omega);have a3 : 0≤w * h * b:=Int.mul_nonneg a1 (by omega);have a4 : w * h * b≤(16 * 16) * 8:=Int.mul_le_mul a2 h6 (by omega) (by omega);omega
theorem check_sem {n : Nat} {x : S63} {A1 : Option Addr} {c1 : Nat} {A2 : Option Addr} {c2 : Nat} {w : World} (hw : Wf n x) (hn : n < 10000000) (l1 : x.f1.length≤c1) (g1 : (Kd.int .u32).C w A1 x.f1.length x.f1) (l2 : x.f2.length≤c2) (g2 : (Kd.int .u32).C w A2 x.f2.length x.f2) :
  Calls Try.prog 31 #[.agg #[.bool x.f0,.slice A1 x.f1.length c1,.slice A2 x.f2.length c2]] w fun e w'=>e=.returned (.bool (chk x))∧Below w.heap.size w w':=by
 obtain ⟨k,hk⟩:=(check_ev hw hn).rounds;exact rat_Check.calls k x.f0 _ _ x.f1 _ _ x.f2 _ w g1 l1 g2 l2 hk
theorem odd_sem {n : Nat} {x : S63} {A1 : Option Addr} {c1 : Nat} {A2 : Option Addr} {c2 : Nat} {w : World} (hw : Wf n x) (hn : n < 10000000) (l1 : x.f1.length≤c1) (g1 : (Kd.int .u32).C w A1 x.f1.length x.f1) (l2 : x.f2.length≤c2) (g2 : (Kd.int .u32).C w A2 x.f2.length x.f2) :
  Calls Try.prog 30 #[.agg #[.bool x.f0,.slice A1 x.f1.length c1,.slice A2 x.f2.length c2]] w fun e w'=>e=.returned (.bool (!chk x))∧Below w.heap.size w w':=by
 have H1:=Aside0.mk (And.intro l1 g1);have H2:=Aside0.mk (And.intro l2 g2);clear l1 g1 l2 g2
 go_enter Try.func30,Try.ntmps30
 go_wp2_with (first|(go_at_call 31;(with_reducible refine (check_sem hw hn H1.out.1 (Kd.C_alloc H1.out.2 _) H2.out.1 (Kd.C_alloc H2.out.2 _)).mono ?_);rintro e w1 ⟨rfl,hb⟩))
 go_ret
 exact ⟨rfl,below_step (below_alloc (Below.refl _ _) _) hb⟩
set_option maxHeartbeats 1000000 in
theorem index_sem {n : Nat} (hn : n < 10000000) (A0 : Option Addr) (c0 : Nat) (l : List S63) (w : World) (hr : Kd.C k63 w A0 l.length l) (hw : ∀ x∈l,Wf n x) :
  Calls Try.prog 47 #[.slice A0 l.length c0,.func (.func 30) #[] #[]] w fun e w'=>∃ i : Int,e=.returned (.int .i64 i)∧decide (0≤i) = !(l.all chk)∧Below w.heap.size w w':=by
 have HR:=Aside0.mk hr;have HW:=Aside0.mk hw;have hmax : l.length≤9223372036854775807:=Kd.C_max hr;clear hr hw
 go_enter Try.func47,Try.ntmps47
 go_wp2
 go_loopw [8] (fun i wr=>∃ j : Nat,j≤l.length∧i=.int .i64 j∧Aside0 ((l.take j).all chk=true)∧Aside0 (Below w.heap.size w wr)) (fun i _=>l.length - (intOf i).toNat)
 case atStart=>exact ⟨0,Nat.zero_le _,rfl,⟨rfl⟩,⟨Below.refl _ _⟩⟩
 case round =>
  obtain ⟨j,hj,rfl,HA,HB⟩:=hrel
  by_cases hlt : j < l.length
  ·obtain ⟨ad,A5,c5,A6,c6,rfl,p0,p1,p2,l1,g1,l2,g2⟩:=at_T63 (Kd.C_below HR.out HB.out) (j : Int) (by omega) (by omega)
   rw [Int.toNat_natCast] at p0 p1 p2
   have hx : rd_T63 l (j : Int)=l[j]:=by unfold rd_T63;rw [Int.toNat_natCast,List.getD_eq_getElem?_getD,List.getElem?_eq_getElem hlt];rfl
   have ht : (l.take (j+1)).all chk=((l.take j).all chk && chk l[j]):=by rw [List.take_succ_eq_append_getElem hlt,List.all_append];simp
   have hwx:=HW.out l[j] (List.getElem_mem _)
   have hall : chk l[j]=false→l.all chk=false:=fun h=>by
    rw [List.all_eq_false];exact ⟨l[j],List.getElem_mem _,by simp [h]⟩
   rw [hx] at p0 p1 p2 l1 g1 l2 g2;generalize l[j]=x at *;have G1:=Aside0.mk (And.intro l1 g1);have G2:=Aside0.mk (And.intro l2 g2);have HT:=Aside0.mk ht;have HX:=Aside0.mk hwx;have HQ:=Aside0.mk hall;clear l1 g1 l2 g2 ht hwx hall hx;cases hc : chk x
   all_goals
    go_wp2_with (first|(go_at_call 30;(with_reducible refine (odd_sem HX.out hn G1.out.1 G1.out.2 G2.out.1 G2.out.2).mono ?_);rintro e w1 ⟨rfl,hb⟩))
   ·go_ret
    exact ⟨j,rfl,by simp [HQ.out hc],below_step HB.out hb⟩
   ·go_roundw
    case rel=>exact ⟨j+1,hlt,by go_num,⟨by rw [HT.out,HA.out,hc];rfl⟩,⟨below_step HB.out hb⟩⟩
    case measure=>simp [intOf];omega
  ·obtain rfl : j=l.length:=by omega
   go_wp2
   go_ret
   have h:=HA.out;rw [List.take_length] at h;exact ⟨-1,rfl,by rw [h];rfl,HB.out⟩
theorem contains_sem {n : Nat} (hn : n < 10000000) (A0 : Option Addr) (c0 : Nat) (l : List S63) (w : World) (hr : Kd.C k63 w A0 l.length l) (hw : ∀ x∈l,Wf n x) :
  Calls Try.prog 33 #[.slice A0 l.length c0,.func (.func 30) #[] #[]] w fun e w'=>e=.returned (.bool (!(l.all chk)))∧Below w.heap.size w w':=by
 have H:=Aside0.mk (And.intro hr hw);clear hr hw
 go_enter Try.func33,Try.ntmps33
 go_wp2_with (first|(go_at_call 47;(with_reducible refine (index_sem hn A0 c0 l _ H.out.1 H.out.2).mono ?_);rintro e w1 ⟨i,rfl,hi,hb⟩))
 go_ret
 exact ⟨by rw [← hi];rfl,hb⟩
set_option maxHeartbeats 2000000 in
theorem fcheck_sem {n : Nat} (hn : n < 10000000) (F : S27) (A3 : Option Addr) (c3 : Nat) (A4 : Option Addr) (c4 : Nat) (w : World) (h3 : Kd.C k63 w A3 F.f3.length F.f3) (h4 : Kd.C k63 w A4 F.f4.length F.f4) (hw : WfF n F) :
  Calls Try.prog 16 #[.agg #[.int .i64 F.f0,.int .i64 F.f1,.int .i64 F.f2,.slice A3 F.f3.length c3,.slice A4 F.f4.length c4]] w fun e w'=>e=.returned (.bool (chkF F))∧Below w.heap.size w w':=by
 obtain ⟨W,h,b,xs,ys⟩:=F;have H:=Aside0.mk (show Kd.C k63 w A3 xs.length xs∧Kd.C k63 w A4 ys.length ys∧(∀ x∈xs,Wf n x)∧(∀ x∈ys,Wf n x) from ⟨h3,h4,hw.1,hw.2⟩);have HE:=Aside0.mk (sizes_f W h b);have hm3 : xs.length≤9223372036854775807:=Kd.C_max h3;have hm4 : ys.length≤9223372036854775807:=Kd.C_max h4;clear h3 h4 hw;unfold chkF;dsimp only;cases hs : szs W h b
 ·rw [Bool.false_and,Bool.false_and,Bool.false_and,Bool.false_and]
  rw [hs] at HE
  go_enter Try.func16,Try.ntmps16
  go_wp2_with (first|(go_at_call 32;(with_reducible refine (film_sizes.calls W h b false _ HE.out).mono ?_);rintro e w1 ⟨rfl,⟨nd,rfl⟩⟩))
  go_ret
  exact ⟨rfl,by repeat (first|exact Below.refl _ _|apply below_alloc|apply pw_below_drewN)⟩
 ·rw [Bool.true_and]
  rw [hs] at HE;have hp:=szs_prod hs;obtain ⟨q0,q1,q2,q3⟩:=hp;obtain ⟨b1,hb1⟩ : ∃ z,((xs.length : Int) == W * h * b)=z:=⟨_,rfl⟩;obtain ⟨b2,hb2⟩ : ∃ z,((ys.length : Int) == W * h * b)=z:=⟨_,rfl⟩;obtain ⟨b3,hb3⟩ : ∃ z,xs.all chk=z:=⟨_,rfl⟩;obtain ⟨b4,hb4⟩ : ∃ z,ys.all chk=z:=⟨_,rfl⟩;rw [show decide ((xs.length : Int)=W * h * b)=b1 from hb1,show decide ((ys.length : Int)=W * h * b)=b2 from hb2,hb3,hb4];have HB3:=Aside0.mk hb3;have HB4:=Aside0.mk hb4;clear hb3 hb4
  go_enter Try.func16,Try.ntmps16
  cases b1 <;> cases b2 <;> cases b3 <;> cases b4
  all_goals
   go_wp2_with (first
    | (go_at_call 32;(with_reducible refine (film_sizes.calls W h b true _ HE.out).mono ?_);rintro e w1 ⟨rfl,⟨nd,rfl⟩⟩)
    | ((have gd:=HB3);go_at_call 33;(with_reducible refine (contains_sem hn A3 c3 xs _ (Kd.C_drewN (Kd.C_alloc H.out.1 _) _) H.out.2.2.1).mono ?_);rintro e w2 ⟨he,hb⟩;rw [HB3.out] at he;subst he;obtain ⟨hc,hf⟩:=bcell hb;clear HB3 gd)
    | (go_at_call 33;(with_reducible refine (contains_sem hn A4 c4 ys _ (Kd.C_below (Kd.C_drewN (Kd.C_alloc H.out.2.1 _) _) hb) H.out.2.2.2).mono ?_);rintro e w3 ⟨he,hb'⟩;rw [HB4.out] at he;subst he))
  all_goals
   go_ret
   refine ⟨?_,?_⟩
   ·first|rfl|(simp;done)
   ·repeat (first|exact Below.refl _ _|apply below_alloc|apply pw_below_drewN|(refine below_step ?_ hb')|(refine below_step ?_ hb))
end Go.Proofs.Ytjiaobcoeegioaa.Pq
end
section
namespace Go.Proofs.Ytjiaobcoeegioaa.Pq
open Go.RowKit Go.Proofs.YtjiaobcoeegioaaW.PrintWords Go.Proofs.YtjiaobcoeegioaaW.PrintLast Go.Proofs.YtjiaobcoeegioaaW.PrintMore
attribute [local go_sem] max2_int min2_int max_two min_two max_three min_three max_four min_four
set_option maxHeartbeats 8000000
set_option maxRecDepth 100000
theorem nat_Add.calls (k : Nat) (A0 : Option Addr) (c0 : Nat) (l0 : List Int) (A1 : Option Addr) (c1 : Nat) (l1 : List Int) (r : List Int) (w : World) (hr0 : Kd.C (Kd.int .u32) w A0 l0.length l0) (hc0 : l0.length≤c0) (hr1 : Kd.C (Kd.int .u32) w A1 l1.length l1) (hc1 : l1.length≤c1) (h : nat_Add.f k l0 l1=some r) :
  Calls Try.prog 58 #[.slice A0 l0.length c0,.slice A1 l1.length c1] w fun e w'=>∃ v0_ : Value,e=.returned (v0_)∧Kd.R (Kd.int .u32) 82 w' w.heap.size (fun _=>True) v0_ r∧Below w.heap.size w w':=by
 have HR0:=Aside0.mk hr0;have HC0:=Aside0.mk hc0;clear hr0 hc0;have HR1:=Aside0.mk hr1;have HC1:=Aside0.mk hc1;clear hr1 hc1;have HB:=Aside0.mk (Below.refl w.heap.size w);have H : ((nat_trim.f l0).bind fun t364=>((nat_trim.f l1).bind fun t366=>(if (t364.length : Int) < (t366.length : Int) then (if 0≤(wrap64 ((t366.length : Int)+1)) then (if (wrap64 ((t366.length : Int)+1) : Int).toNat≤70368744177664 then (nat_Add.l0 k t364 (([] : List Int)) 0 t366 (t366.length : Int) 0) else (none)) else (none)) else (if 0≤(wrap64 ((t364.length : Int)+1)) then (if (wrap64 ((t364.length : Int)+1) : Int).toNat≤70368744177664 then (nat_Add.l100 k t366 (([] : List Int)) 0 t364 (t364.length : Int) 0) else (none)) else (none)))))=some r:=h;clear h;refine biT H ?_;clear H;intro t364 A3 H;(try dsimp only at H);replace A3:=Aside0.mk A3;refine biT H ?_;clear H;intro t366 A4 H;(try dsimp only at H);replace A4:=Aside0.mk A4
 by_cases c5 : (t364.length : Int) < (t366.length : Int)
 ·rw [if_pos c5] at H
  have c5b0 : decide ((t364.length : Int) < (t366.length : Int))=true:=decide_eq_true c5;have c5b1 : decide (t364.length < t366.length)=true:=decide_eq_true (Int.ofNat_lt.mp c5);clear c5;obtain ⟨ji6,hji6⟩ : ∃ j_ : Int,(wrap64 ((t366.length : Int)+1))=j_:=⟨_,rfl⟩
  replace H : (if 0≤(ji6) then (if (ji6 : Int).toNat≤70368744177664 then (nat_Add.l0 k t364 (([] : List Int)) 0 t366 (t366.length : Int) 0) else (none)) else (none))=some r:=by first|(rw [hji6] at H;exact H)|(simp only [hji6] at H ⊢;exact H)
  (try rw [hji6] at A3)
  (try rw [hji6] at A4)
  have hji6w : (IntKind.i64.wrap ((t366.length : Int)+1))=ji6:=(i64_w _).trans hji6;refine ifT H ?_;clear H;intro c7 H;have c7b0:=eq_true c7;have c7b1 : decide (0≤(ji6))=true:=decide_eq_true c7;clear c7;refine ifT H ?_;clear H;intro c8 H;have c8b0:=eq_true c8;have c8b1 : decide ((ji6 : Int).toNat≤70368744177664)=true:=decide_eq_true c8;clear c8;obtain ⟨y368,hy_⟩ : ∃ y_ : List Int,y_=(([] : List Int)):=⟨_,rfl⟩;replace H : (nat_Add.l0 k t364 y368 0 t366 (t366.length : Int) 0)=some r:=yH H;have Ny368:=Aside0.mk hy_;clear hy_;have H':=Aside0.mk H;clear H
  go_enter Try.func58,Try.ntmps58
  go_wp2_with (first|((with_reducible refine gate_callee (f:=70) rfl ?_);refine gL (some 12) Try.func70 #[.slice A0 l0.length c0] ?_;(with_reducible refine (nat_trim.calls _ _ l0 t364 _ ?s1_ ?s2_ A3.out).mono ?_);(case s1_=>exact Cu HR0.out);(case s2_=>exact HC0.out);rintro e w' ⟨rfl,⟨nd,rfl⟩⟩;refine ⟨_,rfl,?_⟩;have HR365:=Aside0.mk (nat_trim.C HR0.out A3.out);have HC365:=Aside0.mk (Nat.le_refl t364.length))|((with_reducible refine gate_callee (f:=70) rfl ?_);refine gL (some 14) Try.func70 #[.slice A1 l1.length c1] ?_;(with_reducible refine (nat_trim.calls _ _ l1 t366 _ ?s1_ ?s2_ A4.out).mono ?_);(case s1_=>exact Cu HR1.out);(case s2_=>exact HC1.out);rintro e w' ⟨rfl,⟨nd,rfl⟩⟩;refine ⟨_,rfl,?_⟩;have HR367:=Aside0.mk (nat_trim.C HR1.out A4.out);have HC367:=Aside0.mk (Nat.le_refl t366.length))|((with_reducible refine gate_dst (N:=25) rfl ?_);refine Kd.R_make0 (Kd.int .u32) _ 82 rfl (N:=25) rfl 61 _ _ rfl ji6 rfl rfl Try.underlying61 (.int .u32 0) 4 info82 rfl (by decide) (by omega) (ok:=fun _=>True) trivial (oA) (Nat.le_trans (Nat.mul_le_mul_right _ (oA : ji6.toNat≤70368744177664)) (by omega)) (Below.refl _ _) (Nat.le_refl _) ?_;intro v369 w9 ho10 hb hg_ hnew_;clear hg_ hnew_;(first|rw [← Ny368.out] at ho10|(simp only [Int.reduceToNat] at ho10;rw [← Ny368.out] at ho10));have HO370:=Aside0.mk (Kd.R_lower ho10 (below_size (bL HB.out)));replace HB:=bH HB hb;clear hb ho10))
  go_loopg [5,6,28] k (fun kq v5 v6 v28 w'=>∃ (x5_1 : List Int) (x6_1 : Int) (x28_1 : Int),v6=.int .u32 x6_1∧v28=.int .i64 x28_1∧Aside0 (nat_Add.l0 kq t364 x5_1 x6_1 t366 (t366.length : Int) x28_1=some r)∧Aside0 (kq≤k)∧Aside0 (Kd.R (Kd.int .u32) 82 w' w.heap.size (fun _=>True) v5 x5_1)∧Aside0 (Below w.heap.size w w'))
  case atStart=>exact ⟨(y368),(0),(0),sD,sD,H',⟨Nat.le_refl _⟩,⟨Ru HO370.out⟩,⟨bL HB.out⟩⟩
  case round =>
   clear H';obtain ⟨x5_1,x6_1,x28_1,rfl,rfl,HA,HK1,HO_5,HB⟩:=hrel
   cases gk with
   | zero=>exact absurd HA.out (by simp [nat_Add.l0])
   | succ k1 =>
    have H:=HA.out;clear HA;simp only [nat_Add.l0] at H
    by_cases c11 : x28_1 < (t366.length : Int)
    ·rw [if_pos c11] at H
     have c11b0 : decide (x28_1 < (t366.length : Int))=true:=decide_eq_true c11;clear c11;refine ifT H ?_;clear H;intro c12 H;have c12b0 : decide (0≤x28_1)=true:=decide_eq_true c12;clear c12;refine ifT H ?_;clear H;intro c13 H;have c13b0 : decide (x28_1 < (t366.length : Int))=true:=decide_eq_true c13;clear c13
     by_cases c14 : x28_1 < (t364.length : Int)
     ·rw [if_pos c14] at H
      have c14b0 : decide (x28_1 < (t364.length : Int))=true:=decide_eq_true c14;clear c14;refine biT H ?_;clear H;rintro ⟨t373,t374⟩ A15 H;(try dsimp only at H);replace A15:=Aside0.mk A15;refine ifT H ?_;clear H;intro c16 H;have LMc16:=Aside0.mk c16;clear c16;obtain ⟨y375,hy_⟩ : ∃ y_ : List Int,y_=(x5_1++[t373]):=⟨_,rfl⟩;replace H : (nat_Add.l0 k1 t364 y375 t374 t366 (t366.length : Int) (wrap64 (x28_1+1)))=some r:=yH H;have Ny375:=Aside0.mk hy_;clear hy_;have H':=Aside0.mk H;clear H;have p371 : 0≤(x28_1 : Int):=oA;have q371 : x28_1 < (t366.length : Int):=oA;obtain ⟨ad371,e371,hx371_0⟩:=Kd.at_int HR367.out x28_1 p371 q371;cases e371;replace hx371_0:=(HB.out.cell (World.block_lt_of_cell? w _ hx371_0)).trans hx371_0;replace p371:=eq_true p371;replace q371:=eq_true q371;have p372 : 0≤(x28_1 : Int):=oA;have q372 : x28_1 < (t364.length : Int):=oA;obtain ⟨ad372,e372,hx372_0⟩:=Kd.at_int HR365.out x28_1 p372 q372;cases e372;replace hx372_0:=(HB.out.cell (World.block_lt_of_cell? w _ hx372_0)).trans hx372_0;replace p372:=eq_true p372;replace q372:=eq_true q372
      go_wp2_with (first|((with_reducible refine gate_callee (f:=71) rfl ?_);refine gL (some 45) Try.func71 #[.int .u32 (rd t366 x28_1),.int .u32 (rd t364 x28_1),.int .u32 x6_1] ?_;(with_reducible refine (bits_Add32.calls (rd t366 x28_1) (rd t364 x28_1) x6_1 t373 t374 _ A15.out).mono ?_);rintro e w' ⟨rfl,⟨nd,rfl⟩⟩;refine ⟨_,rfl,?_⟩)|((with_reducible refine gate_builtin (b:=.append) (xs:=#[.tmp 48,.tmp 50]) rfl ?_);at_builtin;refine Kd.R_append (Kd.int .u32) (w0:=w) w.heap.size rfl (.tmp 48) (.tmp 50) 61 82 (.int .u32 0) 4 rfl Try.underlying61 info82 rfl (by decide) (by omega) u5 x5_1 t373 [.int .u32 t373] (fun _=>True) (fun _=>False) rfl rfl ?aP (fun _ hk=>hk.elim) ?aF ?aO ?aB ?aS ?aL ?_;(case aP=>exact rfl);(case aB=>exact (bL HB.out));(case aF=>exact (fun _ _=>trivial));(case aO=>exact (Ru HO_5.out));(case aS=>exact (below_size (bL HB.out)));(case aL=>have:=LMc16.out;omega);intro v376 w17 ho hb hg hat;rw [← Ny375.out] at ho;replace HB:=Aside0.mk hb;have HO377:=Aside0.mk ho;clear HO_5;clear ho hb hg hat))
      go_roundg k1
      case measure=>have:=HK1.out;omega
      case rel=>exact ⟨(y375),(t374),(wrap64 (x28_1+1)),sD,sD,H',⟨by have:=HK1.out;omega⟩,⟨Ru HO377.out⟩,⟨bL HB.out⟩⟩
     ·rw [if_neg c14] at H
      have c14b0 : decide (x28_1 < (t364.length : Int))=false:=decide_eq_false c14;clear c14;refine biT H ?_;clear H;rintro ⟨t378,t379⟩ A18 H;(try dsimp only at H);replace A18:=Aside0.mk A18;refine ifT H ?_;clear H;intro c19 H;have LMc19:=Aside0.mk c19;clear c19;obtain ⟨y380,hy_⟩ : ∃ y_ : List Int,y_=(x5_1++[t378]):=⟨_,rfl⟩;replace H : (nat_Add.l0 k1 t364 y380 t379 t366 (t366.length : Int) (wrap64 (x28_1+1)))=some r:=yH H;have Ny380:=Aside0.mk hy_;clear hy_;have H':=Aside0.mk H;clear H;have p371 : 0≤(x28_1 : Int):=oA;have q371 : x28_1 < (t366.length : Int):=oA;obtain ⟨ad371,e371,hx371_0⟩:=Kd.at_int HR367.out x28_1 p371 q371;cases e371;replace hx371_0:=(HB.out.cell (World.block_lt_of_cell? w _ hx371_0)).trans hx371_0;replace p371:=eq_true p371;replace q371:=eq_true q371
      go_wp2_with (first|((with_reducible refine gate_callee (f:=71) rfl ?_);refine gL (some 45) Try.func71 #[.int .u32 (rd t366 x28_1),.int .u32 0,.int .u32 x6_1] ?_;(with_reducible refine (bits_Add32.calls (rd t366 x28_1) 0 x6_1 t378 t379 _ A18.out).mono ?_);rintro e w' ⟨rfl,⟨nd,rfl⟩⟩;refine ⟨_,rfl,?_⟩)|((with_reducible refine gate_builtin (b:=.append) (xs:=#[.tmp 48,.tmp 50]) rfl ?_);at_builtin;refine Kd.R_append (Kd.int .u32) (w0:=w) w.heap.size rfl (.tmp 48) (.tmp 50) 61 82 (.int .u32 0) 4 rfl Try.underlying61 info82 rfl (by decide) (by omega) u5 x5_1 t378 [.int .u32 t378] (fun _=>True) (fun _=>False) rfl rfl ?aP (fun _ hk=>hk.elim) ?aF ?aO ?aB ?aS ?aL ?_;(case aP=>exact rfl);(case aB=>exact (bL HB.out));(case aF=>exact (fun _ _=>trivial));(case aO=>exact (Ru HO_5.out));(case aS=>exact (below_size (bL HB.out)));(case aL=>have:=LMc19.out;omega);intro v381 w20 ho hb hg hat;rw [← Ny380.out] at ho;replace HB:=Aside0.mk hb;have HO382:=Aside0.mk ho;clear HO_5;clear ho hb hg hat))
      go_roundg k1
      case measure=>have:=HK1.out;omega
      case rel=>exact ⟨(y380),(t379),(wrap64 (x28_1+1)),sD,sD,H',⟨by have:=HK1.out;omega⟩,⟨Ru HO382.out⟩,⟨bL HB.out⟩⟩
    ·rw [if_neg c11] at H
     have c11b0 : decide (x28_1 < (t366.length : Int))=false:=decide_eq_false c11;clear c11;refine ifT H ?_;clear H;intro c21 H;have LMc21:=Aside0.mk c21;clear c21;obtain ⟨y383,hy_⟩ : ∃ y_ : List Int,y_=(x5_1++[x6_1]):=⟨_,rfl⟩;replace H : ((nat_trim.f y383).bind fun t386=>(some t386))=some r:=yH H;have Ny383:=Aside0.mk hy_;clear hy_;refine biT H ?_;clear H;intro t386 A22 H;(try dsimp only at H);replace A22:=Aside0.mk A22;obtain rfl:=Option.some.inj H
     go_wp2_with (first|((with_reducible refine gate_builtin (b:=.append) (xs:=#[.tmp 53,.tmp 55]) rfl ?_);at_builtin;refine Kd.R_append (Kd.int .u32) (w0:=w) w.heap.size rfl (.tmp 53) (.tmp 55) 61 82 (.int .u32 0) 4 rfl Try.underlying61 info82 rfl (by decide) (by omega) u5 x5_1 x6_1 [.int .u32 x6_1] (fun _=>True) (fun _=>False) rfl rfl ?aP (fun _ hk=>hk.elim) ?aF ?aO ?aB ?aS ?aL ?_;(case aP=>exact rfl);(case aB=>exact (bL HB.out));(case aF=>exact (fun _ _=>trivial));(case aO=>exact (Ru HO_5.out));(case aS=>exact (below_size (bL HB.out)));(case aL=>have:=LMc21.out;omega);intro v384 w23 ho hb hg hat;rw [← Ny383.out] at ho;replace HB:=Aside0.mk hb;have HO385:=Aside0.mk ho;clear HO_5;clear ho hb hg hat;obtain ⟨Ao24,co24,eo24⟩:=Kd.R_slice HO385.out;subst eo24)|((with_reducible refine gate_callee (f:=70) rfl ?_);refine gL (some 57) Try.func70 #[.slice Ao24 y383.length co24] ?_;(with_reducible refine (nat_trim.calls _ _ y383 t386 _ ?s1_ ?s2_ A22.out).mono ?_);(case s1_=>exact Cu (Kd.R_reads' HO385.out).2.2);(case s2_=>exact (Kd.R_reads' HO385.out).2.1);rintro e w' ⟨rfl,⟨nd,rfl⟩⟩;refine ⟨_,rfl,?_⟩;have HO388:=Aside0.mk (nat_trim.R HO385.out A22.out);clear HO385))
     go_ret
     exact ⟨_,by first|rfl|(simp [errW_none,errW_some] <;> rfl)|(simp only [← hji6];first|rfl|(simp [errW_none,errW_some] <;> rfl))|(simp [*,errW_none,errW_some] <;> rfl),by (with_reducible repeat (first|apply Ra|apply Rn|apply Rd));exact HO388.out,bL HB.out⟩
 ·rw [if_neg c5] at H
  have c5b0 : decide ((t364.length : Int) < (t366.length : Int))=false:=decide_eq_false c5;have c5b1 : decide (t364.length < t366.length)=false:=decide_eq_false (fun h=>c5 (Int.ofNat_lt.mpr h));clear c5;obtain ⟨ji25,hji25⟩ : ∃ j_ : Int,(wrap64 ((t364.length : Int)+1))=j_:=⟨_,rfl⟩
  replace H : (if 0≤(ji25) then (if (ji25 : Int).toNat≤70368744177664 then (nat_Add.l100 k t366 (([] : List Int)) 0 t364 (t364.length : Int) 0) else (none)) else (none))=some r:=by first|(rw [hji25] at H;exact H)|(simp only [hji25] at H ⊢;exact H)
  (try rw [hji25] at A3)
  (try rw [hji25] at A4)
  have hji25w : (IntKind.i64.wrap ((t364.length : Int)+1))=ji25:=(i64_w _).trans hji25;refine ifT H ?_;clear H;intro c26 H;have c26b0:=eq_true c26;have c26b1 : decide (0≤(ji25))=true:=decide_eq_true c26;clear c26;refine ifT H ?_;clear H;intro c27 H;have c27b0:=eq_true c27;have c27b1 : decide ((ji25 : Int).toNat≤70368744177664)=true:=decide_eq_true c27;clear c27;obtain ⟨y389,hy_⟩ : ∃ y_ : List Int,y_=(([] : List Int)):=⟨_,rfl⟩;replace H : (nat_Add.l100 k t366 y389 0 t364 (t364.length : Int) 0)=some r:=yH H;have Ny389:=Aside0.mk hy_;clear hy_;have H':=Aside0.mk H;clear H
  go_enter Try.func58,Try.ntmps58
  go_wp2_with (first|((with_reducible refine gate_callee (f:=70) rfl ?_);refine gL (some 12) Try.func70 #[.slice A0 l0.length c0] ?_;(with_reducible refine (nat_trim.calls _ _ l0 t364 _ ?s1_ ?s2_ A3.out).mono ?_);(case s1_=>exact Cu HR0.out);(case s2_=>exact HC0.out);rintro e w' ⟨rfl,⟨nd,rfl⟩⟩;refine ⟨_,rfl,?_⟩;have HR365:=Aside0.mk (nat_trim.C HR0.out A3.out);have HC365:=Aside0.mk (Nat.le_refl t364.length))|((with_reducible refine gate_callee (f:=70) rfl ?_);refine gL (some 14) Try.func70 #[.slice A1 l1.length c1] ?_;(with_reducible refine (nat_trim.calls _ _ l1 t366 _ ?s1_ ?s2_ A4.out).mono ?_);(case s1_=>exact Cu HR1.out);(case s2_=>exact HC1.out);rintro e w' ⟨rfl,⟨nd,rfl⟩⟩;refine ⟨_,rfl,?_⟩;have HR367:=Aside0.mk (nat_trim.C HR1.out A4.out);have HC367:=Aside0.mk (Nat.le_refl t366.length))|((with_reducible refine gate_dst (N:=25) rfl ?_);refine Kd.R_make0 (Kd.int .u32) _ 82 rfl (N:=25) rfl 61 _ _ rfl ji25 rfl rfl Try.underlying61 (.int .u32 0) 4 info82 rfl (by decide) (by omega) (ok:=fun _=>True) trivial (oA) (Nat.le_trans (Nat.mul_le_mul_right _ (oA : ji25.toNat≤70368744177664)) (by omega)) (Below.refl _ _) (Nat.le_refl _) ?_;intro v390 w28 ho29 hb hg_ hnew_;clear hg_ hnew_;(first|rw [← Ny389.out] at ho29|(simp only [Int.reduceToNat] at ho29;rw [← Ny389.out] at ho29));have HO391:=Aside0.mk (Kd.R_lower ho29 (below_size (bL HB.out)));replace HB:=bH HB hb;clear hb ho29))
  go_loopg [5,6,28] k (fun kq v5 v6 v28 w'=>∃ (x5_1 : List Int) (x6_1 : Int) (x28_1 : Int),v6=.int .u32 x6_1∧v28=.int .i64 x28_1∧Aside0 (nat_Add.l100 kq t366 x5_1 x6_1 t364 (t364.length : Int) x28_1=some r)∧Aside0 (kq≤k)∧Aside0 (Kd.R (Kd.int .u32) 82 w' w.heap.size (fun _=>True) v5 x5_1)∧Aside0 (Below w.heap.size w w'))
  case atStart=>exact ⟨(y389),(0),(0),sD,sD,H',⟨Nat.le_refl _⟩,⟨Ru HO391.out⟩,⟨bL HB.out⟩⟩
  case round =>
   clear H';obtain ⟨x5_1,x6_1,x28_1,rfl,rfl,HA,HK1,HO_5,HB⟩:=hrel
   cases gk with
   | zero=>exact absurd HA.out (by simp [nat_Add.l100])
   | succ k1 =>
    have H:=HA.out;clear HA;simp only [nat_Add.l100] at H
    by_cases c30 : x28_1 < (t364.length : Int)
    ·rw [if_pos c30] at H
     have c30b0 : decide (x28_1 < (t364.length : Int))=true:=decide_eq_true c30;clear c30;refine ifT H ?_;clear H;intro c31 H;have c31b0 : decide (0≤x28_1)=true:=decide_eq_true c31;clear c31;refine ifT H ?_;clear H;intro c32 H;have c32b0 : decide (x28_1 < (t364.length : Int))=true:=decide_eq_true c32;clear c32
     by_cases c33 : x28_1 < (t366.length : Int)
     ·rw [if_pos c33] at H
      have c33b0 : decide (x28_1 < (t366.length : Int))=true:=decide_eq_true c33;clear c33;refine biT H ?_;clear H;rintro ⟨t394,t395⟩ A34 H;(try dsimp only at H);replace A34:=Aside0.mk A34;refine ifT H ?_;clear H;intro c35 H;have LMc35:=Aside0.mk c35;clear c35;obtain ⟨y396,hy_⟩ : ∃ y_ : List Int,y_=(x5_1++[t394]):=⟨_,rfl⟩;replace H : (nat_Add.l100 k1 t366 y396 t395 t364 (t364.length : Int) (wrap64 (x28_1+1)))=some r:=yH H;have Ny396:=Aside0.mk hy_;clear hy_;have H':=Aside0.mk H;clear H;have p392 : 0≤(x28_1 : Int):=oA;have q392 : x28_1 < (t364.length : Int):=oA;obtain ⟨ad392,e392,hx392_0⟩:=Kd.at_int HR365.out x28_1 p392 q392;cases e392;replace hx392_0:=(HB.out.cell (World.block_lt_of_cell? w _ hx392_0)).trans hx392_0;replace p392:=eq_true p392;replace q392:=eq_true q392;have p393 : 0≤(x28_1 : Int):=oA;have q393 : x28_1 < (t366.length : Int):=oA;obtain ⟨ad393,e393,hx393_0⟩:=Kd.at_int HR367.out x28_1 p393 q393;cases e393;replace hx393_0:=(HB.out.cell (World.block_lt_of_cell? w _ hx393_0)).trans hx393_0;replace p393:=eq_true p393;replace q393:=eq_true q393
      go_wp2_with (first|((with_reducible refine gate_callee (f:=71) rfl ?_);refine gL (some 45) Try.func71 #[.int .u32 (rd t364 x28_1),.int .u32 (rd t366 x28_1),.int .u32 x6_1] ?_;(with_reducible refine (bits_Add32.calls (rd t364 x28_1) (rd t366 x28_1) x6_1 t394 t395 _ A34.out).mono ?_);rintro e w' ⟨rfl,⟨nd,rfl⟩⟩;refine ⟨_,rfl,?_⟩)|((with_reducible refine gate_builtin (b:=.append) (xs:=#[.tmp 48,.tmp 50]) rfl ?_);at_builtin;refine Kd.R_append (Kd.int .u32) (w0:=w) w.heap.size rfl (.tmp 48) (.tmp 50) 61 82 (.int .u32 0) 4 rfl Try.underlying61 info82 rfl (by decide) (by omega) u5 x5_1 t394 [.int .u32 t394] (fun _=>True) (fun _=>False) rfl rfl ?aP (fun _ hk=>hk.elim) ?aF ?aO ?aB ?aS ?aL ?_;(case aP=>exact rfl);(case aB=>exact (bL HB.out));(case aF=>exact (fun _ _=>trivial));(case aO=>exact (Ru HO_5.out));(case aS=>exact (below_size (bL HB.out)));(case aL=>have:=LMc35.out;omega);intro v397 w36 ho hb hg hat;rw [← Ny396.out] at ho;replace HB:=Aside0.mk hb;have HO398:=Aside0.mk ho;clear HO_5;clear ho hb hg hat))
      go_roundg k1
      case measure=>have:=HK1.out;omega
      case rel=>exact ⟨(y396),(t395),(wrap64 (x28_1+1)),sD,sD,H',⟨by have:=HK1.out;omega⟩,⟨Ru HO398.out⟩,⟨bL HB.out⟩⟩
     ·rw [if_neg c33] at H
      have c33b0 : decide (x28_1 < (t366.length : Int))=false:=decide_eq_false c33;clear c33;refine biT H ?_;clear H;rintro ⟨t399,t400⟩ A37 H;(try dsimp only at H);replace A37:=Aside0.mk A37;refine ifT H ?_;clear H;intro c38 H;have LMc38:=Aside0.mk c38;clear c38;obtain ⟨y401,hy_⟩ : ∃ y_ : List Int,y_=(x5_1++[t399]):=⟨_,rfl⟩;replace H : (nat_Add.l100 k1 t366 y401 t400 t364 (t364.length : Int) (wrap64 (x28_1+1)))=some r:=yH H;have Ny401:=Aside0.mk hy_;clear hy_;have H':=Aside0.mk H;clear H;have p392 : 0≤(x28_1 : Int):=oA;have q392 : x28_1 < (t364.length : Int):=oA;obtain ⟨ad392,e392,hx392_0⟩:=Kd.at_int HR365.out x28_1 p392 q392;cases e392;replace hx392_0:=(HB.out.cell (World.block_lt_of_cell? w _ hx392_0)).trans hx392_0;replace p392:=eq_true p392;replace q392:=eq_true q392
      go_wp2_with (first|((with_reducible refine gate_callee (f:=71) rfl ?_);refine gL (some 45) Try.func71 #[.int .u32 (rd t364 x28_1),.int .u32 0,.int .u32 x6_1] ?_;(with_reducible refine (bits_Add32.calls (rd t364 x28_1) 0 x6_1 t399 t400 _ A37.out).mono ?_);rintro e w' ⟨rfl,⟨nd,rfl⟩⟩;refine ⟨_,rfl,?_⟩)|((with_reducible refine gate_builtin (b:=.append) (xs:=#[.tmp 48,.tmp 50]) rfl ?_);at_builtin;refine Kd.R_append (Kd.int .u32) (w0:=w) w.heap.size rfl (.tmp 48) (.tmp 50) 61 82 (.int .u32 0) 4 rfl Try.underlying61 info82 rfl (by decide) (by omega) u5 x5_1 t399 [.int .u32 t399] (fun _=>True) (fun _=>False) rfl rfl ?aP (fun _ hk=>hk.elim) ?aF ?aO ?aB ?aS ?aL ?_;(case aP=>exact rfl);(case aB=>exact (bL HB.out));(case aF=>exact (fun _ _=>trivial));(case aO=>exact (Ru HO_5.out));(case aS=>exact (below_size (bL HB.out)));(case aL=>have:=LMc38.out;omega);intro v402 w39 ho hb hg hat;rw [← Ny401.out] at ho;replace HB:=Aside0.mk hb;have HO403:=Aside0.mk ho;clear HO_5;clear ho hb hg hat))
      go_roundg k1
      case measure=>have:=HK1.out;omega
      case rel=>exact ⟨(y401),(t400),(wrap64 (x28_1+1)),sD,sD,H',⟨by have:=HK1.out;omega⟩,⟨Ru HO403.out⟩,⟨bL HB.out⟩⟩
    ·rw [if_neg c30] at H
     have c30b0 : decide (x28_1 < (t364.length : Int))=false:=decide_eq_false c30;clear c30;refine ifT H ?_;clear H;intro c40 H;have LMc40:=Aside0.mk c40;clear c40;obtain ⟨y404,hy_⟩ : ∃ y_ : List Int,y_=(x5_1++[x6_1]):=⟨_,rfl⟩;replace H : ((nat_trim.f y404).bind fun t407=>(some t407))=some r:=yH H;have Ny404:=Aside0.mk hy_;clear hy_;refine biT H ?_;clear H;intro t407 A41 H;(try dsimp only at H);replace A41:=Aside0.mk A41;obtain rfl:=Option.some.inj H
     go_wp2_with (first|((with_reducible refine gate_builtin (b:=.append) (xs:=#[.tmp 53,.tmp 55]) rfl ?_);at_builtin;refine Kd.R_append (Kd.int .u32) (w0:=w) w.heap.size rfl (.tmp 53) (.tmp 55) 61 82 (.int .u32 0) 4 rfl Try.underlying61 info82 rfl (by decide) (by omega) u5 x5_1 x6_1 [.int .u32 x6_1] (fun _=>True) (fun _=>False) rfl rfl ?aP (fun _ hk=>hk.elim) ?aF ?aO ?aB ?aS ?aL ?_;(case aP=>exact rfl);(case aB=>exact (bL HB.out));(case aF=>exact (fun _ _=>trivial));(case aO=>exact (Ru HO_5.out));(case aS=>exact (below_size (bL HB.out)));(case aL=>have:=LMc40.out;omega);intro v405 w42 ho hb hg hat;rw [← Ny404.out] at ho;replace HB:=Aside0.mk hb;have HO406:=Aside0.mk ho;clear HO_5;clear ho hb hg hat;obtain ⟨Ao43,co43,eo43⟩:=Kd.R_slice HO406.out;subst eo43)|((with_reducible refine gate_callee (f:=70) rfl ?_);refine gL (some 57) Try.func70 #[.slice Ao43 y404.length co43] ?_;(with_reducible refine (nat_trim.calls _ _ y404 t407 _ ?s1_ ?s2_ A41.out).mono ?_);(case s1_=>exact Cu (Kd.R_reads' HO406.out).2.2);(case s2_=>exact (Kd.R_reads' HO406.out).2.1);rintro e w' ⟨rfl,⟨nd,rfl⟩⟩;refine ⟨_,rfl,?_⟩;have HO409:=Aside0.mk (nat_trim.R HO406.out A41.out);clear HO406))
     go_ret
     exact ⟨_,by first|rfl|(simp [errW_none,errW_some] <;> rfl)|(simp only [← hji25];first|rfl|(simp [errW_none,errW_some] <;> rfl))|(simp [*,errW_none,errW_some] <;> rfl),by (with_reducible repeat (first|apply Ra|apply Rn|apply Rd));exact HO409.out,bL HB.out⟩
theorem nat_Mul.calls (k : Nat) (A0 : Option Addr) (c0 : Nat) (l0 : List Int) (A1 : Option Addr) (c1 : Nat) (l1 : List Int) (r : List Int) (w : World) (hr0 : Kd.C (Kd.int .u32) w A0 l0.length l0) (hc0 : l0.length≤c0) (hr1 : Kd.C (Kd.int .u32) w A1 l1.length l1) (hc1 : l1.length≤c1) (h : nat_Mul.f k l0 l1=some r) :
  Calls Try.prog 57 #[.slice A0 l0.length c0,.slice A1 l1.length c1] w fun e w'=>∃ v0_ : Value,e=.returned (v0_)∧Kd.R (Kd.int .u32) 82 w' w.heap.size (fun _=>True) v0_ r∧Below w.heap.size w w':=by
 have HR0:=Aside0.mk hr0;have HC0:=Aside0.mk hc0;clear hr0 hc0;have HR1:=Aside0.mk hr1;have HC1:=Aside0.mk hc1;clear hr1 hc1;have HB:=Aside0.mk (Below.refl w.heap.size w);have H : ((nat_trim.f l0).bind fun t349=>((nat_trim.f l1).bind fun t351=>(if 0≤(wrap64 ((t349.length : Int)+(t351.length : Int))) then (if (wrap64 ((t349.length : Int)+(t351.length : Int)) : Int).toNat≤70368744177664 then (nat_Mul.l0 k t351 (List.replicate (wrap64 ((t349.length : Int)+(t351.length : Int)) : Int).toNat 0) t349 (t349.length : Int) 0) else (none)) else (none))))=some r:=h;clear h;refine biT H ?_;clear H;intro t349 A3 H;(try dsimp only at H);replace A3:=Aside0.mk A3;refine biT H ?_;clear H;intro t351 A4 H;(try dsimp only at H);replace A4:=Aside0.mk A4;obtain ⟨ji5,hji5⟩ : ∃ j_ : Int,(wrap64 ((t349.length : Int)+(t351.length : Int)))=j_:=⟨_,rfl⟩
 replace H : (if 0≤(ji5) then (if (ji5 : Int).toNat≤70368744177664 then (nat_Mul.l0 k t351 (List.replicate (ji5 : Int).toNat 0) t349 (t349.length : Int) 0) else (none)) else (none))=some r:=by first|(rw [hji5] at H;exact H)|(simp only [hji5] at H ⊢;exact H)
 (try rw [hji5] at A3)
 (try rw [hji5] at A4)
 have hji5w : (IntKind.i64.wrap ((t349.length : Int)+(t351.length : Int)))=ji5:=(i64_w _).trans hji5;refine ifT H ?_;clear H;intro c6 H;have c6b0:=eq_true c6;have c6b1 : decide (0≤(ji5))=true:=decide_eq_true c6;clear c6;refine ifT H ?_;clear H;intro c7 H;have c7b0:=eq_true c7;have c7b1 : decide ((ji5 : Int).toNat≤70368744177664)=true:=decide_eq_true c7;clear c7;obtain ⟨y353,hy_⟩ : ∃ y_ : List Int,y_=(List.replicate (ji5 : Int).toNat 0):=⟨_,rfl⟩;replace H : (nat_Mul.l0 k t351 y353 t349 (t349.length : Int) 0)=some r:=yH H;have Ny353:=Aside0.mk hy_;clear hy_;have H':=Aside0.mk H;clear H
 go_enter Try.func57,Try.ntmps57
 go_wp2_with (first|((with_reducible refine gate_callee (f:=70) rfl ?_);refine gL (some 13) Try.func70 #[.slice A0 l0.length c0] ?_;(with_reducible refine (nat_trim.calls _ _ l0 t349 _ ?s1_ ?s2_ A3.out).mono ?_);(case s1_=>exact Cu HR0.out);(case s2_=>exact HC0.out);rintro e w' ⟨rfl,⟨nd,rfl⟩⟩;refine ⟨_,rfl,?_⟩;have HR350:=Aside0.mk (nat_trim.C HR0.out A3.out);have HC350:=Aside0.mk (Nat.le_refl t349.length))|((with_reducible refine gate_callee (f:=70) rfl ?_);refine gL (some 15) Try.func70 #[.slice A1 l1.length c1] ?_;(with_reducible refine (nat_trim.calls _ _ l1 t351 _ ?s1_ ?s2_ A4.out).mono ?_);(case s1_=>exact Cu HR1.out);(case s2_=>exact HC1.out);rintro e w' ⟨rfl,⟨nd,rfl⟩⟩;refine ⟨_,rfl,?_⟩;have HR352:=Aside0.mk (nat_trim.C HR1.out A4.out);have HC352:=Aside0.mk (Nat.le_refl t351.length))|((with_reducible refine gate_dst (N:=21) rfl ?_);refine Kd.R_make (Kd.int .u32) _ 82 rfl (N:=21) rfl 61 _ _ rfl ji5 rfl rfl Try.underlying61 (.int .u32 0) 4 info82 rfl (by decide) (by omega) 0 (ok:=fun _=>True) (okp:=fun _=>True) rfl (fun _ hk=>hk) trivial (oA) (Nat.le_trans (Nat.mul_le_mul_right _ (oA : ji5.toNat≤70368744177664)) (by omega)) (Below.refl _ _) (Nat.le_refl _) ?_;intro v354 w8 ho9 hb hg_ hnew_;clear hg_ hnew_;(first|rw [← Ny353.out] at ho9|(simp only [Int.reduceToNat] at ho9;rw [← Ny353.out] at ho9));have HO355:=Aside0.mk (Kd.R_lower ho9 (below_size (bL HB.out)));replace HB:=bH HB hb;clear hb ho9))
 go_loopg [24] k (fun kq v24 w'=>∃ (x5_1 : List Int) (x24_1 : Int),v24=.int .i64 x24_1∧Aside0 (nat_Mul.l0 kq t351 x5_1 t349 (t349.length : Int) x24_1=some r)∧Aside0 (kq≤k)∧Aside0 (Kd.R (Kd.int .u32) 82 w' w.heap.size (fun _=>True) v354 x5_1)∧Aside0 (Below w.heap.size w w'))
 case atStart=>exact ⟨(y353),(0),sD,H',⟨Nat.le_refl _⟩,⟨Ru HO355.out⟩,⟨bL HB.out⟩⟩
 case round =>
  clear H';obtain ⟨x5_1,x24_1,rfl,HA,HK1,HO_5,HB⟩:=hrel
  cases gk with
  | zero=>exact absurd HA.out (by simp [nat_Mul.l0])
  | succ k1 =>
   have H:=HA.out;clear HA;simp only [nat_Mul.l0] at H
   by_cases c10 : x24_1 < (t349.length : Int)
   ·rw [if_pos c10] at H
    have c10b0 : decide (x24_1 < (t349.length : Int))=true:=decide_eq_true c10;clear c10;refine ifT H ?_;clear H;intro c11 H;have c11b0 : decide (0≤x24_1)=true:=decide_eq_true c11;clear c11;refine ifT H ?_;clear H;intro c12 H;have c12b0 : decide (x24_1 < (t349.length : Int))=true:=decide_eq_true c12;clear c12;have H':=Aside0.mk H;clear H;have p359 : 0≤(x24_1 : Int):=oA;have q359 : x24_1 < (t349.length : Int):=oA;obtain ⟨ad359,e359,hx359_0⟩:=Kd.at_int HR350.out x24_1 p359 q359;cases e359;replace hx359_0:=(HB.out.cell (World.block_lt_of_cell? w _ hx359_0)).trans hx359_0;replace p359:=eq_true p359;replace q359:=eq_true q359
    go_wp2
    go_loopg [8,31] k1 (fun kq v8 v31 w'=>∃ (x5_2 : List Int) (x8_2 : Int) (x31_2 : Int),v8=.int .u64 x8_2∧v31=.int .i64 x31_2∧Aside0 (nat_Mul.l1 kq t351 x5_2 x24_1 (rd t349 x24_1) x8_2 t349 (t349.length : Int) x24_1 t351 (t351.length : Int) x31_2=some r)∧Aside0 (kq≤k1)∧Aside0 (Kd.R (Kd.int .u32) 82 w' w.heap.size (fun _=>True) v354 x5_2)∧Aside0 (Below w.heap.size w w'))
    case atStart=>exact ⟨(x5_1),(0),(0),sD,sD,H',⟨Nat.le_refl _⟩,⟨Ru HO_5.out⟩,⟨bL HB.out⟩⟩
    case round =>
     clear H';obtain ⟨x5_2,x8_2,x31_2,rfl,rfl,HA,HK2,HO_5,HB⟩:=hrel
     cases gk with
     | zero=>exact absurd HA.out (by simp [nat_Mul.l1])
     | succ k2 =>
      have H:=HA.out;clear HA;simp only [nat_Mul.l1] at H
      by_cases c13 : x31_2 < (t351.length : Int)
      ·rw [if_pos c13] at H
       have c13b0 : decide (x31_2 < (t351.length : Int))=true:=decide_eq_true c13;clear c13;refine ifT H ?_;clear H;intro c14 H;have c14b0 : decide (0≤x31_2)=true:=decide_eq_true c14;clear c14;refine ifT H ?_;clear H;intro c15 H;have c15b0 : decide (x31_2 < (t351.length : Int))=true:=decide_eq_true c15;clear c15;obtain ⟨ji16,hji16⟩ : ∃ j_ : Int,(wrap64 (x24_1+x31_2))=j_:=⟨_,rfl⟩
       first|rw [hji16] at H|simp only [hji16] at H ⊢
       have hji16w:=(i64_w _).trans hji16;refine ifT H ?_;clear H;intro c17 H;have c17b0 : decide (0≤(ji16))=true:=decide_eq_true c17;clear c17;refine ifT H ?_;clear H;intro c18 H;have c18b0 : decide ((ji16) < (x5_2.length : Int))=true:=decide_eq_true c18;clear c18;obtain ⟨y362,hy_⟩ : ∃ y_ : List Int,y_=(x5_2.set ((ji16) : Int).toNat ((IntKind.u64.wrap ((IntKind.u64.wrap ((IntKind.u64.wrap ((IntKind.u64.wrap ((rd t349 x24_1))) * (IntKind.u64.wrap (rd t351 x31_2))))+(IntKind.u64.wrap (rd x5_2 (ji16)))))+x8_2)) % 4294967296)):=⟨_,rfl⟩;replace H : (nat_Mul.l1 k2 t351 y362 x24_1 (rd t349 x24_1) ((IntKind.u64.wrap ((IntKind.u64.wrap ((IntKind.u64.wrap ((IntKind.u64.wrap ((rd t349 x24_1))) * (IntKind.u64.wrap (rd t351 x31_2))))+(IntKind.u64.wrap (rd x5_2 (ji16)))))+x8_2)) / 4294967296) t349 (t349.length : Int) x24_1 t351 (t351.length : Int) (wrap64 (x31_2+1)))=some r:=yH H;have Ny362:=Aside0.mk hy_;clear hy_;have H':=Aside0.mk H;clear H;have p360 : 0≤(x31_2 : Int):=oA;have q360 : x31_2 < (t351.length : Int):=oA;obtain ⟨ad360,e360,hx360_0⟩:=Kd.at_int HR352.out x31_2 p360 q360;cases e360;replace hx360_0:=(HB.out.cell (World.block_lt_of_cell? w _ hx360_0)).trans hx360_0;replace p360:=eq_true p360;replace q360:=eq_true q360;obtain ⟨Ao20,co20,eo20⟩:=Kd.R_slice HO_5.out;subst eo20;have p361 : 0≤((ji16) : Int):=oA;have q361 : (ji16) < (x5_2.length : Int):=oA;obtain ⟨ad361,e361,hx361_0⟩:=Kd.at_int (Kd.R_reads' HO_5.out).2.2 (ji16) p361 q361;cases e361;replace p361:=eq_true p361;replace q361:=eq_true q361
       have p19 : 0≤((ji16) : Int):=oA;have q19 : ((ji16) : Int) < ((x5_2.length : Int) : Int):=oA;obtain ⟨go19,co19,eo19,gb19,gl19,cl19,HG19⟩:=Kd.R_form HO_5.out (by omega)
       (first|cases eo19|(injection eo19 with ea_ en_ ec_;(first|subst ea_|(injection ea_ with ea_;subst ea_));subst ec_;clear en_))
       have GB19:=Aside0.mk gb19;have GG19:=Aside0.mk HG19;clear gb19 gl19 HG19
       (first|simp only [add_plain] at hx361_0|skip)
       obtain ⟨hx19_0,hf19_0⟩:=Kd.R_celln 0 HO_5.out ((ji16) : Int) p19 q19;replace p19:=eq_true p19;replace q19:=eq_true q19;have HP21:=Kd.R_putg HO_5.out ((ji16) : Int) ((IntKind.u64.wrap ((IntKind.u64.wrap ((IntKind.u64.wrap ((IntKind.u64.wrap ((rd t349 x24_1))) * (IntKind.u64.wrap (rd t351 x31_2))))+(IntKind.u64.wrap (rd x5_2 (ji16)))))+x8_2)) % 4294967296)
       go_wp2_with (first|((with_reducible refine gate_store (t:=82) (p:=57) rfl ?_);refine store_event (t:=82) (p:=57) (v:=?vo_w22) (w1:=(wr.setCell ⟨go19,((ji16) : Int).toNat,none⟩ (.int .u32 ((IntKind.u64.wrap ((IntKind.u64.wrap ((IntKind.u64.wrap ((IntKind.u64.wrap ((rd t349 x24_1))) * (IntKind.u64.wrap (rd t351 x31_2))))+(IntKind.u64.wrap (rd x5_2 (ji16)))))+x8_2)) % 4294967296)))) ?hg ?ho ?hn ?hr ?_;(case ho=>rfl);(case hg=>rfl);(case hn=>rfl);(case hr=>first|(go_simp;done)|(go_simp;(with_reducible rfl))|(go_simp;rfl)|(go_simp;simp only [hu,Int.emod_sub_emod]));intro w22 hw;have hg : wr.grownBy w22 (some go19):=(by rw [hw];exact HP21.2);have hp_ : Kd.R (Kd.int .u32) 82 w22 w.heap.size (fun _=>True) (.slice (some ⟨go19,0,none⟩) x5_2.length co20) y362:=(by rw [hw,Ny362.out];exact HP21.1);clear HP21;replace HO_5:=Aside0.mk hp_;replace HB:=Aside0.mk ((by rw [hw];exact below_set (HB.out) GB19.out : Below w.heap.size w w22));clear hg hw hp_))
       go_roundg k2
       case measure=>have:=HK1.out;have:=HK2.out;omega
       case rel=>exact ⟨(y362),((IntKind.u64.wrap ((IntKind.u64.wrap ((IntKind.u64.wrap ((IntKind.u64.wrap ((rd t349 x24_1))) * (IntKind.u64.wrap (rd t351 x31_2))))+(IntKind.u64.wrap (rd x5_2 (ji16)))))+x8_2)) / 4294967296),(wrap64 (x31_2+1)),(by first|rfl|(simp;done)|(simp only [← hji16] <;> (first|rfl|simp))|(simp [*];done)),sD,H',⟨by have:=HK1.out;have:=HK2.out;omega⟩,⟨Ru HO_5.out⟩,⟨bL HB.out⟩⟩
      ·rw [if_neg c13] at H
       have c13b0 : decide (x31_2 < (t351.length : Int))=false:=decide_eq_false c13;clear c13;obtain ⟨ji23,hji23⟩ : ∃ j_ : Int,(wrap64 (x24_1+(t351.length : Int)))=j_:=⟨_,rfl⟩
       first|rw [hji23] at H|simp only [hji23] at H ⊢
       have hji23w:=(i64_w _).trans hji23;refine ifT H ?_;clear H;intro c24 H;have c24b0 : decide (0≤(ji23))=true:=decide_eq_true c24;clear c24;refine ifT H ?_;clear H;intro c25 H;have c25b0 : decide ((ji23) < (x5_2.length : Int))=true:=decide_eq_true c25;clear c25;obtain ⟨y363,hy_⟩ : ∃ y_ : List Int,y_=(x5_2.set ((ji23) : Int).toNat ((x8_2) % 4294967296)):=⟨_,rfl⟩;replace H : (nat_Mul.l0 k2 t351 y363 t349 (t349.length : Int) (wrap64 (x24_1+1)))=some r:=yH H;have Ny363:=Aside0.mk hy_;clear hy_;have H':=Aside0.mk H;clear H;have p26 : 0≤((ji23) : Int):=oA;have q26 : ((ji23) : Int) < ((x5_2.length : Int) : Int):=oA;obtain ⟨go26,co26,eo26,gb26,gl26,cl26,HG26⟩:=Kd.R_form HO_5.out (by omega)
       (first|cases eo26|(injection eo26 with ea_ en_ ec_;(first|subst ea_|(injection ea_ with ea_;subst ea_));subst ec_;clear en_))
       have GB26:=Aside0.mk gb26;have GG26:=Aside0.mk HG26;clear gb26 gl26 HG26;obtain ⟨hx26_0,hf26_0⟩:=Kd.R_celln 0 HO_5.out ((ji23) : Int) p26 q26;replace p26:=eq_true p26;replace q26:=eq_true q26;have HP27:=Kd.R_putg HO_5.out ((ji23) : Int) ((x8_2) % 4294967296)
       go_wp2_with (first|((with_reducible refine gate_store (t:=82) (p:=68) rfl ?_);refine store_event (t:=82) (p:=68) (v:=?vo_w28) (w1:=(wr.setCell ⟨go26,((ji23) : Int).toNat,none⟩ (.int .u32 ((x8_2) % 4294967296)))) ?hg ?ho ?hn ?hr ?_;(case ho=>rfl);(case hg=>rfl);(case hn=>rfl);(case hr=>first|(go_simp;done)|(go_simp;(with_reducible rfl))|(go_simp;rfl)|(go_simp;simp only [hu,Int.emod_sub_emod]));intro w28 hw;have hg : wr.grownBy w28 (some go26):=(by rw [hw];exact HP27.2);have hp_ : Kd.R (Kd.int .u32) 82 w28 w.heap.size (fun _=>True) (.slice (some ⟨go26,0,none⟩) x5_2.length co26) y363:=(by rw [hw,Ny363.out];exact HP27.1);clear HP27;replace HO_5:=Aside0.mk hp_;replace HB:=Aside0.mk ((by rw [hw];exact below_set (HB.out) GB26.out : Below w.heap.size w w28));clear hg hw hp_))
       go_roundg k2
       case measure=>have:=HK1.out;have:=HK2.out;omega
       case rel=>exact ⟨(y363),(wrap64 (x24_1+1)),sD,H',⟨by have:=HK1.out;have:=HK2.out;omega⟩,⟨Ru HO_5.out⟩,⟨bL HB.out⟩⟩
   ·rw [if_neg c10] at H
    have c10b0 : decide (x24_1 < (t349.length : Int))=false:=decide_eq_false c10;clear c10;refine biT H ?_;clear H;intro t356 A29 H;(try dsimp only at H);replace A29:=Aside0.mk A29;obtain rfl:=Option.some.inj H;obtain ⟨Ao30,co30,eo30⟩:=Kd.R_slice HO_5.out;subst eo30
    go_wp2_with (first|((with_reducible refine gate_callee (f:=70) rfl ?_);refine gL (some 71) Try.func70 #[.slice Ao30 x5_1.length co30] ?_;(with_reducible refine (nat_trim.calls _ _ x5_1 t356 _ ?s1_ ?s2_ A29.out).mono ?_);(case s1_=>exact Cu (Kd.R_reads' HO_5.out).2.2);(case s2_=>exact (Kd.R_reads' HO_5.out).2.1);rintro e w' ⟨rfl,⟨nd,rfl⟩⟩;refine ⟨_,rfl,?_⟩;have HO358:=Aside0.mk (nat_trim.R HO_5.out A29.out);clear HO_5))
    go_ret
    exact ⟨_,by first|rfl|(simp [errW_none,errW_some] <;> rfl)|(simp only [← hji5];first|rfl|(simp [errW_none,errW_some] <;> rfl))|(simp [*,errW_none,errW_some] <;> rfl),by (with_reducible repeat (first|apply Ra|apply Rn|apply Rd));exact HO358.out,bL HB.out⟩
theorem nat_Sub.calls (k : Nat) (A0 : Option Addr) (c0 : Nat) (l0 : List Int) (A1 : Option Addr) (c1 : Nat) (l1 : List Int) (r1 : List Int) (r2 : Bool) (w : World) (hr0 : Kd.C (Kd.int .u32) w A0 l0.length l0) (hc0 : l0.length≤c0) (hr1 : Kd.C (Kd.int .u32) w A1 l1.length l1) (hc1 : l1.length≤c1) (h : nat_Sub.f k l0 l1=some (r1,r2)) :
  Calls Try.prog 59 #[.slice A0 l0.length c0,.slice A1 l1.length c1] w fun e w'=>∃ v0_ : Value,e=.returned (.tuple #[v0_,.bool r2])∧Kd.R (Kd.int .u32) 82 w' w.heap.size (fun _=>True) v0_ r1∧Below w.heap.size w w':=by
 have HR0:=Aside0.mk hr0;have HC0:=Aside0.mk hc0;clear hr0 hc0;have HR1:=Aside0.mk hr1;have HC1:=Aside0.mk hc1;clear hr1 hc1;have HB:=Aside0.mk (Below.refl w.heap.size w);have H : ((nat_Cmp.f k l0 l1).bind fun t410=>(if t410 < 0 then (some (([] : List Int),false)) else ((nat_trim.f l0).bind fun t411=>((nat_trim.f l1).bind fun t413=>(if 0≤(t411.length : Int) then (if ((t411.length : Int) : Int).toNat≤70368744177664 then (nat_Sub.l0 k t413 (([] : List Int)) 0 t411 (t411.length : Int) 0) else (none)) else (none))))))=some (r1,r2):=h;clear h;refine biT H ?_;clear H;intro t410 A3 H;(try dsimp only at H);replace A3:=Aside0.mk A3
 by_cases c4 : t410 < 0
 ·rw [if_pos c4] at H
  have c4b0 : decide (t410 < 0)=true:=decide_eq_true c4;clear c4;simp only [Option.some.injEq,Prod.mk.injEq] at H;obtain ⟨rfl,rfl⟩:=H
  go_enter Try.func59,Try.ntmps59
  go_wp2_with (first|((with_reducible refine gate_callee (f:=72) rfl ?_);refine gL (some 14) Try.func72 #[.slice A0 l0.length c0,.slice A1 l1.length c1] ?_;(with_reducible refine (nat_Cmp.calls k _ _ l0 _ _ l1 t410 _ ?s1_ ?s2_ ?s3_ ?s4_ A3.out).mono ?_);(case s1_=>exact Cu HR0.out);(case s2_=>exact HC0.out);(case s3_=>exact Cu HR1.out);(case s4_=>exact HC1.out);rintro e w' ⟨rfl,⟨nd,rfl⟩⟩;refine ⟨_,rfl,?_⟩))
  go_ret2
  exact ⟨_,eW,by first|exact Kd.R_nil _ _ _ _ _|exact Kd.N_nil _ _ _ _ _|exact Kd.V_nil _ _ _ _ _|exact Kd.Q_nil _ _ _ _ _|exact Kd.S_nil _ _ _ _ _,bL HB.out⟩
 ·rw [if_neg c4] at H
  have c4b0 : decide (t410 < 0)=false:=decide_eq_false c4;clear c4;refine biT H ?_;clear H;intro t411 A5 H;(try dsimp only at H);replace A5:=Aside0.mk A5;refine biT H ?_;clear H;intro t413 A6 H;(try dsimp only at H);replace A6:=Aside0.mk A6;refine ifT H ?_;clear H;intro c7 H;have c7b0:=eq_true c7;have c7b1 : decide (0≤(t411.length : Int))=true:=decide_eq_true c7;clear c7;refine ifT H ?_;clear H;intro c8 H;have c8b0:=eq_true c8;have c8b1 : decide (((t411.length : Int) : Int).toNat≤70368744177664)=true:=decide_eq_true c8;clear c8;obtain ⟨y415,hy_⟩ : ∃ y_ : List Int,y_=(([] : List Int)):=⟨_,rfl⟩;replace H : (nat_Sub.l0 k t413 y415 0 t411 (t411.length : Int) 0)=some (r1,r2):=yH H;have Ny415:=Aside0.mk hy_;clear hy_;have H':=Aside0.mk H;clear H
  go_enter Try.func59,Try.ntmps59
  go_wp2_with (first|((with_reducible refine gate_callee (f:=72) rfl ?_);refine gL (some 14) Try.func72 #[.slice A0 l0.length c0,.slice A1 l1.length c1] ?_;(with_reducible refine (nat_Cmp.calls k _ _ l0 _ _ l1 t410 _ ?s1_ ?s2_ ?s3_ ?s4_ A3.out).mono ?_);(case s1_=>exact Cu HR0.out);(case s2_=>exact HC0.out);(case s3_=>exact Cu HR1.out);(case s4_=>exact HC1.out);rintro e w' ⟨rfl,⟨nd,rfl⟩⟩;refine ⟨_,rfl,?_⟩)|((with_reducible refine gate_callee (f:=70) rfl ?_);refine gL (some 17) Try.func70 #[.slice A0 l0.length c0] ?_;(with_reducible refine (nat_trim.calls _ _ l0 t411 _ ?s1_ ?s2_ A5.out).mono ?_);(case s1_=>exact Cu HR0.out);(case s2_=>exact HC0.out);rintro e w' ⟨rfl,⟨nd,rfl⟩⟩;refine ⟨_,rfl,?_⟩;have HR412:=Aside0.mk (nat_trim.C HR0.out A5.out);have HC412:=Aside0.mk (Nat.le_refl t411.length))|((with_reducible refine gate_callee (f:=70) rfl ?_);refine gL (some 19) Try.func70 #[.slice A1 l1.length c1] ?_;(with_reducible refine (nat_trim.calls _ _ l1 t413 _ ?s1_ ?s2_ A6.out).mono ?_);(case s1_=>exact Cu HR1.out);(case s2_=>exact HC1.out);rintro e w' ⟨rfl,⟨nd,rfl⟩⟩;refine ⟨_,rfl,?_⟩;have HR414:=Aside0.mk (nat_trim.C HR1.out A6.out);have HC414:=Aside0.mk (Nat.le_refl t413.length))|((with_reducible refine gate_dst (N:=22) rfl ?_);refine Kd.R_make0 (Kd.int .u32) _ 82 rfl (N:=22) rfl 61 _ _ rfl (t411.length : Int) rfl rfl Try.underlying61 (.int .u32 0) 4 info82 rfl (by decide) (by omega) (ok:=fun _=>True) trivial (oA) (Nat.le_trans (Nat.mul_le_mul_right _ (oA : (t411.length : Int).toNat≤70368744177664)) (by omega)) (Below.refl _ _) (Nat.le_refl _) ?_;intro v416 w9 ho10 hb hg_ hnew_;clear hg_ hnew_;(first|rw [← Ny415.out] at ho10|(simp only [Int.reduceToNat] at ho10;rw [← Ny415.out] at ho10));have HO417:=Aside0.mk (Kd.R_lower ho10 (below_size (bL HB.out)));replace HB:=bH HB hb;clear hb ho10))
  go_loopg [6,7,25] k (fun kq v6 v7 v25 w'=>∃ (x6_1 : List Int) (x7_1 : Int) (x25_1 : Int),v7=.int .u32 x7_1∧v25=.int .i64 x25_1∧Aside0 (nat_Sub.l0 kq t413 x6_1 x7_1 t411 (t411.length : Int) x25_1=some (r1,r2))∧Aside0 (kq≤k)∧Aside0 (Kd.R (Kd.int .u32) 82 w' w.heap.size (fun _=>True) v6 x6_1)∧Aside0 (Below w.heap.size w w'))
  case atStart=>exact ⟨(y415),(0),(0),sD,sD,H',⟨Nat.le_refl _⟩,⟨Ru HO417.out⟩,⟨bL HB.out⟩⟩
  case round =>
   clear H';obtain ⟨x6_1,x7_1,x25_1,rfl,rfl,HA,HK1,HO_6,HB⟩:=hrel
   cases gk with
   | zero=>exact absurd HA.out (by simp [nat_Sub.l0])
   | succ k1 =>
    have H:=HA.out;clear HA;simp only [nat_Sub.l0] at H
    by_cases c11 : x25_1 < (t411.length : Int)
    ·rw [if_pos c11] at H
     have c11b0 : decide (x25_1 < (t411.length : Int))=true:=decide_eq_true c11;clear c11;refine ifT H ?_;clear H;intro c12 H;have c12b0 : decide (0≤x25_1)=true:=decide_eq_true c12;clear c12;refine ifT H ?_;clear H;intro c13 H;have c13b0 : decide (x25_1 < (t411.length : Int))=true:=decide_eq_true c13;clear c13
     by_cases c14 : x25_1 < (t413.length : Int)
     ·rw [if_pos c14] at H
      have c14b0 : decide (x25_1 < (t413.length : Int))=true:=decide_eq_true c14;clear c14;refine biT H ?_;clear H;rintro ⟨t420,t421⟩ A15 H;(try dsimp only at H);replace A15:=Aside0.mk A15;refine ifT H ?_;clear H;intro c16 H;have LMc16:=Aside0.mk c16;clear c16;obtain ⟨y422,hy_⟩ : ∃ y_ : List Int,y_=(x6_1++[t420]):=⟨_,rfl⟩;replace H : (nat_Sub.l0 k1 t413 y422 t421 t411 (t411.length : Int) (wrap64 (x25_1+1)))=some (r1,r2):=yH H;have Ny422:=Aside0.mk hy_;clear hy_;have H':=Aside0.mk H;clear H;have p418 : 0≤(x25_1 : Int):=oA;have q418 : x25_1 < (t411.length : Int):=oA;obtain ⟨ad418,e418,hx418_0⟩:=Kd.at_int HR412.out x25_1 p418 q418;cases e418;replace hx418_0:=(HB.out.cell (World.block_lt_of_cell? w _ hx418_0)).trans hx418_0;replace p418:=eq_true p418;replace q418:=eq_true q418;have p419 : 0≤(x25_1 : Int):=oA;have q419 : x25_1 < (t413.length : Int):=oA;obtain ⟨ad419,e419,hx419_0⟩:=Kd.at_int HR414.out x25_1 p419 q419;cases e419;replace hx419_0:=(HB.out.cell (World.block_lt_of_cell? w _ hx419_0)).trans hx419_0;replace p419:=eq_true p419;replace q419:=eq_true q419
      go_wp2_with (first|((with_reducible refine gate_callee (f:=73) rfl ?_);refine gL (some 42) Try.func73 #[.int .u32 (rd t411 x25_1),.int .u32 (rd t413 x25_1),.int .u32 x7_1] ?_;(with_reducible refine (bits_Sub32.calls (rd t411 x25_1) (rd t413 x25_1) x7_1 t420 t421 _ A15.out).mono ?_);rintro e w' ⟨rfl,⟨nd,rfl⟩⟩;refine ⟨_,rfl,?_⟩)|((with_reducible refine gate_builtin (b:=.append) (xs:=#[.tmp 45,.tmp 47]) rfl ?_);at_builtin;refine Kd.R_append (Kd.int .u32) (w0:=w) w.heap.size rfl (.tmp 45) (.tmp 47) 61 82 (.int .u32 0) 4 rfl Try.underlying61 info82 rfl (by decide) (by omega) u6 x6_1 t420 [.int .u32 t420] (fun _=>True) (fun _=>False) rfl rfl ?aP (fun _ hk=>hk.elim) ?aF ?aO ?aB ?aS ?aL ?_;(case aP=>exact rfl);(case aB=>exact (bL HB.out));(case aF=>exact (fun _ _=>trivial));(case aO=>exact (Ru HO_6.out));(case aS=>exact (below_size (bL HB.out)));(case aL=>have:=LMc16.out;omega);intro v423 w17 ho hb hg hat;rw [← Ny422.out] at ho;replace HB:=Aside0.mk hb;have HO424:=Aside0.mk ho;clear HO_6;clear ho hb hg hat))
      go_roundg k1
      case measure=>have:=HK1.out;omega
      case rel=>exact ⟨(y422),(t421),(wrap64 (x25_1+1)),sD,sD,H',⟨by have:=HK1.out;omega⟩,⟨Ru HO424.out⟩,⟨bL HB.out⟩⟩
     ·rw [if_neg c14] at H
      have c14b0 : decide (x25_1 < (t413.length : Int))=false:=decide_eq_false c14;clear c14;refine biT H ?_;clear H;rintro ⟨t425,t426⟩ A18 H;(try dsimp only at H);replace A18:=Aside0.mk A18;refine ifT H ?_;clear H;intro c19 H;have LMc19:=Aside0.mk c19;clear c19;obtain ⟨y427,hy_⟩ : ∃ y_ : List Int,y_=(x6_1++[t425]):=⟨_,rfl⟩;replace H : (nat_Sub.l0 k1 t413 y427 t426 t411 (t411.length : Int) (wrap64 (x25_1+1)))=some (r1,r2):=yH H;have Ny427:=Aside0.mk hy_;clear hy_;have H':=Aside0.mk H;clear H;have p418 : 0≤(x25_1 : Int):=oA;have q418 : x25_1 < (t411.length : Int):=oA;obtain ⟨ad418,e418,hx418_0⟩:=Kd.at_int HR412.out x25_1 p418 q418;cases e418;replace hx418_0:=(HB.out.cell (World.block_lt_of_cell? w _ hx418_0)).trans hx418_0;replace p418:=eq_true p418;replace q418:=eq_true q418
      go_wp2_with (first|((with_reducible refine gate_callee (f:=73) rfl ?_);refine gL (some 42) Try.func73 #[.int .u32 (rd t411 x25_1),.int .u32 0,.int .u32 x7_1] ?_;(with_reducible refine (bits_Sub32.calls (rd t411 x25_1) 0 x7_1 t425 t426 _ A18.out).mono ?_);rintro e w' ⟨rfl,⟨nd,rfl⟩⟩;refine ⟨_,rfl,?_⟩)|((with_reducible refine gate_builtin (b:=.append) (xs:=#[.tmp 45,.tmp 47]) rfl ?_);at_builtin;refine Kd.R_append (Kd.int .u32) (w0:=w) w.heap.size rfl (.tmp 45) (.tmp 47) 61 82 (.int .u32 0) 4 rfl Try.underlying61 info82 rfl (by decide) (by omega) u6 x6_1 t425 [.int .u32 t425] (fun _=>True) (fun _=>False) rfl rfl ?aP (fun _ hk=>hk.elim) ?aF ?aO ?aB ?aS ?aL ?_;(case aP=>exact rfl);(case aB=>exact (bL HB.out));(case aF=>exact (fun _ _=>trivial));(case aO=>exact (Ru HO_6.out));(case aS=>exact (below_size (bL HB.out)));(case aL=>have:=LMc19.out;omega);intro v428 w20 ho hb hg hat;rw [← Ny427.out] at ho;replace HB:=Aside0.mk hb;have HO429:=Aside0.mk ho;clear HO_6;clear ho hb hg hat))
      go_roundg k1
      case measure=>have:=HK1.out;omega
      case rel=>exact ⟨(y427),(t426),(wrap64 (x25_1+1)),sD,sD,H',⟨by have:=HK1.out;omega⟩,⟨Ru HO429.out⟩,⟨bL HB.out⟩⟩
    ·rw [if_neg c11] at H
     have c11b0 : decide (x25_1 < (t411.length : Int))=false:=decide_eq_false c11;clear c11;refine biT H ?_;clear H;intro t430 A21 H;(try dsimp only at H);replace A21:=Aside0.mk A21;simp only [Option.some.injEq,Prod.mk.injEq] at H;obtain ⟨rfl,rfl⟩:=H;obtain ⟨Ao22,co22,eo22⟩:=Kd.R_slice HO_6.out;subst eo22
     go_wp2_with (first|((with_reducible refine gate_callee (f:=70) rfl ?_);refine gL (some 51) Try.func70 #[.slice Ao22 x6_1.length co22] ?_;(with_reducible refine (nat_trim.calls _ _ x6_1 t430 _ ?s1_ ?s2_ A21.out).mono ?_);(case s1_=>exact Cu (Kd.R_reads' HO_6.out).2.2);(case s2_=>exact (Kd.R_reads' HO_6.out).2.1);rintro e w' ⟨rfl,⟨nd,rfl⟩⟩;refine ⟨_,rfl,?_⟩;have HO432:=Aside0.mk (nat_trim.R HO_6.out A21.out);clear HO_6))
     go_ret2
     exact ⟨_,eW,by (with_reducible repeat (first|apply Ra|apply Rn|apply Rd));exact HO432.out,bL HB.out⟩
theorem nat_Bits.calls (A0 : Option Addr) (c0 : Nat) (l0 : List Int) (r : Int) (w : World) (hr0 : Kd.C (Kd.int .u32) w A0 l0.length l0) (hc0 : l0.length≤c0) (h : nat_Bits.f l0=some r) :
  Calls Try.prog 69 #[.slice A0 l0.length c0] w fun e w'=>e=.returned (.int .i64 r)∧Drawn0 w w':=by
 have HR0:=Aside0.mk hr0;have HC0:=Aside0.mk hc0;clear hr0 hc0;have H : ((nat_trim.f l0).bind fun t345=>(if (t345.length : Int)=0 then (some 0) else (if 0≤(wrap64 ((t345.length : Int) - 1)) then (if (wrap64 ((t345.length : Int) - 1)) < (t345.length : Int) then ((bits_LeadingZeros32.f (rd t345 (wrap64 ((t345.length : Int) - 1)))).bind fun t348=>(some (wrap64 ((wrap64 (32 * (t345.length : Int))) - t348)))) else (none)) else (none))))=some r:=h;clear h;refine biT H ?_;clear H;intro t345 A2 H;(try dsimp only at H);replace A2:=Aside0.mk A2
 by_cases c3 : (t345.length : Int)=0
 ·rw [if_pos c3] at H
  have c3b0 : ((t345.length : Int) == 0)=true:=beq_iff_eq.mpr c3;have c3b1 : ((t345.length : Int) != 0)=false:=bne_eq_false_iff_eq.mpr c3;clear c3;obtain rfl:=Option.some.inj H
  go_enter Try.func69,Try.ntmps69
  go_wp2_with (first|((with_reducible refine gate_callee (f:=70) rfl ?_);refine gL (some 4) Try.func70 #[.slice A0 l0.length c0] ?_;(with_reducible refine (nat_trim.calls _ _ l0 t345 _ ?s1_ ?s2_ A2.out).mono ?_);(case s1_=>exact Cu HR0.out);(case s2_=>exact HC0.out);rintro e w' ⟨rfl,⟨nd,rfl⟩⟩;refine ⟨_,rfl,?_⟩;have HR346:=Aside0.mk (nat_trim.C HR0.out A2.out);have HC346:=Aside0.mk (Nat.le_refl t345.length)))
  go_ret
  exact ⟨sD,by repeat (first|exact Drawn0.refl _|apply Drawn0.step)⟩
 ·rw [if_neg c3] at H
  have c3b0 : ((t345.length : Int) == 0)=false:=beq_eq_false_iff_ne.mpr c3;have c3b1 : ((t345.length : Int) != 0)=true:=bne_iff_ne.mpr c3
  have c3b2 : ¬ (t345=[]):=fun h_=>c3 (by rw [h_];rfl)
  obtain ⟨ji4,hji4⟩ : ∃ j_ : Int,(wrap64 ((t345.length : Int) - 1))=j_:=⟨_,rfl⟩
  replace H : (if 0≤(ji4) then (if (ji4) < (t345.length : Int) then ((bits_LeadingZeros32.f (rd t345 (ji4))).bind fun t348=>(some (wrap64 ((wrap64 (32 * (t345.length : Int))) - t348)))) else (none)) else (none))=some r:=by first|(rw [hji4] at H;exact H)|(simp only [hji4] at H ⊢;exact H)
  (try rw [hji4] at A2)
  have hji4w : (IntKind.i64.wrap ((t345.length : Int) - 1))=ji4:=(i64_w _).trans hji4;refine ifT H ?_;clear H;intro c5 H;have c5b0 : decide (0≤(ji4))=true:=decide_eq_true c5;clear c5;refine ifT H ?_;clear H;intro c6 H;have c6b0 : decide ((ji4) < (t345.length : Int))=true:=decide_eq_true c6;clear c6;refine biT H ?_;clear H;intro t348 A7 H;(try dsimp only at H);replace A7:=Aside0.mk A7;obtain rfl:=Option.some.inj H
  go_enter Try.func69,Try.ntmps69
  go_wp2_with (first|((with_reducible refine gate_callee (f:=70) rfl ?_);refine gL (some 4) Try.func70 #[.slice A0 l0.length c0] ?_;(with_reducible refine (nat_trim.calls _ _ l0 t345 _ ?s1_ ?s2_ A2.out).mono ?_);(case s1_=>exact Cu HR0.out);(case s2_=>exact HC0.out);rintro e w' ⟨rfl,⟨nd,rfl⟩⟩;refine ⟨_,rfl,?_⟩;have HR346:=Aside0.mk (nat_trim.C HR0.out A2.out);have HC346:=Aside0.mk (Nat.le_refl t345.length);have p347 : 0≤((ji4) : Int):=oA;have q347 : (ji4) < (t345.length : Int):=oA;obtain ⟨ad347,e347,hx347_0⟩:=Kd.at_int HR346.out (ji4) p347 q347;cases e347;replace p347:=eq_true p347;replace q347:=eq_true q347)|((with_reducible refine gate_callee (f:=80) rfl ?_);refine gL (some 17) Try.func80 #[.int .u32 (rd t345 (ji4))] ?_ (hargs:=by (try simp only [List.map_toArray,List.map_cons,List.map_nil]);first|done|(simp only [hji4];rfl)|rfl|(simp only [List.length_drop,List.length_take];rfl));(with_reducible refine (bits_LeadingZeros32.calls (rd t345 (ji4)) t348 _ A7.out).mono ?_);rintro e w' ⟨rfl,⟨nd,rfl⟩⟩;refine ⟨_,rfl,?_⟩))
  go_ret
  exact ⟨by first|rfl|(simp;done)|(simp only [← hji4] <;> (first|rfl|simp))|(simp [*];done),by repeat (first|exact Drawn0.refl _|apply Drawn0.step)⟩
set_option maxHeartbeats 400000 in
theorem rat_whole.reads (S : Nat→Prop) (n : Bool) (A1 : Option Addr) (c1 : Nat) (a : List Int) (A2 : Option Addr) (c2 : Nat) (b : List Int) (m : Bool) (p q : List Int) (w : World) (hS : ∀ k,S k→k < w.heap.size)
  (hr : Rbst S w (fun W=>U32.C W A1 a.length a∧U32.C W A2 b.length b)) (hc1 : a.length≤c1) (hc2 : b.length≤c2) (h : rat_whole.f n a b=some (m,p,q)) :
  Calls Try.prog 56 #[.agg #[.bool n,.slice A1 a.length c1,.slice A2 b.length c2]] w fun e w'=>∃ A1' c1' A2' c2',e=.returned (.agg #[.bool m,.slice A1' p.length c1',.slice A2' q.length c2'])∧p.length≤c1'∧q.length≤c2' ∧
   Rbst S w' (fun W=>U32.C W A1' p.length p∧U32.C W A2' q.length q)∧Below w.heap.size w w':=by
 obtain ⟨t,T,h⟩:=Option.bind_eq_some_iff.mp h;have T:=Aside0.mk T;have HS : Aside0 (∀ k,(S k∨w.heap.size≤k∧k < w.heap.size+2)→k < w.heap.size+2):=⟨fun k hk=>hk.elim (fun h=>by have:=hS k h;omega) (fun h=>h.2)⟩;have HR:=Aside0.mk (hr.less (S':=fun k=>S k∨w.heap.size≤k∧k < w.heap.size+2) (fun k hk=>hk.imp_right (·.1)));have HC1:=Aside0.mk hc1;have HC2:=Aside0.mk hc2;clear hr hS hc1 hc2
 by_cases c : t=0
 ·rw [if_pos c] at h
  obtain ⟨o,O,h⟩:=Option.bind_eq_some_iff.mp h;have O:=Aside0.mk O
  obtain ⟨rfl,rfl,rfl⟩ : false=m∧[]=p∧o=q:=by simpa using h
  clear h;have cb : (t == 0)=true:=beq_iff_eq.mpr c;clear c
  go_enter Try.func56,Try.ntmps56
  go_wp2_with (first
   | (go_at_call 69;refine (nat_Bits.calls _ _ b _ _ ?h1 HC2.out T.out).mono ?_;(case h1=>exact (HR.out.at ((Kept.refl _ _).alloc _ |>.alloc _)).2);rintro e w5 ⟨rfl,⟨nd,rfl⟩⟩)
   | (go_at_call 42;refine (rat_one.calls _ _ O.out).mono ?_;rintro e w6 ⟨v,rfl,ho,hb⟩;obtain ⟨A',c',rfl,hl,hr⟩:=made ho (fun k hk=>.inl (by simpa using HS.out k hk));obtain ⟨hc,hf⟩:=bcell hb;have HR:=Aside0.mk hr;have HL:=Aside0.mk hl;clear ho hr hl))
  refine bodyPost_ret (v:=.agg #[.bool false,.slice none 0 0,.slice A' o.length c']) (by simp [results,Try.results56,go_sem,hc]) rfl ⟨_,_,_,_,rfl,Nat.le_refl _,HL.out,?_,?_⟩
  ·exact (Rbst.mk fun W _=>Kd.C_nil _ W).and (HR.out.step (by repeat (first|exact Kept.refl _ _|(refine Kept.setCell ?_ (.inl (.inr (by simp))) _))) |>.less fun k hk=>.inl (.inl hk))
  ·repeat (first|exact Below.refl _ _|apply ba|apply bn|(refine below_set ?_ (by simp))|(refine below_step ?_ hb))
 ·rw [if_neg c] at h
  obtain ⟨rfl,rfl,rfl⟩ : n=m∧a=p∧b=q:=by simpa using h
  clear h;have cb : (t == 0)=false:=beq_eq_false_iff_ne.mpr c;clear c
  go_enter Try.func56,Try.ntmps56
  go_wp2_with (first
   | (go_at_call 69;refine (nat_Bits.calls _ _ b _ _ ?h1 HC2.out T.out).mono ?_;(case h1=>exact (HR.out.at ((Kept.refl _ _).alloc _ |>.alloc _)).2);rintro e w5 ⟨rfl,⟨nd,rfl⟩⟩))
  refine bodyPost_ret (v:=.agg #[.bool n,.slice A1 a.length c1,.slice A2 b.length c2]) (by simp [results,Try.results56,go_sem]) rfl ⟨_,_,_,_,rfl,HC1.out,HC2.out,?_,?_⟩
  ·exact (HR.out.step (by repeat (first|exact Kept.refl _ _|apply Kept.alloc|apply Kept.drewN|(refine Kept.setCell ?_ (.inl (.inr (by simp))) _)))).less fun k hk=>.inl (.inl hk)
  ·repeat (first|exact Below.refl _ _|apply ba|apply bn|(refine below_set ?_ (by simp)))
def rat_plus.T2 : Bool × List (List Nat × List Nat):=(true,[([],[]),([0],[0]),([],[]),([2],[2]),([1,3],[1,3]),([],[]),([5],[5]),([],[]),([7],[7]),([6,8,4],[6,8]),([4,9,0,1,2,3,4],[4]),([9,10,0,1,2,3,4,5,6,7,8,9,10],[9])])
def rat_plus.B2 : List Nat:=[0,1,0,4,15,0,32,0,128,511,1023,2047]
theorem rat_plus.tab2 : rtab .any (opsOf Try.f43 2)=rat_plus.T2:=by kernel_rfl
theorem rat_plus.bits2 : waitsOk rat_plus.T2.2 rat_plus.B2=true:=by kernel_rfl
def rat_plus.T5 : Bool × List (List Nat × List Nat):=(true,[([],[]),([0],[0]),([],[]),([],[]),([2,3],[2,3]),([],[]),([1,4,5,4],[1,4,5]),([6,6,0,1,2,3,4,5,6],[6])])
def rat_plus.B5 : List Nat:=[0,1,0,0,12,0,63,127]
theorem rat_plus.tab5 : rtab .any (opsOf Try.f43 5)=rat_plus.T5:=by kernel_rfl
theorem rat_plus.bits5 : waitsOk rat_plus.T5.2 rat_plus.B5=true:=by kernel_rfl
set_option maxHeartbeats 4000000 in
theorem rat_plus.calls (k : Nat) (a0_0 : Bool) (A0_1 : Option Addr) (c0_1 : Nat) (l0_1 : List Int) (A0_2 : Option Addr) (c0_2 : Nat) (l0_2 : List Int) (a1_0 : Bool) (A1_1 : Option Addr) (c1_1 : Nat) (l1_1 : List Int) (A1_2 : Option Addr) (c1_2 : Nat) (l1_2 : List Int) (r1 : Bool) (r2 : List Int) (r3 : List Int) (w : World) (hr0_1 : Kd.C (Kd.int .u32) w A0_1 l0_1.length l0_1) (hc0_1 : l0_1.length≤c0_1) (hr0_2 : Kd.C (Kd.int .u32) w A0_2 l0_2.length l0_2) (hc0_2 : l0_2.length≤c0_2) (hr1_1 : Kd.C (Kd.int .u32) w A1_1 l1_1.length l1_1) (hc1_1 : l1_1.length≤c1_1) (hr1_2 : Kd.C (Kd.int .u32) w A1_2 l1_2.length l1_2) (hc1_2 : l1_2.length≤c1_2) (h : rat_plus.f k a0_0 l0_1 l0_2 a1_0 l1_1 l1_2=some (r1,r2,r3)) :
  Calls Try.prog 43 #[.agg #[.bool a0_0,.slice A0_1 l0_1.length c0_1,.slice A0_2 l0_2.length c0_2],.agg #[.bool a1_0,.slice A1_1 l1_1.length c1_1,.slice A1_2 l1_2.length c1_2]] w fun e w'=>∃ v1_ v2_ : Value,e=.returned (.agg #[.bool r1,v1_,v2_])∧Kd.R (Kd.int .u32) 82 w' w.heap.size (fun k_=>some k_≠(v2_ : Value).ownBlock) v1_ r2∧Kd.R (Kd.int .u32) 82 w' w.heap.size (fun k_=>some k_≠(v1_ : Value).ownBlock) v2_ r3∧Below w.heap.size w w':=by
 obtain ⟨⟨m,a,b⟩,P0,h⟩:=Option.bind_eq_some_iff.mp h;obtain ⟨⟨n,c,d⟩,P1,h⟩:=Option.bind_eq_some_iff.mp h;obtain ⟨x,X,h⟩:=Option.bind_eq_some_iff.mp h;obtain ⟨y,Y,h⟩:=Option.bind_eq_some_iff.mp h;obtain ⟨z,Z,h⟩:=Option.bind_eq_some_iff.mp h;dsimp only at X Y Z h;have P0:=Aside0.mk P0;have P1:=Aside0.mk P1;have X:=Aside0.mk X;have Y:=Aside0.mk Y;have Z:=Aside0.mk Z
 obtain ⟨S,hS⟩ : ∃ S : Nat→Prop,S=fun k=>w.heap.size≤k∧k < w.heap.size+3:=⟨_,rfl⟩
 have HS : Aside0 (∀ j,j < 3→S (w.heap.size+j)):=⟨fun j hj=>by subst hS;exact ⟨by omega,by omega⟩⟩;have HS2 : Aside0 (∀ k,S k→k < w.heap.size+3):=⟨fun k hk=>by subst hS;exact hk.2⟩
 have HF : Aside0 (Rbst S w (fun W=>(U32.C W A0_1 l0_1.length l0_1∧U32.C W A0_2 l0_2.length l0_2)∧(U32.C W A1_1 l1_1.length l1_1∧U32.C W A1_2 l1_2.length l1_2))):=by
  have q:=fun {A n xs} (h : U32.C w A n xs)=>came (S:=S) h (Kd.heap_int .u32) (Below.refl _ w) (fun k hk=>by subst hS;exact hk.1)
  exact ⟨((q hr0_1).and (q hr0_2)).and ((q hr1_1).and (q hr1_2))⟩
 have HC:=Aside0.mk (And.intro (And.intro hc0_1 hc0_2) (And.intro hc1_1 hc1_2));have HH:=Aside0.mk h;clear hr0_1 hr0_2 hr1_1 hr1_2 hc0_1 hc0_2 hc1_1 hc1_2 h hS
 go_enter Try.func43,Try.ntmps43
 go_upto_region 1 with fail
 obtain ⟨W1,hW1⟩ : ∃ W1,((w.alloc (.cells #[.bool a0_0,.slice A0_1 l0_1.length c0_1,.slice A0_2 l0_2.length c0_2] 63)).alloc (.cells #[.bool a1_0,.slice A1_1 l1_1.length c1_1,.slice A1_2 l1_2.length c1_2] 63)).alloc (.cells #[.bool false,.slice none 0 0,.slice none 0 0] 63)=W1:=⟨_,rfl⟩
 obtain ⟨HB,HZ,B0,B1,B2⟩ : Aside0 (Below w.heap.size w W1.drew)∧Aside0 (w.heap.size+3≤W1.drew.heap.size)∧W1.drew.heap[w.heap.size]? = some (.cells #[.bool a0_0,.slice A0_1 l0_1.length c0_1,.slice A0_2 l0_2.length c0_2] 63)∧W1.drew.heap[w.heap.size+1]? = some (.cells #[.bool a1_0,.slice A1_1 l1_1.length c1_1,.slice A1_2 l1_2.length c1_2] 63)∧W1.drew.heap[w.heap.size+1+1]? = some (.cells #[.bool false,.slice none 0 0,.slice none 0 0] 63):=by
  rw [← hW1];exact three w _ _ _
 haveI k1 : Kp S w W1.drew:=by rw [← hW1];infer_instance
 rw [hW1];refine sT (n:=6) (S:=fun w'=>w'.cell? ⟨w.heap.size,0,none⟩=some (.bool a0_0)∧w'.cell? ⟨w.heap.size,1,none⟩=some (.slice A0_1 l0_1.length c0_1)∧w'.cell? ⟨w.heap.size,2,none⟩=some (.slice A0_2 l0_2.length c0_2)∧w'.cell? ⟨w.heap.size+1,0,none⟩=some (.bool a1_0)∧w'.cell? ⟨w.heap.size+1,1,none⟩=some (.slice A1_1 l1_1.length c1_1)∧w'.cell? ⟨w.heap.size+1,2,none⟩=some (.slice A1_2 l1_2.length c1_2)) (ds:=[4,5]) (by kernel_rfl) rfl ⟨(cells3 B0).1,(cells3 B0).2.1,(cells3 B0).2.2,(cells3 B1).1,(cells3 B1).2.1,(cells3 B1).2.2⟩ (fun hHeld=>?_);refine zt 0 12 ?_;refine zt 2 14 ?_
 refine oN 1 (some 13) rfl rfl fun K hK=>?_
 refine goes_ Try.func56 (by kernel_rfl) rfl #[.agg #[.bool a0_0,.slice A0_1 l0_1.length c0_1,.slice A0_2 l0_2.length c0_2]] (by rfl) rfl rfl (by simp only [List.map_toArray,List.map_cons,List.map_nil];rfl) ?_
 with_reducible refine (rat_whole.reads S _ _ _ l0_1 _ _ l0_2 m a b _ (fun k hk=>Nat.lt_of_lt_of_le (HS2.out k hk) HZ.out) ((Rbst.up HF.out).imp fun _ h=>h.1) HC.out.1.1 HC.out.1.2 P0.out).mono ?_
 rintro e W2 ⟨A1,c1,A2,c2,rfl,hl1,hl2,hr,hb⟩;refine ⟨_,rfl,?_⟩;have HP:=Aside0.mk hr;have HL1:=Aside0.mk (And.intro hl1 hl2)
 haveI k2 : ∀ w0,[Kp S w0 W1.drew]→Kp S w0 W2:=fun w0 _=>kp_of hb w0
 replace B0:=blk_below B0 hb;replace B1:=blk_below B1 hb;replace B2:=blk_below B2 hb;replace HB:=Aside0.mk (below_step HB.out hb);replace HZ:=Aside0.mk (Nat.le_trans HZ.out hb.size);clear hr hl1 hl2 hb;refine hK.out _ _ ⟨(cells3 B0).1,(cells3 B0).2.1,(cells3 B0).2.2,(cells3 B1).1,(cells3 B1).2.1,(cells3 B1).2.2⟩ (fun hHeld=>?_);clear hK K;refine nZ ?_
 refine oN 3 (some 15) rfl rfl fun K hK=>?_
 refine goes_ Try.func56 (by kernel_rfl) rfl #[.agg #[.bool a1_0,.slice A1_1 l1_1.length c1_1,.slice A1_2 l1_2.length c1_2]] (by rfl) rfl rfl (by simp only [List.map_toArray,List.map_cons,List.map_nil];rfl) ?_
 with_reducible refine (rat_whole.reads S _ _ _ l1_1 _ _ l1_2 n c d _ (fun k hk=>Nat.lt_of_lt_of_le (HS2.out k hk) HZ.out) ((Rbst.up HF.out).imp fun _ h=>h.2) HC.out.2.1 HC.out.2.2 P1.out).mono ?_
 rintro e W3 ⟨A3,c3,A4,c4,rfl,hl1,hl2,hr,hb⟩;refine ⟨_,rfl,?_⟩;have HQ:=Aside0.mk hr;have HL2:=Aside0.mk (And.intro hl1 hl2)
 haveI k3 : ∀ w0,[Kp S w0 W2]→Kp S w0 W3:=fun w0 _=>kp_of hb w0
 replace B0:=blk_below B0 hb;replace B1:=blk_below B1 hb;replace B2:=blk_below B2 hb;replace HB:=Aside0.mk (below_step HB.out hb);replace HZ:=Aside0.mk (Nat.le_trans HZ.out hb.size);clear hr hl1 hl2 hb;refine hK.out _ _ ⟨(cells3 B0).1,(cells3 B0).2.1,(cells3 B0).2.2,(cells3 B1).1,(cells3 B1).2.1,(cells3 B1).2.2⟩ (fun hHeld=>?_);clear hK K;refine nZ ?_
 refine lN 4 (none) rfl rfl fun K hK=>?_
 have q0:=cells3 B0;have q1:=free3 B0;refine skip_ (w1:=?_) (by rfl) rfl ?_ ?_;rotate_left
 ·go_simp
  rfl
 replace B0:=put3 B0 (.bool m) (.slice A1 a.length c1) (.slice A2 b.length c2);clear q0 q1;refine hK.out _ _ ?_;clear hK K
 refine lN 5 (none) rfl rfl fun K hK=>?_
 have q0:=cells3 B1;have q1:=free3 B1;refine skip_ (w1:=?_) (by rfl) rfl ?_ ?_;rotate_left
 ·go_simp
  rfl
 clear q0 q1;refine hK.out _ _ ?_;clear hK K;refine dN ?_;replace B1:=put3 (far3 B1 (show w.heap.size+1≠w.heap.size by omega) (.bool m) (.slice A1 a.length c1) (.slice A2 b.length c2)) (.bool n) (.slice A3 c.length c3) (.slice A4 d.length c4);replace B0:=far3 B0 (show w.heap.size≠w.heap.size+1 by omega) (.bool n) (.slice A3 c.length c3) (.slice A4 d.length c4);replace B2:=far3 (far3 B2 (show w.heap.size+1+1≠w.heap.size by omega) (.bool m) (.slice A1 a.length c1) (.slice A2 b.length c2)) (show w.heap.size+1+1≠w.heap.size+1 by omega) (.bool n) (.slice A3 c.length c3) (.slice A4 d.length c4);replace HB:=Aside0.mk (low3 (low3 HB.out (Nat.le_refl _) (.bool m) (.slice A1 a.length c1) (.slice A2 b.length c2)) (Nat.le_succ _) (.bool n) (.slice A3 c.length c3) (.slice A4 d.length c4))
 haveI i0 : In S w.heap.size:=⟨HS.out 0 (by omega)⟩
 haveI i1 : In S (w.heap.size+1):=⟨HS.out 1 (by omega)⟩
 haveI i2 : In S (w.heap.size+1+1):=⟨HS.out 2 (by omega)⟩
 obtain ⟨W4,hW4⟩ : ∃ W4,(((((W3.setCell ⟨w.heap.size,0,none⟩ (.bool m)).setCell ⟨w.heap.size,1,none⟩ (.slice A1 a.length c1)).setCell ⟨w.heap.size,2,none⟩ (.slice A2 b.length c2)).setCell ⟨w.heap.size+1,0,none⟩ (.bool n)).setCell ⟨w.heap.size+1,1,none⟩ (.slice A3 c.length c3)).setCell ⟨w.heap.size+1,2,none⟩ (.slice A4 d.length c4)=W4:=⟨_,rfl⟩
 haveI k4 : ∀ w0,[Kp S w0 W3]→Kp S w0 W4:=fun w0 _=>by rw [← hW4];infer_instance
 rw [hW4] at B0 B1 B2 HB ⊢;replace HZ : Aside0 (w.heap.size+3≤W4.drew.heap.size):=⟨by rw [← hW4];simpa [World.setCell] using HZ.out⟩;replace B0 : W4.drew.heap[w.heap.size]? = _:=B0;replace B1 : W4.drew.heap[w.heap.size+1]? = _:=B1;replace B2 : W4.drew.heap[w.heap.size+1+1]? = _:=B2;replace HB:=Aside0.mk (b1 HB.out)
 go_wp2
 refine sT (n:=12) (S:=fun w'=>w'.cell? ⟨w.heap.size,1,none⟩=some (.slice A1 a.length c1)∧w'.cell? ⟨w.heap.size,2,none⟩=some (.slice A2 b.length c2)∧w'.cell? ⟨w.heap.size+1,1,none⟩=some (.slice A3 c.length c3)∧w'.cell? ⟨w.heap.size+1,2,none⟩=some (.slice A4 d.length c4)) (ds:=[]) (by kernel_rfl) rfl ⟨(cells3 B0).2.1,(cells3 B0).2.2,(cells3 B1).2.1,(cells3 B1).2.2⟩ (fun hHeld=>?_);refine with_tabW rat_plus.tab2 rat_plus.bits2 (fun HT_ HW_=>?_);refine zp 0 16 ?_;refine zp 2 18 ?_;refine zp 5 21 ?_;refine zp 7 23 ?_;refine zt 1 17 ?_;refine zt 3 19 ?_;refine zt 6 22 ?_;refine zt 8 24 ?_
 refine oN 4 (some 20) rfl rfl fun K hK=>?_
 refine goes_ Try.func57 (by kernel_rfl) rfl #[.slice A1 a.length c1,.slice A4 d.length c4] (by rfl) rfl rfl (by simp only [List.map_toArray,List.map_cons,List.map_nil];rfl) ?_
 with_reducible refine (nat_Mul.calls k _ _ a _ _ d x _ HP.out.now'.1 HL1.out.1 HQ.out.now'.2 HL2.out.2 X.out).mono ?_
 rintro e W5 ⟨v,rfl,ho,hb⟩;refine ⟨_,rfl,?_⟩;obtain ⟨Ax,cx,rfl,hl,hr⟩:=made ho (fun k hk=>.inl (Nat.lt_of_lt_of_le (HS2.out k hk) HZ.out));have HX:=Aside0.mk hr;have LX:=Aside0.mk hl
 haveI kW5 : ∀ w0,[Kp S w0 W4.drew]→Kp S w0 W5:=fun w0 _=>kp_of hb w0
 replace B0:=blk_below B0 hb;replace B1:=blk_below B1 hb;replace B2:=blk_below B2 hb;replace HB:=Aside0.mk (below_step HB.out hb);replace HZ:=Aside0.mk (Nat.le_trans HZ.out hb.size);clear hr hl hb ho;refine hK.out _ _ ⟨(cells3 B0).2.1,(cells3 B0).2.2,(cells3 B1).2.1,(cells3 B1).2.2⟩ (fun hHeld=>?_);clear hK K;refine nZ ?_
 refine oN 9 (some 25) rfl rfl fun K hK=>?_
 refine goes_ Try.func57 (by kernel_rfl) rfl #[.slice A3 c.length c3,.slice A2 b.length c2] (by rfl) rfl rfl (by simp only [List.map_toArray,List.map_cons,List.map_nil];rfl) ?_
 with_reducible refine (nat_Mul.calls k _ _ c _ _ b y _ HQ.out.now'.1 HL2.out.1 HP.out.now'.2 HL1.out.2 Y.out).mono ?_
 rintro e W6 ⟨v,rfl,ho,hb⟩;refine ⟨_,rfl,?_⟩;obtain ⟨Ay,cy,rfl,hl,hr⟩:=made ho (fun k hk=>.inl (Nat.lt_of_lt_of_le (HS2.out k hk) HZ.out));have HY:=Aside0.mk hr;have LY:=Aside0.mk hl
 haveI kW6 : ∀ w0,[Kp S w0 W5]→Kp S w0 W6:=fun w0 _=>kp_of hb w0
 replace B0:=blk_below B0 hb;replace B1:=blk_below B1 hb;replace B2:=blk_below B2 hb;replace HB:=Aside0.mk (below_step HB.out hb);replace HZ:=Aside0.mk (Nat.le_trans HZ.out hb.size);clear hr hl hb ho;refine hK.out _ _ ⟨(cells3 B0).2.1,(cells3 B0).2.2,(cells3 B1).2.1,(cells3 B1).2.2⟩ (fun hHeld=>?_);clear hK K;refine nZ ?_
 refine oN 10 (some 5) rfl rfl fun K hK=>?_
 refine value_ (w1:=?_) (v:=?_) (by rfl) rfl ?_ ?_;rotate_left 2
 ·go_simp
  constructor
  ·rfl
  ·rfl
 refine hK.out _ _ ⟨(cells3 B0).2.1,(cells3 B0).2.2,(cells3 B1).2.1,(cells3 B1).2.2⟩ (fun hHeld=>?_);clear hK K;refine nZ ?_
 refine oN 11 (some 6) rfl rfl fun K hK=>?_
 refine value_ (w1:=?_) (v:=?_) (by rfl) rfl ?_ ?_;rotate_left 2
 ·go_simp
  constructor
  ·rfl
  ·rfl
 refine hK.out _ _ ⟨(cells3 B0).2.1,(cells3 B0).2.2,(cells3 B1).2.1,(cells3 B1).2.2⟩ (fun hHeld=>?_);clear hK K;refine nZ ?_;refine dN ?_;have q0:=cells3 B0;have q1:=cells3 B1
 by_cases cb : m=n
 ·have cb1 : (m == n)=true:=by simpa using cb
  have cb2 : decide (m=n)=true:=by simpa using cb
  have H:=HH.out;rw [if_pos cb1] at H;obtain ⟨s,A,H⟩:=Option.bind_eq_some_iff.mp H;have A:=Aside0.mk A;have M:=Aside0.mk H;clear H HH cb
  go_wp2_with (first|(go_at_call 57;(with_reducible refine (nat_Mul.calls k _ _ b _ _ d z _ HP.out.now'.2 HL1.out.2 HQ.out.now'.2 HL2.out.2 Z.out).mono ?_);rintro e W7 ⟨v,rfl,ho,hb⟩;obtain ⟨Az,cz,rfl,hl,hr⟩:=made ho (fun k hk=>.inl (Nat.lt_of_lt_of_le (HS2.out k hk) HZ.out));have HD:=Aside0.mk hr;have LD:=Aside0.mk hl;haveI kW7 : ∀ w0,[Kp S w0 W6]→Kp S w0 W7:=fun w0 _=>kp_of hb w0;replace B0:=blk_below B0 hb;replace B1:=blk_below B1 hb;replace B2:=blk_below B2 hb;replace HB:=Aside0.mk (below_step HB.out hb);replace HZ:=Aside0.mk (Nat.le_trans HZ.out hb.size);replace q0:=cells3 B0;replace q1:=cells3 B1;clear hr hl hb ho))
  replace B0 : W7.drew.heap[w.heap.size]? = _:=B0;replace B1 : W7.drew.heap[w.heap.size+1]? = _:=B1;replace B2 : W7.drew.heap[w.heap.size+1+1]? = _:=B2;replace HB:=Aside0.mk (b1 HB.out);replace HZ : Aside0 (w.heap.size+3≤W7.drew.heap.size):=HZ;clear q0 q1;refine sT (n:=8) (S:=fun w'=>w'.cell? ⟨w.heap.size,0,none⟩=some (.bool m)) (ds:=[7]) (by kernel_rfl) rfl ((cells3 B0).1) (fun hHeld=>?_);refine with_tabW rat_plus.tab5 rat_plus.bits5 (fun HT_ HW_=>?_);refine zp 0 36 ?_;refine zp 2 38 ?_;refine zp 3 39 ?_;refine zp 5 41 ?_;refine zt 1 37 ?_
  refine oN 4 (some 40) rfl rfl fun K hK=>?_
  refine goes_ Try.func58 (by kernel_rfl) rfl #[.slice Ax x.length cx,.slice Ay y.length cy] (by rfl) rfl rfl (by simp only [List.map_toArray,List.map_cons,List.map_nil];rfl) ?_
  with_reducible refine (nat_Add.calls k _ _ x _ _ y s _ HX.out.now' LX.out HY.out.now' LY.out A.out).mono ?_
  rintro e W8 ⟨v,rfl,ho,hb⟩;refine ⟨_,rfl,?_⟩;obtain ⟨An,cn,rfl,hl,hr⟩:=made ho (fun k hk=>.inl (Nat.lt_of_lt_of_le (HS2.out k hk) HZ.out));have HN:=Aside0.mk hr;have LN:=Aside0.mk hl
  haveI kW8 : ∀ w0,[Kp S w0 W7.drew]→Kp S w0 W8:=fun w0 _=>kp_of hb w0
  replace B0:=blk_below B0 hb;replace B1:=blk_below B1 hb;replace B2:=blk_below B2 hb;replace HB:=Aside0.mk (below_step HB.out hb);replace HZ:=Aside0.mk (Nat.le_trans HZ.out hb.size);clear hr hl hb ho;refine hK.out _ _ ((cells3 B0).1) (fun hHeld=>?_);clear hK K;refine nZ ?_
  refine oN 6 (some 42) rfl rfl fun K hK=>?_
  refine goes_ Try.func44 (by kernel_rfl) rfl #[.bool m,.slice An s.length cn,.slice Az z.length cz] (by rfl) rfl rfl (by simp only [List.map_toArray,List.map_cons,List.map_nil];rfl) ?_
  with_reducible refine (rat_made.calls k m _ _ s _ _ z r1 r2 r3 _ HN.out.now' LN.out HD.out.now' LD.out M.out).mono ?_
  rintro e W9 ⟨v1,v2,rfl,h1,h2,hb⟩;refine ⟨_,rfl,?_⟩;obtain ⟨Av,cv,ev⟩:=Kd.R_slice h1;obtain ⟨Au,cu,eu⟩:=Kd.R_slice h2;subst ev;subst eu;replace B0:=blk_below B0 hb;replace B2:=blk_below B2 hb;replace HB:=Aside0.mk (below_step HB.out hb);refine hK.out _ _ ((cells3 B0).1) (fun hHeld=>?_);clear hK K;refine nZ ?_
  refine lN 7 (none) rfl rfl fun K hK=>?_
  have q2:=cells3 B2;have q3:=free3 B2;refine skip_ (w1:=?_) (by rfl) rfl ?_ ?_;rotate_left
  ·go_simp
   rfl
  refine hK.out _ _ ?_;clear hK K;refine dN ?_;have H1:=Aside0.mk h1;have H2:=Aside0.mk h2;clear h1 h2 hb
  go_wp2
  refine bodyPost_ret (results_cell_row rfl _ _ (w.heap.size+1+1) 63 _ (0,0) _ rfl (put3 B2 _ _ _) Try.underlying63 rfl (by kernel_rfl)) rfl ⟨_,_,rfl,R3 H1.out (Nat.le_trans (Nat.le_add_right _ 3) HZ.out) B2 (by decide) _ _ _,R3 H2.out (Nat.le_trans (Nat.le_add_right _ 3) HZ.out) B2 (by decide) _ _ _,low3 HB.out (by omega) _ _ _⟩
 ·have cb1 : (m == n)=false:=by simpa using cb
  have cb2 : decide (m=n)=false:=by simpa using cb
  have H:=HH.out;rw [if_neg (by simp [cb1])] at H;obtain ⟨⟨s,o⟩,A,H⟩:=Option.bind_eq_some_iff.mp H;have A:=Aside0.mk A;dsimp only at H
  by_cases co : o=true
  ·subst co
   rw [if_pos rfl] at H;have M:=Aside0.mk H;clear H HH cb
   go_wp2_with (first
    | (go_at_call 57;(with_reducible refine (nat_Mul.calls k _ _ b _ _ d z _ HP.out.now'.2 HL1.out.2 HQ.out.now'.2 HL2.out.2 Z.out).mono ?_);rintro e W7 ⟨v,rfl,ho,hb⟩;obtain ⟨Az,cz,rfl,hl,hr⟩:=made ho (fun k hk=>.inl (Nat.lt_of_lt_of_le (HS2.out k hk) HZ.out));have HD:=Aside0.mk hr;have LD:=Aside0.mk hl;haveI kW7 : ∀ w0,[Kp S w0 W6]→Kp S w0 W7:=fun w0 _=>kp_of hb w0;replace B0:=blk_below B0 hb;replace B1:=blk_below B1 hb;replace B2:=blk_below B2 hb;replace HB:=Aside0.mk (below_step HB.out hb);replace HZ:=Aside0.mk (Nat.le_trans HZ.out hb.size);replace q0:=cells3 B0;replace q1:=cells3 B1;clear hr hl hb ho)
    | (go_at_call 59;(with_reducible refine (nat_Sub.calls k _ _ x _ _ y s true _ HX.out.now' LX.out HY.out.now' LY.out A.out).mono ?_);rintro e W8 ⟨v,rfl,ho,hb⟩;obtain ⟨An,cn,rfl,hl,hr⟩:=made ho (fun k hk=>.inl (Nat.lt_of_lt_of_le (HS2.out k hk) HZ.out));have HN:=Aside0.mk hr;have LN:=Aside0.mk hl;haveI kW8 : ∀ w0,[Kp S w0 W7]→Kp S w0 W8:=fun w0 _=>kp_of hb w0;replace B0:=blk_below B0 hb;replace B1:=blk_below B1 hb;replace B2:=blk_below B2 hb;replace HB:=Aside0.mk (below_step HB.out hb);replace HZ:=Aside0.mk (Nat.le_trans HZ.out hb.size);replace q0:=cells3 B0;replace q1:=cells3 B1;clear hr hl hb ho)
    | (go_at_call 44;(with_reducible refine (rat_made.calls k m _ _ s _ _ z r1 r2 r3 _ HN.out.now' LN.out HD.out.now' LD.out M.out).mono ?_);rintro e W9 ⟨v1,v2,rfl,h1,h2,hb⟩;obtain ⟨Av,cv,ev⟩:=Kd.R_slice h1;obtain ⟨Au,cu,eu⟩:=Kd.R_slice h2;subst ev;subst eu;replace B2:=blk_below B2 hb;replace HB:=Aside0.mk (below_step HB.out hb);have q2:=cells3 B2;have q3:=free3 B2;have H1:=Aside0.mk h1;have H2:=Aside0.mk h2;clear h1 h2 hb))
   refine bodyPost_ret (results_cell_row rfl _ _ (w.heap.size+1+1) 63 _ (0,0) _ rfl (put3 B2 _ _ _) Try.underlying63 rfl (by kernel_rfl)) rfl ⟨_,_,rfl,R3 H1.out (Nat.le_trans (Nat.le_add_right _ 3) HZ.out) B2 (by decide) _ _ _,R3 H2.out (Nat.le_trans (Nat.le_add_right _ 3) HZ.out) B2 (by decide) _ _ _,low3 HB.out (by omega) _ _ _⟩
  ·obtain rfl : o=false:=by simpa using co
   rw [if_neg (by simp)] at H;obtain ⟨⟨t,o⟩,A2,H⟩:=Option.bind_eq_some_iff.mp H;have A2:=Aside0.mk A2;have M:=Aside0.mk H;dsimp only at M;clear H HH cb co
   go_wp2_with (first
    | (go_at_call 57;(with_reducible refine (nat_Mul.calls k _ _ b _ _ d z _ HP.out.now'.2 HL1.out.2 HQ.out.now'.2 HL2.out.2 Z.out).mono ?_);rintro e W7 ⟨v,rfl,ho,hb⟩;obtain ⟨Az,cz,rfl,hl,hr⟩:=made ho (fun k hk=>.inl (Nat.lt_of_lt_of_le (HS2.out k hk) HZ.out));have HD:=Aside0.mk hr;have LD:=Aside0.mk hl;haveI kW7 : ∀ w0,[Kp S w0 W6]→Kp S w0 W7:=fun w0 _=>kp_of hb w0;replace B0:=blk_below B0 hb;replace B1:=blk_below B1 hb;replace B2:=blk_below B2 hb;replace HB:=Aside0.mk (below_step HB.out hb);replace HZ:=Aside0.mk (Nat.le_trans HZ.out hb.size);replace q0:=cells3 B0;replace q1:=cells3 B1;clear hr hl hb ho)
    | ((have gd:=A);go_at_call 59;(with_reducible refine (nat_Sub.calls k _ _ x _ _ y s false _ HX.out.now' LX.out HY.out.now' LY.out A.out).mono ?_);rintro e W8 ⟨v,rfl,ho,hb⟩;obtain ⟨An,cn,rfl,hl,hr⟩:=made ho (fun k hk=>.inl (Nat.lt_of_lt_of_le (HS2.out k hk) HZ.out));have HN:=Aside0.mk hr;have LN:=Aside0.mk hl;haveI kW8 : ∀ w0,[Kp S w0 W7]→Kp S w0 W8:=fun w0 _=>kp_of hb w0;replace B0:=blk_below B0 hb;replace B1:=blk_below B1 hb;replace B2:=blk_below B2 hb;replace HB:=Aside0.mk (below_step HB.out hb);replace HZ:=Aside0.mk (Nat.le_trans HZ.out hb.size);replace q0:=cells3 B0;replace q1:=cells3 B1;clear hr hl hb ho;clear A gd)
    | (go_at_call 59;(with_reducible refine (nat_Sub.calls k _ _ y _ _ x t o _ HY.out.now' LY.out HX.out.now' LX.out A2.out).mono ?_);rintro e W10 ⟨v,rfl,ho,hb⟩;obtain ⟨At,ct,rfl,hl,hr⟩:=made ho (fun k hk=>.inl (Nat.lt_of_lt_of_le (HS2.out k hk) HZ.out));have HU:=Aside0.mk hr;have LU:=Aside0.mk hl;haveI kW10 : ∀ w0,[Kp S w0 W8]→Kp S w0 W10:=fun w0 _=>kp_of hb w0;replace B0:=blk_below B0 hb;replace B1:=blk_below B1 hb;replace B2:=blk_below B2 hb;replace HB:=Aside0.mk (below_step HB.out hb);replace HZ:=Aside0.mk (Nat.le_trans HZ.out hb.size);replace q0:=cells3 B0;replace q1:=cells3 B1;clear hr hl hb ho)
    | (go_at_call 44;(with_reducible refine (rat_made.calls k n _ _ t _ _ z r1 r2 r3 _ HU.out.now' LU.out HD.out.now' LD.out M.out).mono ?_);rintro e W9 ⟨v1,v2,rfl,h1,h2,hb⟩;obtain ⟨Av,cv,ev⟩:=Kd.R_slice h1;obtain ⟨Au,cu,eu⟩:=Kd.R_slice h2;subst ev;subst eu;replace B2:=blk_below B2 hb;replace HB:=Aside0.mk (below_step HB.out hb);have q2:=cells3 B2;have q3:=free3 B2;have H1:=Aside0.mk h1;have H2:=Aside0.mk h2;clear h1 h2 hb))
   refine bodyPost_ret (results_cell_row rfl _ _ (w.heap.size+1+1) 63 _ (0,0) _ rfl (put3 B2 _ _ _) Try.underlying63 rfl (by kernel_rfl)) rfl ⟨_,_,rfl,R3 H1.out (Nat.le_trans (Nat.le_add_right _ 3) HZ.out) B2 (by decide) _ _ _,R3 H2.out (Nat.le_trans (Nat.le_add_right _ 3) HZ.out) B2 (by decide) _ _ _,low3 HB.out (by omega) _ _ _⟩
theorem rat_Sum.at_step {k : Nat} {l : List S63} {i : Nat} {o R : Bool × List Int × List Int} (h : rat_Sum.at k l i o=some R) (hl : i < l.length) :
  ∃ x,(if i=0 then rat_Read.f k (rd_T63 l (i : Int)).f0 (rd_T63 l (i : Int)).f1 (rd_T63 l (i : Int)).f2 else rat_plus.f k o.1 o.2.1 o.2.2 (rd_T63 l (i : Int)).f0 (rd_T63 l (i : Int)).f1 (rd_T63 l (i : Int)).f2)=some x∧rat_Sum.at k l (i+1) x=some R:=by
 have e : rd_T63 l (i : Int)=l[i]:=by unfold rd_T63;rw [Int.toNat_natCast,List.getD_eq_getElem?_getD,List.getElem?_eq_getElem hl];rfl
 rw [e]
 by_cases h0 : i=0
 ·subst h0
  rw [if_pos rfl]
  cases l with
  | nil=>simp at hl
  | cons x r =>
   obtain ⟨y,hy,h2⟩:=Option.bind_eq_some_iff.mp (show (rat_Read.f k x.f0 x.f1 x.f2).bind (rat_Sum.n k r)=some R from h);exact ⟨y,hy,h2⟩
 ·rw [if_neg h0]
  rw [rat_Sum.at,if_neg h0,List.drop_eq_getElem_cons hl] at h;obtain ⟨y,hy,h2⟩:=Option.bind_eq_some_iff.mp (show (rat_plus.f k o.1 o.2.1 o.2.2 (l[i]).f0 (l[i]).f1 (l[i]).f2).bind (rat_Sum.n k (l.drop (i+1)))=some R from h);exact ⟨y,hy,h2⟩
theorem rat_Sum.at_end {k : Nat} {l : List S63} {o R : Bool × List Int × List Int} (h : rat_Sum.at k l l.length o=some R) (h0 : l=[]→o=(false,[],[1])) : o=R:=by
 by_cases e : l.length=0
 ·obtain rfl:=List.eq_nil_of_length_eq_zero e
  rw [h0 rfl];exact Option.some.inj h
 ·rw [rat_Sum.at,if_neg e,List.drop_length] at h
  exact Option.some.inj h
set_option maxHeartbeats 4000000 in
theorem rat_Sum.calls (k : Nat) (A0 : Option Addr) (c0 : Nat) (l0 : List (S63)) (r1 : Bool) (r2 : List Int) (r3 : List Int) (w : World) (hr0 : Kd.C k63 w A0 l0.length l0) (hc0 : l0.length≤c0) (h : rat_Sum.f k l0=some (r1,r2,r3)) :
  Calls Try.prog 27 #[.slice A0 l0.length c0] w fun e w'=>∃ v1_ v2_ : Value,e=.returned (.agg #[.bool r1,v1_,v2_])∧Kd.R (Kd.int .u32) 82 w' w.heap.size (fun k_=>some k_≠(v2_ : Value).ownBlock) v1_ r2∧Kd.R (Kd.int .u32) 82 w' w.heap.size (fun k_=>some k_≠(v1_ : Value).ownBlock) v2_ r3∧Below w.heap.size w w':=by
 have hmax : l0.length≤9223372036854775807:=Kd.C_max hr0;have HR:=Aside0.mk hr0;have HH:=Aside0.mk h;clear hr0 h;have O1 : Aside0 (rat_one.f=some [1]):=⟨rfl⟩
 go_enter Try.func27,Try.ntmps27
 go_wp2_with (first|(go_at_call 42;(with_reducible refine (rat_one.calls [1] _ O1.out).mono ?_);rintro e W1 ⟨v,rfl,ho,hb⟩;obtain ⟨A1,c1,ev⟩:=Kd.R_slice ho;subst ev;have HO:=Aside0.mk ho;have HB:=Aside0.mk hb;clear ho hb))
 have hz:=HB.out.size;simp only [World.alloc,Array.size_push] at hz;obtain ⟨G,hG⟩ : ∃ G,W1.heap.size=G:=⟨_,rfl⟩;have HG : Aside0 (w.heap.size≤G∧w.heap.size≠G):=⟨by omega,by omega⟩;obtain ⟨W2,hW2⟩ : ∃ W2,W1.alloc (.cells #[.bool false,.slice none 0 0,.slice A1 1 c1] 63)=W2:=⟨_,rfl⟩
 have HA : Aside0 (Below w.heap.size w W2∧W2.heap[w.heap.size]? = some (.cells #[.bool false,.slice none 0 0,.slice none 0 0] 63)∧W2.heap[G]? = some (.cells #[.bool false,.slice none 0 0,.slice A1 1 c1] 63)):=⟨by
  rw [← hW2,← hG]
  exact ⟨ba (below_step (ba (Below.refl _ _) _) HB.out) _,blk_alloc (blk_below (blk_new _ _) HB.out) _,blk_new _ _⟩⟩
 have HV : Aside0 (Kd.R U32 82 W2 w.heap.size (fun k=>some k≠(Value.slice A1 1 c1).ownBlock) (.slice none 0 0) []∧Kd.R U32 82 W2 w.heap.size (fun k=>some k≠(Value.slice none 0 0).ownBlock) (.slice A1 1 c1) [1]):=⟨Kd.R_nil _ _ _ _ _,by
  rw [← hW2]
  exact Ra (Kd.R_mono (Kd.R_lower HO.out (by simp)) (fun _ _=>by simp [Value.ownBlock])) _⟩
 rw [hW2,hG];clear hz hG hW2 HB HO
 go_loopw [10] (fun i wr=>∃ (j : Nat) (o : Bool × List Int × List Int) (A1 : Option Addr) (c1 : Nat) (A2 : Option Addr) (c2 : Nat),j≤l0.length∧i=.int .i64 j∧Aside0 (rat_Sum.at k l0 j o=some (r1,r2,r3)∧(l0=[]→o=(false,[],[1]))) ∧
  Aside0 (Below w.heap.size w wr∧wr.heap[w.heap.size]? = some (.cells #[.bool false,.slice none 0 0,.slice none 0 0] 63)∧wr.heap[G]? = some (.cells #[.bool o.1,.slice A1 o.2.1.length c1,.slice A2 o.2.2.length c2] 63)) ∧
  Aside0 (Kd.R U32 82 wr w.heap.size (fun k=>some k≠(Value.slice A2 o.2.2.length c2).ownBlock) (.slice A1 o.2.1.length c1) o.2.1∧Kd.R U32 82 wr w.heap.size (fun k=>some k≠(Value.slice A1 o.2.1.length c1).ownBlock) (.slice A2 o.2.2.length c2) o.2.2)) (fun i _=>l0.length - (intOf i).toNat)
 case atStart=>exact ⟨0,(false,[],[1]),none,0,A1,c1,Nat.zero_le _,rfl,⟨HH.out,fun _=>rfl⟩,HA,HV⟩
 case round =>
  clear HA HV HH;obtain ⟨j,⟨o1,o2,o3⟩,A1,c1,A2,c2,hj,rfl,HT,HA,HV⟩:=hrel;dsimp only at HT HA HV
  by_cases hlt : j < l0.length
  ·obtain ⟨ad,A5,c5,A6,c6,rfl,p0,p1,p2,l1,g1,l2,g2⟩:=at_T63 (Kd.C_below HR.out HA.out.1) (j : Int) (by omega) (by omega)
   rw [Int.toNat_natCast] at p0 p1 p2;have q3:=cells3 HA.out.2.2;have q4:=free3 HA.out.2.2;have eg : G < wr.heap.size:=World.block_lt_of_cell? wr _ q3.1;have G1:=Aside0.mk (And.intro l1 g1);have G2:=Aside0.mk (And.intro l2 g2);clear l1 g1 l2 g2;have hlb : decide ((j : Int) < (l0.length : Int))=true:=decide_eq_true (by omega);obtain ⟨⟨x1,x2,x3⟩,X,X2⟩:=rat_Sum.at_step HT.out.1 hlt;have X2:=Aside0.mk X2;obtain ⟨x,hx⟩ : ∃ x,rd_T63 l0 (j : Int)=x:=⟨_,rfl⟩;rw [hx] at X p0 p1 p2 G1 G2;clear hx
   by_cases hz : j=0
   ·have cz : ((j : Int) == 0)=true:=beq_iff_eq.mpr (by omega)
    rw [if_pos hz] at X;clear hz;have X:=Aside0.mk X
    go_wp2_with (first|(go_at_call 41;(with_reducible refine (rat_Read.calls k x.f0 _ _ x.f1 _ _ x.f2 x1 x2 x3 _ (Kd.C_alloc G1.out.2 _) G1.out.1 (Kd.C_alloc G2.out.2 _) G2.out.1 X.out).mono ?_);rintro e W3 ⟨v3,v4,rfl,h3,h4,hb⟩;obtain ⟨A3,c3,e3⟩:=Kd.R_slice h3;obtain ⟨A4,c4,e4⟩:=Kd.R_slice h4;subst e3;subst e4;have HX:=Aside0.mk (And.intro h3 h4);have HB3:=Aside0.mk (below_step HA.out.1 (below_step (ba (Below.refl _ _) _) hb));have B03:=Aside0.mk (blk_below (blk_alloc HA.out.2.1 _) hb);have B13:=Aside0.mk (blk_below (blk_alloc HA.out.2.2 _) hb);have q5:=cells3 B13.out;have eg2 : W3.heap.size≠G:=World.new_ne W3 _ q5.1;have q6:=free3 B13.out;clear h3 h4 hb))
    go_roundw
    case rel=>exact ⟨j+1,(x1,x2,x3),_,_,_,_,hlt,by go_num,⟨X2.out,fun h=>by subst h;simp at hlt⟩,⟨low3 HB3.out HG.out.1 _ _ _,far3 B03.out HG.out.2 _ _ _,put3 B13.out _ _ _⟩,⟨R3 HX.out.1 (by have:=HA.out.1.size;simp;omega) B13.out (by decide) _ _ _,R3 HX.out.2 (by have:=HA.out.1.size;simp;omega) B13.out (by decide) _ _ _⟩⟩
    case measure=>simp [intOf];omega
   ·have cz : ((j : Int) == 0)=false:=beq_eq_false_iff_ne.mpr (by omega)
    rw [if_neg hz] at X;dsimp only at X;clear hz;have X:=Aside0.mk X
    go_wp2_with (first|(go_at_call 43;(with_reducible refine (rat_plus.calls k o1 _ _ o2 _ _ o3 x.f0 _ _ x.f1 _ _ x.f2 x1 x2 x3 _ (Kd.C_alloc (Kd.R_reads' HV.out.1).2.2 _) (Kd.R_reads' HV.out.1).2.1 (Kd.C_alloc (Kd.R_reads' HV.out.2).2.2 _) (Kd.R_reads' HV.out.2).2.1 (Kd.C_alloc G1.out.2 _) G1.out.1 (Kd.C_alloc G2.out.2 _) G2.out.1 X.out).mono ?_);rintro e W3 ⟨v3,v4,rfl,h3,h4,hb⟩;obtain ⟨A3,c3,e3⟩:=Kd.R_slice h3;obtain ⟨A4,c4,e4⟩:=Kd.R_slice h4;subst e3;subst e4;have HX:=Aside0.mk (And.intro h3 h4);have HB3:=Aside0.mk (below_step HA.out.1 (below_step (ba (Below.refl _ _) _) hb));have B03:=Aside0.mk (blk_below (blk_alloc HA.out.2.1 _) hb);have B13:=Aside0.mk (blk_below (blk_alloc HA.out.2.2 _) hb);have q5:=cells3 B13.out;have eg2 : W3.heap.size≠G:=World.new_ne W3 _ q5.1;have q6:=free3 B13.out;clear h3 h4 hb))
    go_roundw
    case rel=>exact ⟨j+1,(x1,x2,x3),_,_,_,_,hlt,by go_num,⟨X2.out,fun h=>by subst h;simp at hlt⟩,⟨low3 HB3.out HG.out.1 _ _ _,far3 B03.out HG.out.2 _ _ _,put3 B13.out _ _ _⟩,⟨R3 HX.out.1 (by have:=HA.out.1.size;simp;omega) B13.out (by decide) _ _ _,R3 HX.out.2 (by have:=HA.out.1.size;simp;omega) B13.out (by decide) _ _ _⟩⟩
    case measure=>simp [intOf];omega
  ·obtain rfl : j=l0.length:=by omega
   obtain ⟨rfl,rfl,rfl⟩ : o1=r1∧o2=r2∧o3=r3:=by simpa using rat_Sum.at_end HT.out.1 HT.out.2
   have q3:=cells3 HA.out.2.2;have q5:=cells3 HA.out.2.1;have q6:=free3 HA.out.2.1
   have hlb : decide ((l0.length : Int) < (l0.length : Int))=false:=by simp
   go_wp2
   refine bodyPost_ret (results_cell_row rfl _ _ w.heap.size 63 _ (0,0) _ rfl (put3 HA.out.2.1 _ _ _) Try.underlying63 rfl (by kernel_rfl)) rfl ⟨_,_,rfl,R3 HV.out.1 (Nat.le_refl _) HA.out.2.1 (by decide) _ _ _,R3 HV.out.2 (Nat.le_refl _) HA.out.2.1 (by decide) _ _ _,low3 HA.out.1 (Nat.le_refl _) _ _ _⟩
end Go.Proofs.Ytjiaobcoeegioaa.Pq
end
section
namespace Go.Proofs.Ytjiaobcoeegioaa.N
open Go Go.RowKit Go.Proofs.YtjiaobcoeegioaaW.PrintWords Go.Proofs.YtjiaobcoeegioaaW.PrintLast Go.Proofs.YtjiaobcoeegioaaW.PrintMore Go.Proofs.Ytjiaobcoeegioaa.Pq
section
variable {T : List Nat} {W w1 : World}
theorem tk_grown {base e size n : Nat} {v : Value} {xs : List Value} (hg : W.grownBy w1 v.ownBlock) (ho : W.slackRow base e size v n xs) (he : e ∉ T) (w : World) [h : Tk T w W] : Tk T w w1 :=
 h.trans_ ⟨hg.size,fun i cs t fr hb ht=>hg.block i (blk_lt hb) (fun e1=>by
  obtain ⟨cells,hc⟩:=own_typed ho i e1.symm;rw [hc] at hb
  injection hb with hb
  injection hb with _ h2 _
  exact he (h2 ▸ ht))⟩
end
def FRow (W : World) (base : Nat) (v : Value) (xs : List S63) : Prop:=∃ inner,W.slackRow base 63 3 v xs.length inner∧Trob [82] W (fun W'=>Reps (k63.K W') 3 xs inner)
theorem FRow.nil (W : World) (base : Nat) : FRow W base (.slice none 0 0) []:=⟨[],own_nil _ _ _ _,⟨fun _ _=>Reps.none _ _⟩⟩
theorem FRow.reads {W : World} {base : Nat} {v : Value} {xs : List S63} (h : FRow W base v xs) : ∃ A c,v=.slice A xs.length c∧xs.length≤c∧Trob [63,82] W (fun W'=>Kd.C k63 W' A xs.length xs):=by
 obtain ⟨inner,ho,hr⟩:=h;obtain ⟨A,c,rfl,hl,_⟩:=OwnRow.reads (R:=k63.K W) ⟨inner,ho,hr.now⟩;refine ⟨A,c,rfl,hl,⟨fun W' k=>?_⟩⟩
 have h2 : W'.slackRow base 63 3 (.slice A xs.length c) xs.length inner:=own_move ho (fun i hi=>by
  obtain ⟨cells,hc⟩:=own_typed ho i hi
  exact k.k.2 i cells 63 (0,0) hc (by simp))
 haveI:=k.less (T':=[82]) (by simp)
 obtain ⟨A',c',e,_,h3⟩:=OwnRow.reads (R:=k63.K W') ⟨inner,h2,hr.now⟩
 injection e with e1 _ _
 rw [e1];exact h3
end Go.Proofs.Ytjiaobcoeegioaa.N
end
section
namespace Go.Proofs.Ytjiaobcoeegioaa.N
open Go Go.RowKit Go.Proofs.YtjiaobcoeegioaaW.PrintWords Go.Proofs.YtjiaobcoeegioaaW.PrintLast Go.Proofs.YtjiaobcoeegioaaW.PrintMore Go.Proofs.Ytjiaobcoeegioaa.Pq
abbrev XK (W : World) (x : RatS) (cs : List Value) : Prop:=Trob [82] W (fun W'=>k63.K W' x cs)
theorem XK.mk {W : World} {x : RatS} {A1 : Option Addr} {c1 : Nat} {A2 : Option Addr} {c2 : Nat} (l1 : x.f1.length≤c1) (l2 : x.f2.length≤c2) (g1 : Trob [82] W (fun W=>(Kd.int .u32).C W A1 x.f1.length x.f1)) (g2 : Trob [82] W (fun W=>(Kd.int .u32).C W A2 x.f2.length x.f2)) : XK W x [.bool x.f0,.slice A1 x.f1.length c1,.slice A2 x.f2.length c2] :=
 (g1.and g2).imp fun W' h=>k63_mk W' x l1 h.1 l2 h.2
section
variable {W w1 : World} {base : Nat} {v v1 : Value} {xs : List RatS} {x : RatS} {cs : List Value}
theorem FRow.grown {inner : List Value} (h : W.slackRow base 63 3 v xs.length inner) (hr : Trob [82] W (fun W'=>Reps (k63.K W') 3 xs inner)) (hx : XK W x cs) (hc : cs.length=3) (ho : w1.slackRow base 63 3 v1 (xs.length+1) (inner++cs)) (hg : W.grownBy w1 v.ownBlock) : FRow w1 base v1 (xs++[x]):=by
 haveI : Tk [82] W w1:=tk_grown hg h (by decide) W
 exact ⟨inner++cs,by rw [List.length_append,List.length_singleton];exact ho,(hr.up.and hx.up).imp fun W' h=>h.1.snoc h.2 hc⟩
theorem FRow.up (h : FRow W base v xs) (hb : Below W.heap.size W w1) : FRow w1 base v xs:=by
 obtain ⟨inner,ho,hr⟩:=h
 haveI : Tk [82] W w1:=tk_call hb W
 exact ⟨inner,pw_own_below ho hb,hr.up⟩
theorem FRow.lower (h : FRow W base v xs) {base' : Nat} (hb : base'≤base) : FRow W base' v xs:=by
 obtain ⟨inner,ho,hr⟩:=h;exact ⟨inner,own_weaken ho hb,hr⟩
theorem FRow.slice_ (h : FRow W base v xs) : ∃ A c,v=.slice A xs.length c∧xs.length≤c:=by
 obtain ⟨inner,ho,hr⟩:=h;obtain ⟨A,c,rfl⟩:=own_slice ho;exact ⟨A,c,rfl,own_le ho⟩
theorem Reps_set3 {R : RatS→List Value→Prop} {ps : List RatS} {cs : List Value} (h : Reps R 3 ps cs) {i : Nat} (hi : i < ps.length) {p : RatS} {a b c : Value} (hp : R p [a,b,c]) : Reps R 3 (ps.set i p) (((cs.set (i * 3) a).set (i * 3+1) b).set (i * 3+2) c):=by
 refine ⟨by simpa using h.1,fun j q hq=>?_⟩;have hl:=h.1;rw [List.getElem?_set] at hq
 by_cases e : i=j
 ·subst e
  rw [if_pos rfl,if_pos hi] at hq;obtain rfl:=Option.some.inj hq
  have e2 : (((((cs.set (i * 3) a).set (i * 3+1) b).set (i * 3+2) c).drop (i * 3)).take 3)=[a,b,c]:=by
   apply List.ext_getElem
   ·simp;omega
   ·intro k h1 h2
    simp at h2;rw [List.getElem_take,List.getElem_drop]
    have : k=0∨k=1∨k=2:=by omega
    rcases this with rfl|rfl|rfl <;> simp [List.getElem_set]
  rw [e2];exact hp
 ·rw [if_neg e] at hq
  have h2:=h.2 j q hq
  have e2 : (((((cs.set (i * 3) a).set (i * 3+1) b).set (i * 3+2) c).drop (j * 3)).take 3)=(cs.drop (j * 3)).take 3:=by
   apply List.ext_getElem
   ·simp
   ·intro k h1 h3
    have hk : k < 3:=by simp at h3;omega
    simp only [List.getElem_take,List.getElem_drop,List.getElem_set];rw [if_neg (by omega),if_neg (by omega),if_neg (by omega)]
  rw [e2];exact h2
theorem FRow.store {g n cap : Nat} (h : FRow W base (.slice (some ⟨g,0,none⟩) n cap) xs) {i : Nat} (hi : i < xs.length) {a b c : Value} (hx : XK W x [a,b,c]) :
  FRow (((W.setCell ⟨g,i * 3,none⟩ a).setCell ⟨g,i * 3+1,none⟩ b).setCell ⟨g,i * 3+2,none⟩ c) base (.slice (some ⟨g,0,none⟩) n cap) (xs.set i x):=by
 obtain ⟨inner,ho,hr⟩:=h
 have hn : n=xs.length:=by
  obtain ⟨A,c,e⟩:=own_slice ho;injection e
 subst hn;obtain ⟨t1,b1⟩:=own_typed ho g (by simp [Value.ownBlock]);have s1':=ho.stored (i * 3) a;obtain ⟨t2,b2⟩:=own_typed s1'.1 g (by simp [Value.ownBlock]);have s2':=s1'.1.stored (i * 3+1) b;obtain ⟨t3,b3⟩:=own_typed s2'.1 g (by simp [Value.ownBlock]);have s3':=s2'.1.stored (i * 3+2) c
 haveI k1 : Tk [82] W (W.setCell ⟨g,i * 3,none⟩ a):=tk_set b1 (by decide) _ _ W
 haveI k2 : Tk [82] W ((W.setCell ⟨g,i * 3,none⟩ a).setCell ⟨g,i * 3+1,none⟩ b):=tk_set b2 (by decide) _ _ W
 haveI k3 : Tk [82] W (((W.setCell ⟨g,i * 3,none⟩ a).setCell ⟨g,i * 3+1,none⟩ b).setCell ⟨g,i * 3+2,none⟩ c):=tk_set b3 (by decide) _ _ W
 exact ⟨_,by rw [List.length_set];exact s3'.1,(hr.up.and hx.up).imp fun W' h=>Reps_set3 h.1 hi h.2⟩
end
end Go.Proofs.Ytjiaobcoeegioaa.N
end
section
namespace Go.Proofs.Ytjiaobcoeegioaa.Pq
open Go.RowKit Go.Proofs.YtjiaobcoeegioaaW.PrintWords Go.Proofs.YtjiaobcoeegioaaW.PrintLast Go.Proofs.YtjiaobcoeegioaaW.PrintMore Go.Proofs.Ytjiaobcoeegioaa.N
theorem read_sem {n : Nat} {x : S63} {A1 : Option Addr} {c1 : Nat} {A2 : Option Addr} {c2 : Nat} {w : World} (hw : Wf n x) (hn : n < 10000000) (l1 : x.f1.length≤c1) (g1 : (Kd.int .u32).C w A1 x.f1.length x.f1) (l2 : x.f2.length≤c2) (g2 : (Kd.int .u32).C w A2 x.f2.length x.f2) :
  Calls Try.prog 41 #[.agg #[.bool x.f0,.slice A1 x.f1.length c1,.slice A2 x.f2.length c2]] w fun e w'=>∃ v1 v2,e=.returned (.agg #[.bool (mkR (qOf x)).f0,v1,v2])∧XK w' (mkR (qOf x)) [.bool (mkR (qOf x)).f0,v1,v2]∧Below w.heap.size w w':=by
 obtain ⟨k,hk⟩:=(read_ev hw hn).rounds;refine (rat_Read.calls k x.f0 _ _ x.f1 _ _ x.f2 _ _ _ w g1 l1 g2 l2 hk).mono ?_;rintro e w1 ⟨v1,v2,rfl,h1,h2,hb⟩;obtain ⟨A3,c3,rfl,l3,g3⟩:=madeT h1;obtain ⟨A4,c4,rfl,l4,g4⟩:=madeT h2;exact ⟨_,_,rfl,XK.mk (x:=mkR (qOf x)) l3 l4 g3 g4,hb⟩
set_option maxHeartbeats 1000000 in
set_option maxRecDepth 100000 in
theorem each_sem {n : Nat} (hn : n < 10000000) (A0 : Option Addr) (c0 : Nat) (l : List S63) (w : World) (hl : l.length≤4096) (hr : Kd.C k63 w A0 l.length l) (hw : ∀ x∈l,Wf n x) :
  Calls Try.prog 40 #[.slice A0 l.length c0,.func (.func 41) #[] #[]] w fun e w'=>∃ v,e=.returned v∧FRow w' w.heap.size v (l.map fun x=>mkR (qOf x))∧Below w.heap.size w w':=by
 have HR:=Aside0.mk hr;have HW:=Aside0.mk hw;clear hr hw
 go_enter Try.func40,Try.ntmps40
 go_wp2
 go_loopw [5,10] (fun v i wr=>∃ j : Nat,j≤l.length∧i=.int .i64 j∧Aside0 (FRow wr w.heap.size v ((l.take j).map fun x=>mkR (qOf x)))∧Aside0 (Below w.heap.size w wr)) (fun _ i _=>l.length - (intOf i).toNat)
 case atStart=>exact ⟨0,Nat.zero_le _,rfl,⟨FRow.nil _ _⟩,⟨Below.refl _ _⟩⟩
 case round =>
  obtain ⟨j,hj,rfl,HF,HB⟩:=hrel
  by_cases hlt : j < l.length
  ·obtain ⟨ad,A5,c5,A6,c6,rfl,p0,p1,p2,l1,g1,l2,g2⟩:=at_T63 (Kd.C_below HR.out HB.out) (j : Int) (by omega) (by omega)
   rw [Int.toNat_natCast] at p0 p1 p2
   have hx : rd_T63 l (j : Int)=l[j]:=by unfold rd_T63;rw [Int.toNat_natCast,List.getD_eq_getElem?_getD,List.getElem?_eq_getElem hlt];rfl
   have ht : (l.take (j+1)).map (fun x=>mkR (qOf x))=(l.take j).map (fun x=>mkR (qOf x))++[mkR (qOf l[j])]:=by rw [List.take_succ_eq_append_getElem hlt,List.map_append];rfl
   have hwx:=HW.out l[j] (List.getElem_mem _);rw [hx] at p0 p1 p2 l1 g1 l2 g2;generalize l[j]=x at *;have G1:=Aside0.mk (And.intro l1 g1);have G2:=Aside0.mk (And.intro l2 g2);have HT:=Aside0.mk ht;have HX:=Aside0.mk hwx;have HL : Aside0 (((l.take j).map fun x=>mkR (qOf x)).length=j):=⟨by simp;omega⟩;generalize (l.take j).map (fun x=>mkR (qOf x))=ys at *;clear l1 g1 l2 g2 ht hwx hx
   go_wp2_with (first
    | (go_at_call 41;(with_reducible refine (read_sem HX.out hn G1.out.1 (Kd.C_alloc G1.out.2 _) G2.out.1 (Kd.C_alloc G2.out.2 _)).mono ?_);rintro e w1 ⟨v1,v2,rfl,hx,hb⟩;have HX1:=Aside0.mk hx;have HB1:=Aside0.mk (below_step (below_alloc HB.out _) hb);have HF1:=Aside0.mk ((HF.out.up (below_alloc (Below.refl _ _) _)).up hb);clear hx hb)
    | (at_builtin;obtain ⟨inner,ho,hi⟩:=HF1.out;refine print_append_cells (w0:=w) w.heap.size rfl (.tmp 14) (.tmp 18) 25 63 (.agg #[.bool false,.slice none 0 0,.slice none 0 0]) 3 56 rfl Try.underlying25 info63 rfl (by decide) (by decide) _ _ inner [.bool (mkR (qOf x)).f0,v1,v2] rfl rfl rfl (k63.K_one (w:=w1) HX1.out.now) ho HB1.out HB1.out.size (by rw [HL.out];omega) ?_;intro v3 w3 hown hB3 hg _;have HF2:=Aside0.mk (FRow.grown ho hi HX1.out rfl hown hg);have HB2:=Aside0.mk hB3;clear ho hi hown hB3 hg))
   go_roundw
   case rel=>exact ⟨j+1,hlt,by go_num,⟨by rw [HT.out];exact HF2.out⟩,HB2⟩
   case measure=>simp [intOf];omega
  ·obtain rfl : j=l.length:=by omega
   go_wp2
   go_ret
   have h:=HF.out;rw [List.take_length] at h;exact ⟨_,rfl,h,HB.out⟩
end Go.Proofs.Ytjiaobcoeegioaa.Pq
end
section
namespace Go.Proofs.Ytjiaobcoeegioaa.N
open Go Go.RowKit Go.Proofs.YtjiaobcoeegioaaW.PrintWords Go.Proofs.YtjiaobcoeegioaaW.PrintLast Go.Proofs.YtjiaobcoeegioaaW.PrintMore Go.Proofs.Ytjiaobcoeegioaa.Pq
theorem cells5 {W : World} {g t : Nat} {a b c d e : Value} (h : W.heap[g]? = some (.cells #[a,b,c,d,e] t (0,0))) : W.cell? ⟨g,0,none⟩=some a∧W.cell? ⟨g,1,none⟩=some b∧W.cell? ⟨g,2,none⟩=some c∧W.cell? ⟨g,3,none⟩=some d∧W.cell? ⟨g,4,none⟩=some e :=
 ⟨blk_cell h 0,blk_cell h 1,blk_cell h 2,blk_cell h 3,blk_cell h 4⟩
theorem free5 {W : World} {g t : Nat} {cs : Array Value} (h : W.heap[g]? = some (.cells cs t (0,0))) : W.frozen? ⟨g,0,none⟩=false∧W.frozen? ⟨g,1,none⟩=false∧W.frozen? ⟨g,2,none⟩=false∧W.frozen? ⟨g,3,none⟩=false∧W.frozen? ⟨g,4,none⟩=false :=
 ⟨blk_frozen h 0,blk_frozen h 1,blk_frozen h 2,blk_frozen h 3,blk_frozen h 4⟩
abbrev set5 (W : World) (g : Nat) (a b c d e : Value) : World:=((((W.setCell ⟨g,0,none⟩ a).setCell ⟨g,1,none⟩ b).setCell ⟨g,2,none⟩ c).setCell ⟨g,3,none⟩ d).setCell ⟨g,4,none⟩ e
theorem put5 {W : World} {g t : Nat} {a b c d e : Value} (h : W.heap[g]? = some (.cells #[a,b,c,d,e] t (0,0))) (x y z u v : Value) : (set5 W g x y z u v).heap[g]? = some (.cells #[x,y,z,u,v] t (0,0)) :=
 blk_put (cs:=#[x,y,z,u,e]) (blk_put (cs:=#[x,y,z,d,e]) (blk_put (cs:=#[x,y,c,d,e]) (blk_put (cs:=#[x,b,c,d,e]) (blk_put h 0 x rfl) 1 y rfl) 2 z rfl) 3 u rfl) 4 v rfl
theorem far1 {W : World} {g g' : Nat} {o : Obj} (h : W.heap[g']? = some o) (hne : g'≠g) (i : Nat) (x : Value) : (W.setCell ⟨g,i,none⟩ x).heap[g']? = some o:=by
 rw [Below.heap_setCell _ _ _ _ hne];exact h
theorem far5 {W : World} {g g' : Nat} {o : Obj} (h : W.heap[g']? = some o) (hne : g'≠g) (x y z u v : Value) : (set5 W g x y z u v).heap[g']? = some o :=
 far1 (far1 (far1 (far1 (far1 h hne 0 x) hne 1 y) hne 2 z) hne 3 u) hne 4 v
theorem low5 {w W : World} {b g : Nat} (h : Below b w W) (hg : b≤g) (x y z u v : Value) : Below b w (set5 W g x y z u v):=((((h.setCell hg x).setCell hg y).setCell hg z).setCell hg u).setCell hg v
theorem tk_set1 {T : List Nat} {W W' : World} {g t : Nat} {cs : Array Value} (hb : W'.heap[g]? = some (.cells cs t (0,0))) (ht : t ∉ T) (i : Nat) (v : Value) (h : Tk T W W') : Tk T W (W'.setCell ⟨g,i,none⟩ v):=by
 haveI:=h
 exact tk_set hb ht i v W
theorem tk_set5 {T : List Nat} {W W' : World} {g t : Nat} {cs : Array Value} (hb : W'.heap[g]? = some (.cells cs t (0,0))) (ht : t ∉ T) (x y z u v : Value) (h : Tk T W W') : Tk T W (set5 W' g x y z u v) :=
 tk_set1 (blk_set (blk_set (blk_set (blk_set hb 0 x) 1 y) 2 z) 3 u) ht 4 v (tk_set1 (blk_set (blk_set (blk_set hb 0 x) 1 y) 2 z) ht 3 u (tk_set1 (blk_set (blk_set hb 0 x) 1 y) ht 2 z (tk_set1 (blk_set hb 0 x) ht 1 y (tk_set1 hb ht 0 x h))))
section
variable {W w1 : World} {base : Nat} {v v1 : Value} {xs : List RatS} {x : RatS}
theorem FRow.tk (h : FRow W base v xs) (k : Tk [63,82] W w1) : FRow w1 base v xs:=by
 obtain ⟨inner,ho,hr⟩:=h
 haveI:=k.less (T':=[82]) (by simp)
 exact ⟨inner,own_move ho (fun i hi=>by
  obtain ⟨cells,hc⟩:=own_typed ho i hi
  exact k.k.2 i cells 63 (0,0) hc (by simp)),hr.up⟩
theorem FRow.lt (h : FRow W base v xs) (k : Nat) (hk : v.ownBlock=some k) : k < W.heap.size:=by
 obtain ⟨inner,ho,hr⟩:=h;exact own_lt ho k hk
theorem FRow.from_ (h : FRow W base v xs) (k : Nat) (hk : v.ownBlock=some k) : base≤k:=by
 obtain ⟨inner,ho,hr⟩:=h;exact own_base ho k hk
theorem FRow.typed (h : FRow W base v xs) (k : Nat) (hk : v.ownBlock=some k) : ∃ cells,W.heap[k]? = some (.cells cells 63 (0,0)):=by
 obtain ⟨inner,ho,hr⟩:=h;exact own_typed ho k hk
theorem FRow.far {g t : Nat} {cs : Array Value} (h : FRow W base v xs) (hb : W.heap[g]? = some (.cells cs t (0,0))) (ht : t≠82) (hne : some g≠v.ownBlock) (i : Nat) (u : Value) : FRow (W.setCell ⟨g,i,none⟩ u) base v xs:=by
 obtain ⟨inner,ho,hr⟩:=h
 haveI : Tk [82] W (W.setCell ⟨g,i,none⟩ u):=tk_set hb (by simpa using ht) i u W
 exact ⟨inner,own_setCell ho hne u,hr.up⟩
theorem FRow.far3 {g t : Nat} {cs : Array Value} (h : FRow W base v xs) (hb : W.heap[g]? = some (.cells cs t (0,0))) (ht : t≠82) (hne : some g≠v.ownBlock) (i : Nat) (a b c : Value) : FRow (((W.setCell ⟨g,i,none⟩ a).setCell ⟨g,i+1,none⟩ b).setCell ⟨g,i+2,none⟩ c) base v xs :=
 ((h.far hb ht hne i a).far (blk_set hb i a) ht hne (i+1) b).far (blk_set (blk_set hb i a) (i+1) b) ht hne (i+2) c
theorem FRow.apart {v2 : Value} {xs2 : List RatS} {m : Nat} (h : FRow W base v xs) (hm : W.heap.size≤m) (h2 : FRow w1 m v2 xs2) : v.ownBlock=none∨v.ownBlock≠v2.ownBlock:=own_apart (n:=W.heap.size) (fun k hk=>h.lt k hk) (fun k hk=>Nat.le_trans hm (h2.from_ k hk))
end
abbrev rdq (x : RatS) : RatS:=mkR (qOf x)
end Go.Proofs.Ytjiaobcoeegioaa.N
end
section
namespace Go.Proofs.Ytjiaobcoeegioaa.Pq
open Go.RowKit Go.Proofs.YtjiaobcoeegioaaW.PrintWords Go.Proofs.YtjiaobcoeegioaaW.PrintLast Go.Proofs.YtjiaobcoeegioaaW.PrintMore Go.Proofs.Ytjiaobcoeegioaa.N
namespace X
def film_copied.T1 : Bool × List (List Nat × List Nat):=(true,[([],[]),([0],[0]),([1],[1]),([],[]),([3],[3]),([4,2],[4]),([0,1,2,3,4],[]),([6,2,5,0,1,2,3,4],[2,6]),([0,1,2,3,4,5,6,7],[]),([8,5,7,0,1,2,3,4,5,6,7],[5,8])])
def film_copied.B1 : List Nat:=[0,1,3,0,8,31,31,127,255,511]
theorem film_copied.tab1 : rtab .any (opsOf Try.f26 1)=film_copied.T1:=by kernel_rfl
theorem film_copied.bits1 : waitsOk film_copied.T1.2 film_copied.B1=true:=by kernel_rfl
end X
open X
set_option maxHeartbeats 1000000 in
set_option maxRecDepth 100000 in
theorem copied_sem {n : Nat} (hn : n < 10000000) (W h b : Int) (xs ys : List S63) (A3 : Option Addr) (c3 : Nat) (A4 : Option Addr) (c4 : Nat) (w : World) (h3 : Kd.C k63 w A3 xs.length xs) (h4 : Kd.C k63 w A4 ys.length ys) (l3 : xs.length≤4096) (l4 : ys.length≤4096) (w3 : ∀ x∈xs,Wf n x) (w4 : ∀ x∈ys,Wf n x) :
  Calls Try.prog 26 #[.agg #[.int .i64 W,.int .i64 h,.int .i64 b,.slice A3 xs.length c3,.slice A4 ys.length c4]] w fun e w'=>∃ v3 v4,e=.returned (.agg #[.int .i64 W,.int .i64 h,.int .i64 b,v3,v4])∧FRow w' w.heap.size v3 (xs.map rdq)∧FRow w' w.heap.size v4 (ys.map rdq)∧(v3.ownBlock=none∨v3.ownBlock≠v4.ownBlock)∧Below w.heap.size w w':=by
 have H3:=Aside0.mk (And.intro h3 w3);have H4:=Aside0.mk (And.intro h4 w4);clear h3 h4 w3 w4;obtain ⟨xs',ex⟩ : ∃ z,z=xs.map rdq:=⟨_,rfl⟩;obtain ⟨ys',ey⟩ : ∃ z,z=ys.map rdq:=⟨_,rfl⟩;rw [← ex,← ey];have EX:=Aside0.mk ex;have EY:=Aside0.mk ey;clear ex ey
 go_enter Try.func26,Try.ntmps26
 go_upto_region 1 with fail
 obtain ⟨W1,hW1⟩ : ∃ W1,(w.alloc (.cells #[.int .i64 W,.int .i64 h,.int .i64 b,.slice A3 xs.length c3,.slice A4 ys.length c4] 27)).alloc (.cells #[.int .i64 0,.int .i64 0,.int .i64 0,.slice none 0 0,.slice none 0 0] 27)=W1:=⟨_,rfl⟩;have HB : Aside0 (Below w.heap.size w W1.drew):=⟨by rw [← hW1];exact below_drew1 (below_alloc (below_alloc (Below.refl _ _) _) _)⟩
 have B0 : W1.drew.heap[w.heap.size]? = some (.cells #[.int .i64 W,.int .i64 h,.int .i64 b,.slice A3 xs.length c3,.slice A4 ys.length c4] 27 (0,0)):=by rw [← hW1];exact blk_alloc (blk_new _ _) _
 have B1 : W1.drew.heap[w.heap.size+1]? = some (.cells #[.int .i64 0,.int .i64 0,.int .i64 0,.slice none 0 0,.slice none 0 0] 27 (0,0)):=by
  rw [← hW1];have:=blk_new (w.alloc (.cells #[.int .i64 W,.int .i64 h,.int .i64 b,.slice A3 xs.length c3,.slice A4 ys.length c4] 27)) (.cells #[.int .i64 0,.int .i64 0,.int .i64 0,.slice none 0 0,.slice none 0 0] 27)
  rwa [show (w.alloc (.cells #[.int .i64 W,.int .i64 h,.int .i64 b,.slice A3 xs.length c3,.slice A4 ys.length c4] 27)).heap.size=w.heap.size+1 by simp] at this
 rw [hW1];refine sT (n:=10) (S:=fun w'=>w'.cell? ⟨w.heap.size,3,none⟩=some (.slice A3 xs.length c3)∧w'.cell? ⟨w.heap.size,4,none⟩=some (.slice A4 ys.length c4)) (ds:=[7,9]) (by kernel_rfl) rfl ⟨(cells5 B0).2.2.2.1,(cells5 B0).2.2.2.2⟩ (fun hHeld=>?_);refine with_tabW film_copied.tab1 film_copied.bits1 (fun HT_ HW_=>?_);refine zp 0 3 ?_;refine zp 3 6 ?_;refine zt 1 4 ?_;refine zt 4 7 ?_
 refine oN 2 (some 5) rfl rfl fun K hK=>?_
 refine goes_ Try.func40 (by kernel_rfl) rfl #[.slice A3 xs.length c3,.func (.func 41) #[] #[]] (by rfl) rfl rfl (by simp only [List.map_toArray,List.map_cons,List.map_nil];rfl) ?_
 with_reducible refine (each_sem hn A3 c3 xs _ l3 (Kd.C_below H3.out.1 HB.out) H3.out.2).mono ?_
 rintro e W2 ⟨v3,rfl,hf,hb⟩;refine ⟨_,rfl,?_⟩;rw [← EX.out] at hf;obtain ⟨A5,c5,e5,_⟩:=hf.slice_;subst e5;have HF3:=Aside0.mk (hf.lower HB.out.size);replace B0:=blk_below B0 hb;replace B1:=blk_below B1 hb;replace HB:=Aside0.mk (below_step HB.out hb);clear hf hb;refine hK.out _ _ ⟨(cells5 B0).2.2.2.1,(cells5 B0).2.2.2.2⟩ (fun hHeld=>?_);clear hK K;refine nZ ?_;refine zp 6 9 ?_
 refine oN 5 (some 8) rfl rfl fun K hK=>?_
 refine goes_ Try.func40 (by kernel_rfl) rfl #[.slice A4 ys.length c4,.func (.func 41) #[] #[]] (by rfl) rfl rfl (by simp only [List.map_toArray,List.map_cons,List.map_nil];rfl) ?_
 with_reducible refine (each_sem hn A4 c4 ys _ l4 (Kd.C_below H4.out.1 HB.out) H4.out.2).mono ?_
 rintro e W3 ⟨v4,rfl,hf,hb⟩;refine ⟨_,rfl,?_⟩;rw [← EY.out] at hf;obtain ⟨A6,c6,e6,_⟩:=hf.slice_;subst e6;have HA:=Aside0.mk (HF3.out.apart (Nat.le_refl _) hf);have HF4:=Aside0.mk (hf.lower HB.out.size);replace HF3:=Aside0.mk (HF3.out.up hb);replace B0:=blk_below B0 hb;replace B1:=blk_below B1 hb;replace HB:=Aside0.mk (below_step HB.out hb);clear hf hb;refine hK.out _ _ ⟨(cells5 B0).2.2.2.1,(cells5 B0).2.2.2.2⟩ (fun hHeld=>?_);clear hK K;refine nZ ?_
 refine lN 7 (none) rfl rfl fun K hK=>?_
 have q0:=cells5 B0;have q1:=free5 B0;refine skip_ (w1:=?_) (by rfl) rfl ?_ ?_;rotate_left
 ·go_simp
  rfl
 clear q0 q1;refine hK.out _ _ ?_;clear hK K;refine zp 8 10 ?_
 refine lN 9 (none) rfl rfl fun K hK=>?_
 have q0:=cells5 B0;have q1:=free5 B0;refine skip_ (w1:=?_) (by rfl) rfl ?_ ?_;rotate_left
 ·go_simp
  rfl
 clear q0 q1;refine hK.out _ _ ?_;clear hK K;refine dN ?_;have k1:=tk_set1 B0 (by decide : 27 ∉ [63,82]) 3 (.slice A5 xs'.length c5) (W:=W3) inferInstance;have k2:=tk_set1 (blk_set B0 3 (.slice A5 xs'.length c5)) (by decide : 27 ∉ [63,82]) 4 (.slice A6 ys'.length c6) k1;replace HF3:=Aside0.mk (HF3.out.tk k2);replace HF4:=Aside0.mk (HF4.out.tk k2);replace HB:=Aside0.mk ((HB.out.setCell (p:=⟨w.heap.size,3,none⟩) (Nat.le_refl _) (.slice A5 xs'.length c5)).setCell (p:=⟨w.heap.size,4,none⟩) (Nat.le_refl _) (.slice A6 ys'.length c6));replace B1:=far1 (far1 B1 (show w.heap.size+1≠w.heap.size by omega) 3 (.slice A5 xs'.length c5)) (show w.heap.size+1≠w.heap.size by omega) 4 (.slice A6 ys'.length c6);replace B0:=blk_put (cs':=#[.int .i64 W,.int .i64 h,.int .i64 b,(.slice A5 xs'.length c5),(.slice A6 ys'.length c6)]) (blk_set B0 3 (.slice A5 xs'.length c5)) 4 (.slice A6 ys'.length c6) rfl;clear k1 k2;obtain ⟨W4,hW4⟩ : ∃ W4,(W3.setCell ⟨w.heap.size,3,none⟩ (.slice A5 xs'.length c5)).setCell ⟨w.heap.size,4,none⟩ (.slice A6 ys'.length c6)=W4:=⟨_,rfl⟩;rw [hW4] at B0 B1 HB HF3 HF4 ⊢;have q0:=cells5 B0;have q1:=free5 B1;have q2:=cells5 B1
 go_wp2
 refine bodyPost_ret (results_cell_row rfl _ _ (w.heap.size+1) 27 _ (0,0) _ rfl (put5 B1 _ _ _ _ _) Try.underlying27 rfl (by kernel_rfl)) rfl ⟨_,_,rfl,HF3.out.tk (tk_set5 B1 (by decide) _ _ _ _ _ inferInstance),HF4.out.tk (tk_set5 B1 (by decide) _ _ _ _ _ inferInstance),HA.out,low5 HB.out (Nat.le_succ _) _ _ _ _ _⟩
end Go.Proofs.Ytjiaobcoeegioaa.Pq
end
section
namespace Go.Proofs.Ytjiaobcoeegioaa.N
open Go Go.RowKit Go.Proofs.YtjiaobcoeegioaaW.PrintWords Go.Proofs.YtjiaobcoeegioaaW.PrintLast Go.Proofs.YtjiaobcoeegioaaW.PrintMore Go.Proofs.Ytjiaobcoeegioaa.Pq
theorem Sz.zero : Sz 0 1:=by
 unfold Sz;rw [P_succ];have:=P_pos 0;constructor
 ·rw [show (0 : Rat).num=0 from rfl];simp;omega
 ·rw [show (0 : Rat).den=1 from rfl];simp;omega
theorem of_ev {a b : Int} (a0 : 0≤a) (a1 : a < 9223372036854775808) (b0 : 0≤b) (b1 : b < 9223372036854775808) : Ev (fun k=>rat_Of.f k a b) (cq (qv false a b)):=by
 have hs : ∀ x : Int,0≤x→x < 9223372036854775808→rat_size.f x=some (L x):=by
  intro x h0 h1;unfold rat_size.f;rw [if_neg (by omega),show IntKind.u64.wrap x=x by simp only [IntKind.wrap,IntKind.bits,IntKind.signed];simp;omega,nof_f h0 (by omega)];rfl
 have hp : P 2=18446744073709551616:=by rw [P_succ,P_succ,P_zero];rfl
 unfold rat_Of.f;refine Ev_some (hs a a0 a1) ?_;refine Ev_some (hs b b0 b1) ?_;rw [decide_eq_false (show ¬ a < 0 by omega),decide_eq_false (show ¬ b < 0 by omega)];have h:=made_f (Nm.L a0 (show a < P 2 by omega)) (Nm.L b0 (show b < P 2 by omega)) (by decide) (by decide) false;rw [cq_qv a0 b0] at h;exact Ev.bind h (Ev.now _)
theorem sum2_ev {m n : Nat} {x y : RatS} (hx : Wf m x) (hy : Wf n y) (hm : m < 10000000) (hn : n < 10000000) : Ev (fun k=>rat_Sum.f k [x,y]) (cq (qOf x+qOf y)):=by
 unfold rat_Sum.f;refine Ev.bind (read_ev hx hm) ?_;have hs:=hx.sz.nums;have h:=plus_f hs.1 hs.2 hy.a hy.b (by omega) (by omega) (by omega) (by omega) (decide ((qOf x).num < 0)) y.f0;rw [qv_cq] at h;refine Ev.bind h ?_;exact Ev.now _
def sz1 (q : Rat) : Nat:=max (cq q).2.1.length (cq q).2.2.length
theorem sz1_le {q : Rat} {n : Nat} (h : Sz q n) : sz1 q≤n:=Nat.max_le.mpr ⟨h.nums.1.le,h.nums.2.le⟩
theorem Sz.own (q : Rat) : Sz q (sz1 q):=by
 have h1 : V (cq q).2.1=(q.num.natAbs : Int):=V_L (Int.natCast_nonneg _);have h2 : V (cq q).2.2=(q.den : Int):=V_L (Int.natCast_nonneg _);have k1:=V_lt (W_L (q.num.natAbs : Int));have k2:=V_lt (W_L (q.den : Int));exact ⟨by rw [← h1];exact Int.lt_of_lt_of_le k1 (P_le (Nat.le_max_left _ _)),by rw [← h2];exact Int.lt_of_lt_of_le k2 (P_le (Nat.le_max_right _ _))⟩
theorem sz1_zero : sz1 0≤1:=sz1_le Sz.zero
theorem sz1_add (q r : Rat) : sz1 (q+r)≤sz1 q+sz1 r+1:=sz1_le (Sz.add (Sz.own q) (Sz.own r))
theorem wf_mkR (q : Rat) : Wf (sz1 q) (mkR q):=(Sz.own q).wf
def szL (l : List Rat) : Nat:=l.foldr (fun q n=>max (sz1 q) n) 0
theorem szL_mem {l : List Rat} {q : Rat} (h : q∈l) : sz1 q≤szL l:=by
 induction l with
 | nil=>cases h
 | cons a l ih =>
  rcases List.mem_cons.mp h with rfl|h
  ·exact Nat.le_max_left _ _
  ·exact Nat.le_trans (ih h) (Nat.le_max_right _ _)
theorem szL_le {l : List Rat} {n : Nat} (h : ∀ q∈l,sz1 q≤n) : szL l≤n:=by
 induction l with
 | nil=>exact Nat.zero_le _
 | cons a l ih=>exact Nat.max_le.mpr ⟨h a (by simp),ih (fun q hq=>h q (by simp [hq]))⟩
theorem szL_zip (a b : List Rat) : szL (List.zipWith (· + ·) a b)≤szL a+szL b+1:=by
 refine szL_le fun q hq=>?_
 rw [List.mem_iff_getElem] at hq;obtain ⟨i,hi,rfl⟩:=hq;rw [List.getElem_zipWith];have h1:=szL_mem (List.getElem_mem (l:=a) (n:=i) (by simp at hi;omega));have h2:=szL_mem (List.getElem_mem (l:=b) (n:=i) (by simp at hi;omega));have h3:=sz1_add (a[i]'(by simp at hi;omega)) (b[i]'(by simp at hi;omega));omega
structure QF where
 a : List Rat
 b : List Rat
def QF.sz (q : QF) : Nat:=max (szL q.a) (szL q.b)
def QF.add (p q : QF) : QF:=⟨List.zipWith (· + ·) p.a q.a,List.zipWith (· + ·) p.b q.b⟩
theorem QF.sz_add (p q : QF) : (p.add q).sz≤p.sz+q.sz+1:=by
 have h1:=szL_zip p.a q.a;have h2:=szL_zip p.b q.b;have a1 : szL p.a≤p.sz:=Nat.le_max_left _ _;have a2 : szL p.b≤p.sz:=Nat.le_max_right _ _;have a3 : szL q.a≤q.sz:=Nat.le_max_left _ _;have a4 : szL q.b≤q.sz:=Nat.le_max_right _ _;exact Nat.max_le.mpr ⟨show szL (List.zipWith (· + ·) p.a q.a)≤_ by omega,show szL (List.zipWith (· + ·) p.b q.b)≤_ by omega⟩
def mkF (w h b : Int) (q : QF) : S27:=⟨w,h,b,q.a.map mkR,q.b.map mkR⟩
def qF (F : S27) : QF:=⟨F.f3.map qOf,F.f4.map qOf⟩
theorem qF_mkF (w h b : Int) (q : QF) : qF (mkF w h b q)=q:=by
 obtain ⟨a,c⟩:=q
 have e : ∀ l : List Rat,(l.map mkR).map qOf=l:=fun l=>by rw [List.map_map];exact (List.map_congr_left (fun x _=>qOf_mkR x)).trans (List.map_id l)
 unfold qF mkF;simp only [e]
theorem mkF_qF {F : S27} (h : chkF F=true) : mkF F.f0 F.f1 F.f2 (qF F)=F:=by
 unfold chkF at h;simp only [Bool.and_eq_true] at h;obtain ⟨⟨_,h3⟩,h4⟩:=h
 have e : ∀ l : List RatS,l.all chk=true→(l.map qOf).map mkR=l:=fun l hl=>by
  rw [List.map_map];refine (List.map_congr_left (fun x hx=>?_)).trans (List.map_id l);exact (chk_iff.mp (List.all_eq_true.mp hl x hx)).symm
 obtain ⟨a,b,c,d,e'⟩:=F;unfold mkF qF;dsimp only at h3 h4 ⊢;rw [e _ h3,e _ h4]
def QF.fits (q : QF) (w h b : Int) : Prop:=(q.a.length : Int)=w * h * b∧(q.b.length : Int)=w * h * b
theorem chkF_mkF {w h b : Int} {q : QF} (hs : szs w h b=true) (hf : q.fits w h b) : chkF (mkF w h b q)=true:=by
 unfold chkF mkF;dsimp only
 have e : ∀ l : List Rat,(l.map mkR).all chk=true:=fun l=>List.all_eq_true.mpr fun x hx=>by
  obtain ⟨y,_,rfl⟩:=List.mem_map.mp hx;exact chk_mkR y
 rw [hs,e,e,List.length_map,List.length_map,hf.1,hf.2];simp
theorem fits_of {F : S27} (h : chkF F=true) : szs F.f0 F.f1 F.f2=true∧(qF F).fits F.f0 F.f1 F.f2:=by
 unfold chkF at h;simp only [Bool.and_eq_true,decide_eq_true_eq] at h;obtain ⟨⟨⟨⟨h1,h2⟩,h3⟩,_⟩,_⟩:=h;exact ⟨h1,by simpa [qF] using h2,by simpa [qF] using h3⟩
theorem QF.fits_add {p q : QF} {w h b : Int} (hp : p.fits w h b) (hq : q.fits w h b) : (p.add q).fits w h b:=by
 obtain ⟨h1,h2⟩:=hp;obtain ⟨h3,h4⟩:=hq;refine ⟨?_,?_⟩
 ·show ((List.zipWith _ _ _).length : Int)=_
  rw [List.length_zipWith];omega
 ·show ((List.zipWith _ _ _).length : Int)=_
  rw [List.length_zipWith];omega
theorem wfF_mkF (w h b : Int) (q : QF) : WfF q.sz (mkF w h b q):=by
 refine ⟨fun x hx=>?_,fun x hx=>?_⟩
 ·obtain ⟨y,hy,rfl⟩:=List.mem_map.mp (show x∈q.a.map mkR from hx)
  exact (wf_mkR y).up (Nat.le_trans (szL_mem hy) (Nat.le_max_left _ _))
 ·obtain ⟨y,hy,rfl⟩:=List.mem_map.mp (show x∈q.b.map mkR from hx)
  exact (wf_mkR y).up (Nat.le_trans (szL_mem hy) (Nat.le_max_right _ _))
theorem zipWith_comm' (a b : List Rat) : List.zipWith (· + ·) a b=List.zipWith (· + ·) b a:=by
 rw [List.zipWith_comm]
 congr 1
 funext x y
 exact Rat.add_comm _ _
theorem zipWith_assoc' : ∀ (a b c : List Rat),List.zipWith (· + ·) (List.zipWith (· + ·) a b) c=List.zipWith (· + ·) a (List.zipWith (· + ·) b c)
 | [],_,_=>by simp
 | _ :: _,[],_=>by simp
 | _ :: _,_ :: _,[]=>by simp
 | x :: a,y :: b,z :: c=>by simp only [List.zipWith_cons_cons];rw [Rat.add_assoc,zipWith_assoc' a b c]
theorem QF.comm (p q : QF) : p.add q=q.add p:=by unfold QF.add;rw [zipWith_comm',zipWith_comm' p.b]
theorem QF.assoc (p q r : QF) : (p.add q).add r=p.add (q.add r):=by unfold QF.add;simp only [zipWith_assoc']
end Go.Proofs.Ytjiaobcoeegioaa.N
end
section
namespace Go.Proofs.Ytjiaobcoeegioaa.N
def mixQ (i : Nat) (p q : List Rat) : List Rat:=List.zipWith (· + ·) (p.take i) (q.take i)++p.drop i
theorem mixQ_zero (p q : List Rat) : mixQ 0 p q=p:=by simp [mixQ]
theorem mixQ_all {p q : List Rat} (h : p.length=q.length) : mixQ p.length p q=List.zipWith (· + ·) p q:=by
 unfold mixQ;rw [List.take_length,List.drop_length,List.append_nil,h,List.take_length]
theorem mixQ_length {i : Nat} {p q : List Rat} (h : p.length=q.length) : (mixQ i p q).length=p.length:=by
 unfold mixQ;rw [List.length_append,List.length_zipWith,List.length_take,List.length_take,List.length_drop];omega
theorem mixQ_get {i : Nat} {p q : List Rat} (h : p.length=q.length) (hi : i < p.length) : (mixQ i p q)[i]'(by rw [mixQ_length h];exact hi)=p[i]:=by
 unfold mixQ
 have hl : (List.zipWith (· + ·) (p.take i) (q.take i)).length=i:=by rw [List.length_zipWith,List.length_take,List.length_take];omega
 rw [List.getElem_append_right (by omega)];rw [List.getElem_drop]
 congr 1
 omega
theorem mixQ_set {i : Nat} {p q : List Rat} (h : p.length=q.length) (hi : i < p.length) : (mixQ i p q).set i (p[i]+q[i]'(by omega))=mixQ (i+1) p q:=by
 unfold mixQ
 have hl : (List.zipWith (· + ·) (p.take i) (q.take i)).length=i:=by rw [List.length_zipWith,List.length_take,List.length_take];omega
 rw [List.set_append_right _ _ (by omega),hl,Nat.sub_self,List.drop_eq_getElem_cons hi,List.set_cons_zero,List.take_succ_eq_append_getElem hi,List.take_succ_eq_append_getElem (l:=q) (by omega),List.zipWith_append (by rw [List.length_take,List.length_take];omega),List.append_assoc];rfl
def sumQ : List QF→QF
 | []=>⟨[],[]⟩
 | q :: r=>r.foldl QF.add q
theorem sumQ_snoc {l : List QF} (h : l≠[]) (q : QF) : sumQ (l++[q])=(sumQ l).add q:=by
 cases l with
 | nil=>exact absurd rfl h
 | cons a l =>
  show (l++[q]).foldl QF.add a=_
  rw [List.foldl_append];rfl
def tot (qs : List QF) : Nat:=(qs.map fun q=>q.sz+1).sum
theorem tot_mem {l : List QF} {q : QF} (h : q∈l) : q.sz+1≤tot l:=by
 induction l with
 | nil=>cases h
 | cons a l ih =>
  show _≤((a :: l).map fun q=>q.sz+1).sum
  rw [List.map_cons,List.sum_cons]
  rcases List.mem_cons.mp h with rfl|h
  ·omega
  ·have:=ih h
   unfold tot at this;omega
theorem tot_take (l : List QF) (n : Nat) : tot (l.take n)≤tot l:=by
 conv=>rhs;rw [← List.take_append_drop n l]
 unfold tot;rw [List.map_append,List.sum_append];omega
theorem foldl_sz (l : List QF) (q : QF) : (l.foldl QF.add q).sz≤q.sz+tot l:=by
 induction l generalizing q with
 | nil=>exact Nat.le_add_right _ _
 | cons a l ih =>
  have h1:=ih (q.add a);have h2:=QF.sz_add q a
  have h3 : tot (a :: l)=(a.sz+1)+tot l:=by unfold tot;rw [List.map_cons,List.sum_cons]
  show (l.foldl QF.add (q.add a)).sz≤_
  omega
theorem sumQ_sz (l : List QF) : (sumQ l).sz≤tot l:=by
 cases l with
 | nil=>exact Nat.zero_le _
 | cons a l =>
  have h1:=foldl_sz l a
  have h3 : tot (a :: l)=(a.sz+1)+tot l:=by unfold tot;rw [List.map_cons,List.sum_cons]
  show (l.foldl QF.add a).sz≤_
  omega
theorem sumQ_fits {w h b : Int} {l : List QF} (hl : l≠[]) (hf : ∀ q∈l,q.fits w h b) : (sumQ l).fits w h b:=by
 cases l with
 | nil=>exact absurd rfl hl
 | cons a l =>
  show (l.foldl QF.add a).fits w h b
  have ha:=hf a (by simp)
  have hr:=fun q (hq : q∈l)=>hf q (by simp [hq])
  clear hf hl
  induction l generalizing a with
  | nil=>exact ha
  | cons c l ih=>exact ih (a.add c) (QF.fits_add ha (hr c (by simp))) (fun q hq=>hr q (by simp [hq]))
end Go.Proofs.Ytjiaobcoeegioaa.N
end
section
namespace Go.Proofs.Ytjiaobcoeegioaa.Pq
open Go.RowKit Go.Proofs.YtjiaobcoeegioaaW.PrintWords Go.Proofs.YtjiaobcoeegioaaW.PrintLast Go.Proofs.YtjiaobcoeegioaaW.PrintMore
attribute [local go_sem] max2_int min2_int max_two min_two max_three min_three max_four min_four
set_option maxHeartbeats 8000000
set_option maxRecDepth 100000
theorem nat_Of.calls (a0 : Int) (r : List Int) (w : World) (h : nat_Of.f a0=some r) :
  Calls Try.prog 63 #[.int .u64 a0] w fun e w'=>∃ v0_ : Value,e=.returned (v0_)∧Kd.R (Kd.int .u32) 82 w' w.heap.size (fun _=>True) v0_ r∧Below w.heap.size w w':=by
 have HB:=Aside0.mk (Below.refl w.heap.size w);have H : ((nat_Norm.f (([(a0) % 4294967296,(a0 / 4294967296) % 4294967296] : List Int))).bind fun t285=>(some t285))=some r:=h;clear h;obtain ⟨y282,hy_⟩ : ∃ y_ : List Int,y_=(([(a0) % 4294967296,(a0 / 4294967296) % 4294967296] : List Int)):=⟨_,rfl⟩;replace H : ((nat_Norm.f y282).bind fun t285=>(some t285))=some r:=yH H;have Ny282:=Aside0.mk hy_;clear hy_;refine biT H ?_;clear H;intro t285 A2 H;(try dsimp only at H);replace A2:=Aside0.mk A2;obtain rfl:=Option.some.inj H
 go_enter Try.func63,Try.ntmps63
 go_wp2_with (first|((with_reducible refine gate_dst (N:=8) rfl ?_);refine Kd.R_lit (Kd.int .u32) _ 82 ?hg (N:=8) ?hd (xs:=([(a0) % 4294967296,(a0 / 4294967296) % 4294967296] : List Int)) (inner:=[.int .u32 ((a0) % 4294967296),.int .u32 ((a0 / 4294967296) % 4294967296)]) (ok:=fun _=>True) (okp:=fun _=>True) ?hr ?hp (fun _ hk=>hk) trivial (Below.refl _ _) (Nat.le_refl _) (by simp) ?_;(case hd=>rfl);(case hg=>rfl);(case hr=>first|(go_simp;done)|(go_simp;(with_reducible rfl))|(go_simp;rfl)|(go_simp;simp only [hu,Int.emod_sub_emod]));(case hp=>exact (Reps.one (show Kd.M (Kd.int .u32) _ _ _ ((a0) % 4294967296) [.int .u32 ((a0) % 4294967296)] from rfl) (Reps.one (show Kd.M (Kd.int .u32) _ _ _ ((a0 / 4294967296) % 4294967296) [.int .u32 ((a0 / 4294967296) % 4294967296)] from rfl) (Reps.none _ _))));intro v283 w3 ho4 hb hg_ hnew_;clear hg_ hnew_;(first|rw [← Ny282.out] at ho4|(simp only [Int.reduceToNat] at ho4;rw [← Ny282.out] at ho4));have HO284:=Aside0.mk (Kd.R_lower ho4 (below_size (bL HB.out)));replace HB:=bH HB hb;clear hb ho4;obtain ⟨Ao5,co5,eo5⟩:=Kd.R_slice HO284.out;subst eo5)|((with_reducible refine gate_callee (f:=60) rfl ?_);refine gL (some 9) Try.func60 #[.slice Ao5 y282.length co5] ?_;(with_reducible refine (nat_Norm.calls _ _ y282 t285 _ ?s1_ ?s2_ A2.out).mono ?_);(case s1_=>exact Cu (Kd.R_reads' HO284.out).2.2);(case s2_=>exact (Kd.R_reads' HO284.out).2.1);rintro e w6 ⟨v286,rfl,ho0,hb⟩;refine ⟨_,rfl,?_⟩;have HO287:=Aside0.mk (Kd.R_lower (Kd.R_new' ho0 (Kd.R_lt (Ru HO284.out))) (below_size (bL HB.out)));replace HO284:=Aside0.mk (Kd.R_elder' (Ru HO284.out) (Kd.R_base ho0) hb);replace HB:=bH HB hb))
 go_ret
 exact ⟨_,eW,Kd.R_mono (Ru HO287.out) (fun _ hk=>trivial),bL HB.out⟩
theorem rat_size.calls (a0 : Int) (r : List Int) (w : World) (h : rat_size.f a0=some r) :
  Calls Try.prog 45 #[.int .i64 a0] w fun e w'=>∃ v0_ : Value,e=.returned (v0_)∧Kd.R (Kd.int .u32) 82 w' w.heap.size (fun _=>True) v0_ r∧Below w.heap.size w w':=by
 have HB:=Aside0.mk (Below.refl w.heap.size w);have H : (if a0 < 0 then ((nat_Of.f (IntKind.u64.wrap (-(IntKind.u64.wrap (a0))))).bind fun t288=>(some t288)) else ((nat_Of.f (IntKind.u64.wrap (a0))).bind fun t291=>(some t291)))=some r:=h;clear h
 by_cases c2 : a0 < 0
 ·rw [if_pos c2] at H
  have c2b0 : decide (a0 < 0)=true:=decide_eq_true c2;clear c2;refine biT H ?_;clear H;intro t288 A3 H;(try dsimp only at H);replace A3:=Aside0.mk A3;obtain rfl:=Option.some.inj H
  go_enter Try.func45,Try.ntmps45
  go_wp2_with (first|((with_reducible refine gate_callee (f:=63) rfl ?_);refine gL (some 8) Try.func63 #[.int .u64 (IntKind.u64.wrap (-(IntKind.u64.wrap (a0))))] ?_;(with_reducible refine (nat_Of.calls (IntKind.u64.wrap (-(IntKind.u64.wrap (a0)))) t288 _ A3.out).mono ?_);rintro e w4 ⟨v289,rfl,ho0,hb⟩;refine ⟨_,rfl,?_⟩;have HO290:=Aside0.mk (Kd.R_lower ho0 (below_size (bL HB.out)));replace HB:=bH HB hb))
  go_ret
  exact ⟨_,eW,by (with_reducible repeat (first|apply Ra|apply Rn|apply Rd));exact HO290.out,bL HB.out⟩
 ·rw [if_neg c2] at H
  have c2b0 : decide (a0 < 0)=false:=decide_eq_false c2;clear c2;refine biT H ?_;clear H;intro t291 A5 H;(try dsimp only at H);replace A5:=Aside0.mk A5;obtain rfl:=Option.some.inj H
  go_enter Try.func45,Try.ntmps45
  go_wp2_with (first|((with_reducible refine gate_callee (f:=63) rfl ?_);refine gL (some 11) Try.func63 #[.int .u64 (IntKind.u64.wrap (a0))] ?_;(with_reducible refine (nat_Of.calls (IntKind.u64.wrap (a0)) t291 _ A5.out).mono ?_);rintro e w6 ⟨v292,rfl,ho0,hb⟩;refine ⟨_,rfl,?_⟩;have HO293:=Aside0.mk (Kd.R_lower ho0 (below_size (bL HB.out)));replace HB:=bH HB hb))
  go_ret
  exact ⟨_,eW,by (with_reducible repeat (first|apply Ra|apply Rn|apply Rd));exact HO293.out,bL HB.out⟩
theorem rat_Of.calls (k : Nat) (a0 : Int) (a1 : Int) (r1 : Bool) (r2 : List Int) (r3 : List Int) (w : World) (h : rat_Of.f k a0 a1=some (r1,r2,r3)) :
  Calls Try.prog 29 #[.int .i64 a0,.int .i64 a1] w fun e w'=>∃ v1_ v2_ : Value,e=.returned (.agg #[.bool r1,v1_,v2_])∧Kd.R (Kd.int .u32) 82 w' w.heap.size (fun k_=>some k_≠(v2_ : Value).ownBlock) v1_ r2∧Kd.R (Kd.int .u32) 82 w' w.heap.size (fun k_=>some k_≠(v1_ : Value).ownBlock) v2_ r3∧Below w.heap.size w w':=by
 have hu63:=Try.underlying63;have HB:=Aside0.mk (Below.refl w.heap.size w);have H : ((rat_size.f a0).bind fun t295=>((rat_size.f a1).bind fun t298=>((rat_made.f k ((decide (a0 < 0)) != (decide (a1 < 0))) t295 t298).bind fun bt301=>(some (bt301.1,bt301.2.1,bt301.2.2)))))=some (r1,r2,r3):=h;clear h;refine biT H ?_;clear H;intro t295 A3 H;(try dsimp only at H);replace A3:=Aside0.mk A3;refine biT H ?_;clear H;intro t298 A4 H;(try dsimp only at H);replace A4:=Aside0.mk A4;refine biT H ?_;clear H;rintro ⟨t301,t302,t305⟩ A5 H;(try dsimp only at H);replace A5:=Aside0.mk A5;simp only [Option.some.injEq,Prod.mk.injEq] at H;obtain ⟨rfl,rfl,rfl⟩:=H
 go_enter Try.func29,Try.ntmps29
 go_wp2_with (first|((with_reducible refine gate_dst (N:=4) rfl ?_);refine boxA #[.bool false,.slice none 0 0,.slice none 0 0] 63 ?_;intro gb294 hg w6 hbox hb;have BK294:=Aside0.mk hbox;have GW294:=Aside0.mk ((by rw [hg];exact (below_size (bL HB.out)) : w.heap.size≤gb294));have GE294:=Aside0.mk ((by rw [hg];exact (below_size (bL HB.out)) : w.heap.size≤gb294));replace HB:=bH HB hb;clear hb hbox hg)|((with_reducible refine gate_callee (f:=45) rfl ?_);refine gL (some 11) Try.func45 #[.int .i64 a0] ?_;(with_reducible refine (rat_size.calls a0 t295 _ A3.out).mono ?_);rintro e w7 ⟨v296,rfl,ho0,hb⟩;refine ⟨_,rfl,?_⟩;have HO297:=Aside0.mk (Kd.R_lower ho0 (below_size (bL HB.out)));replace BK294:=bK BK294 hb;replace HB:=bH HB hb)|((with_reducible refine gate_callee (f:=45) rfl ?_);refine gL (some 13) Try.func45 #[.int .i64 a1] ?_;(with_reducible refine (rat_size.calls a1 t298 _ A4.out).mono ?_);rintro e w8 ⟨v299,rfl,ho0,hb⟩;refine ⟨_,rfl,?_⟩;have HO300:=Aside0.mk (Kd.R_lower (Kd.R_new' ho0 (Kd.R_lt (Ru HO297.out))) (below_size (bL HB.out)));replace HO297:=Aside0.mk (Kd.R_elder' (Ru HO297.out) (Kd.R_base ho0) hb);replace BK294:=bK BK294 hb;replace HB:=bH HB hb;obtain ⟨Ao9,co9,eo9⟩:=Kd.R_slice HO297.out;subst eo9;obtain ⟨Ao10,co10,eo10⟩:=Kd.R_slice HO300.out;subst eo10)|((with_reducible refine gate_callee (f:=44) rfl ?_);refine gL (some 14) Try.func44 #[.bool ((decide (a0 < 0)) != (decide (a1 < 0))),.slice Ao9 t295.length co9,.slice Ao10 t298.length co10] ?_;(with_reducible refine (rat_made.calls k ((decide (a0 < 0)) != (decide (a1 < 0))) _ _ t295 _ _ t298 t301 t302 t305 _ ?s1_ ?s2_ ?s3_ ?s4_ A5.out).mono ?_);(case s1_=>exact Cu (Kd.R_reads' HO297.out).2.2);(case s2_=>exact (Kd.R_reads' HO297.out).2.1);(case s3_=>exact Cu (Kd.R_reads' HO300.out).2.2);(case s4_=>exact (Kd.R_reads' HO300.out).2.1);rintro e w11 ⟨v303,v306,rfl,ho0,ho1,hb⟩;refine ⟨_,rfl,?_⟩;have HO304:=Aside0.mk (Kd.R_lower (Kd.R_new' (Kd.R_new' ho0 (Kd.R_lt (Ru HO297.out))) (Kd.R_lt (Ru HO300.out))) (below_size (bL HB.out)));have HO307:=Aside0.mk (Kd.R_lower (Kd.R_new' (Kd.R_new' ho1 (Kd.R_lt (Ru HO297.out))) (Kd.R_lt (Ru HO300.out))) (below_size (bL HB.out)));replace HO297:=Aside0.mk (Kd.R_mono (Kd.R_told (Kd.R_told (Kd.R_old (Ru HO297.out) hb) (Kd.R_base ho0)) (Kd.R_base ho1)) (fun _ h_=>h_.1));replace HO300:=Aside0.mk (Kd.R_mono (Kd.R_told (Kd.R_told (Kd.R_old (Ru HO300.out) hb) (Kd.R_base ho0)) (Kd.R_base ho1)) (fun _ h_=>h_.1));replace BK294:=bK BK294 hb;replace HB:=bH HB hb;obtain ⟨hcz12_0,hcz12_1,hcz12_2⟩:=cl3 BK294.out;obtain ⟨hfz12_0,hfz12_1,hfz12_2⟩:=fr3 BK294.out;obtain ⟨Ao13,co13,eo13⟩:=Kd.R_slice HO304.out;subst eo13;obtain ⟨Ao14,co14,eo14⟩:=Kd.R_slice HO307.out;subst eo14))
 refine bodyPost_ret (results_cell_row rfl _ _ gb294 63 #[.bool t301,.slice Ao13 t302.length co13,.slice Ao14 t305.length co14] (0,0) _ rfl (pT BK294.out) Try.underlying63 rfl (by kernel_rfl)) rfl ?_;exact ⟨_,_,eW,by (with_reducible repeat (first|apply Ra|apply Rn|apply Rd));exact Kd.R_mono (Kd.R_far (p:=⟨gb294,2,none⟩) (Kd.R_far (p:=⟨gb294,1,none⟩) (Kd.R_far (p:=⟨gb294,0,none⟩) (Kd.R_types HO304.out BK294.out (by decide)) (fun _ hk=>hk.2) (.bool t301)) (fun _ hk=>hk.2) (.slice Ao13 t302.length co13)) (fun _ hk=>hk.2) (.slice Ao14 t305.length co14)) (fun _ hk=>hk.1.1.1),by (with_reducible repeat (first|apply Ra|apply Rn|apply Rd));exact Kd.R_mono (Kd.R_far (p:=⟨gb294,2,none⟩) (Kd.R_far (p:=⟨gb294,1,none⟩) (Kd.R_far (p:=⟨gb294,0,none⟩) (Kd.R_types HO307.out BK294.out (by decide)) (fun _ hk=>hk.2) (.bool t301)) (fun _ hk=>hk.2) (.slice Ao13 t302.length co13)) (fun _ hk=>hk.2) (.slice Ao14 t305.length co14)) (fun _ hk=>hk.1.1.1),bL HB.out⟩
end Go.Proofs.Ytjiaobcoeegioaa.Pq
end
section
namespace Go.Proofs.Ytjiaobcoeegioaa.N
open Go Go.RowKit Go.Proofs.YtjiaobcoeegioaaW.PrintWords Go.Proofs.YtjiaobcoeegioaaW.PrintLast Go.Proofs.YtjiaobcoeegioaaW.PrintMore Go.Proofs.Ytjiaobcoeegioaa.Pq
theorem keepc {W w : World} {p : Addr} {v : Value} (hb : Below W.heap.size W w) (h : W.cell? p=some v) : w.cell? p=some v:=(hb.cell (World.block_lt_of_cell? W p h)).trans h
theorem cell_set {W : World} {p q : Addr} {u v : Value} (h : W.cell? p=some v) (hne : p.block≠q.block) : (W.setCell q u).cell? p=some v:=by
 unfold World.cell? at h ⊢;rw [Below.heap_setCell _ _ _ _ hne];exact h
theorem addz (g i : Nat) : (⟨g,0,none⟩ : Addr).add i=⟨g,i,none⟩:=by
 unfold Addr.add
 by_cases h : i=0
 ·subst h;rfl
 ·rw [if_neg h];simp
abbrev st3 (W : World) (p : Addr) (a b c : Value) : World:=((W.setCell p a).setCell ⟨p.block,p.off+1,none⟩ b).setCell ⟨p.block,p.off+2,none⟩ c
theorem cell_st3 {W : World} {p q : Addr} {a b c v : Value} (h : W.cell? p=some v) (hne : p.block≠q.block) : (st3 W q a b c).cell? p=some v:=cell_set (cell_set (cell_set h hne) hne) hne
theorem next_cells {W : World} {p : Addr} {a b v1 v2 : Value} (h1 : W.cell? ⟨p.block,p.off+1,none⟩=some v1) (h2 : W.cell? ⟨p.block,p.off+2,none⟩=some v2) :
  (W.setCell p a).cell? ⟨p.block,p.off+1,none⟩=some v1∧((W.setCell p a).setCell ⟨p.block,p.off+1,none⟩ b).cell? ⟨p.block,p.off+2,none⟩=some v2:=by
 have n1 : p≠⟨p.block,p.off+1,none⟩:=fun e=>absurd (congrArg Addr.off e) (by simp)
 have n2 : p≠⟨p.block,p.off+2,none⟩:=fun e=>absurd (congrArg Addr.off e) (by simp)
 refine ⟨?_,?_⟩
 ·rw [World.cell?_setCell_other _ _ _ _ n1];exact h1
 ·rw [World.cell?_setCell_other _ _ _ _ (by simp),World.cell?_setCell_other _ _ _ _ n2];exact h2
theorem blk_st3 {W : World} {g : Nat} {o : Obj} {q : Addr} {a b c : Value} (h : W.heap[g]? = some o) (hne : g≠q.block) : (st3 W q a b c).heap[g]? = some o :=
 (Below.heap_setCell _ ⟨q.block,q.off+2,none⟩ _ _ hne).trans ((Below.heap_setCell _ ⟨q.block,q.off+1,none⟩ _ _ hne).trans ((Below.heap_setCell _ q _ _ hne).trans h))
theorem low_st3 {w W : World} {n : Nat} {q : Addr} (h : Below n w W) (hg : n≤q.block) (a b c : Value) : Below n w (st3 W q a b c):=((h.setCell (p:=q) hg a).setCell (p:=⟨q.block,q.off+1,none⟩) hg b).setCell (p:=⟨q.block,q.off+2,none⟩) hg c
theorem XK.below {W w1 : World} {x : RatS} {cs : List Value} (h : XK W x cs) (hb : Below W.heap.size W w1) : XK w1 x cs:=by
 haveI : Tk [82] W w1:=tk_call hb W
 exact h.up
theorem pair_lit {W : World} {x y : RatS} {a b c d e f : Value} (hx : k63.K W x [a,b,c]) (hy : k63.K W y [d,e,f]) : Kd.C k63 (W.alloc (.cells #[a,b,c,d,e,f] 63)) (some ⟨W.heap.size,0,none⟩) 2 [x,y]:=by
 have hb : Below W.heap.size W (W.alloc (.cells #[a,b,c,d,e,f] 63)):=below_alloc (Below.refl _ _) _;have h1 : Reps (k63.K (W.alloc (.cells #[a,b,c,d,e,f] 63))) 3 ([]++[x]++[y]) ([]++[a,b,c]++[d,e,f]):=((Reps.none _ _).snoc (k63.K_below hb hx) rfl).snoc (k63.K_below hb hy) rfl;have h2:=OwnRow.lit (e:=63) W 0 (ps:=[x,y]) (inner:=[a,b,c,d,e,f]) h1 (Nat.zero_le _) (by simp);obtain ⟨A,cc,e,_,h3⟩:=OwnRow.reads h2
 injection e with e1 _ _
 rw [← e1] at h3;exact h3
structure ORow (W : World) (base : Nat) (ad : Addr) (c : Nat) (xs : List RatS) : Prop where
 z : ad=⟨ad.block,0,none⟩
 r : FRow W base (.slice (some ad) xs.length c) xs
theorem FRow.orow {W : World} {base : Nat} {v : Value} {xs : List RatS} (h : FRow W base v xs) (h0 : 0 < xs.length) : ∃ ad c,v=.slice (some ad) xs.length c∧xs.length≤c∧ORow W base ad c xs:=by
 have hh:=h;obtain ⟨inner,ho,hr⟩:=h
 rcases ho.2 with ⟨rfl,h1⟩|⟨g,cap,cur,rfl,_,_,hc,_⟩
 ·omega
 ·exact ⟨⟨g,0,none⟩,cap,rfl,hc,rfl,hh⟩
section
variable {W w1 : World} {base : Nat} {ad : Addr} {c : Nat} {xs : List RatS} {x : RatS}
theorem ORow.below (h : ORow W base ad c xs) (hb : Below W.heap.size W w1) : ORow w1 base ad c xs:=⟨h.z,h.r.up hb⟩
theorem ORow.tk (h : ORow W base ad c xs) (k : Tk [63,82] W w1) : ORow w1 base ad c xs:=⟨h.z,h.r.tk k⟩
theorem ORow.lt (h : ORow W base ad c xs) : ad.block < W.heap.size:=h.r.lt _ (by rw [h.z];rfl)
theorem ORow.from_ (h : ORow W base ad c xs) : base≤ad.block:=h.r.from_ _ (by rw [h.z];rfl)
theorem ORow.typed (h : ORow W base ad c xs) : ∃ cells,W.heap[ad.block]? = some (.cells cells 63 (0,0)):=h.r.typed _ (by rw [h.z];rfl)
theorem ORow.ne {g t : Nat} {cs : Array Value} (h : ORow W base ad c xs) (hb : W.heap[g]? = some (.cells cs t (0,0))) (ht : t≠63) : g≠ad.block:=fun e=>by
 obtain ⟨cells,hc⟩:=h.typed;rw [← e,hb] at hc
 injection hc with hc
 injection hc with _ h2 _
 exact ht h2
theorem ORow.at (h : ORow W base ad c xs) {i : Nat} (hi : i < xs.length) : ∃ A1 c1 A2 c2,W.cell? (ad.add (i * 3))=some (.bool xs[i].f0)∧W.cell? ⟨(ad.add (i * 3)).block,(ad.add (i * 3)).off+1,none⟩=some (.slice A1 xs[i].f1.length c1)∧W.cell? ⟨(ad.add (i * 3)).block,(ad.add (i * 3)).off+2,none⟩=some (.slice A2 xs[i].f2.length c2) ∧
  k63.K W xs[i] [.bool xs[i].f0,.slice A1 xs[i].f1.length c1,.slice A2 xs[i].f2.length c2]:=by
 obtain ⟨A,cc,e,_,h2⟩:=h.r.reads
 injection e with e1 _ _
 subst e1;obtain ⟨ad2,A5,c5,A6,c6,e2,p0,p1,p2,l1,g1,l2,g2⟩:=at_T63 (w:=W) h2.now (i : Int) (by omega) (by omega)
 injection e2 with e2
 subst e2;rw [Int.toNat_natCast] at p0 p1 p2
 have hx : rd_T63 xs (i : Int)=xs[i]:=by unfold rd_T63;rw [Int.toNat_natCast,List.getD_eq_getElem?_getD,List.getElem?_eq_getElem hi];rfl
 rw [hx] at p0 p1 p2 l1 g1 l2 g2;exact ⟨A5,c5,A6,c6,p0,p1,p2,k63_mk W _ l1 g1 l2 g2⟩
theorem ORow.free (h : ORow W base ad c xs) (i : Nat) : W.frozen? (ad.add i)=false∧W.frozen? ⟨(ad.add i).block,(ad.add i).off+1,none⟩=false∧W.frozen? ⟨(ad.add i).block,(ad.add i).off+2,none⟩=false:=by
 obtain ⟨cells,hc⟩:=h.typed
 rw [show ad.add i=⟨ad.block,i,none⟩ by
  conv=>lhs;rw [h.z]
  exact addz _ _]
 exact ⟨blk_frozen hc _,blk_frozen hc _,blk_frozen hc _⟩
theorem ORow.store (h : ORow W base ad c xs) {i : Nat} (hi : i < xs.length) {a b d : Value} (hx : XK W x [a,b,d]) : ORow (st3 W (ad.add (i * 3)) a b d) base ad c (xs.set i x):=by
 refine ⟨h.z,?_⟩;have h2:=h.r;rw [List.length_set]
 have e : ad.add (i * 3)=⟨ad.block,i * 3,none⟩:=by
  conv=>lhs;rw [h.z]
  exact addz _ _
 have e2 : (some ad : Option Addr)=some ⟨ad.block,0,none⟩:=congrArg some h.z;rw [e2] at h2 ⊢;rw [e];exact h2.store hi hx
theorem ORow.beside {ad2 : Addr} {c2 base2 : Nat} {ys : List RatS} (h : ORow W base ad c xs) (h2 : ORow W base2 ad2 c2 ys) (hne : ad2.block≠ad.block) (i : Nat) (a b d : Value) : ORow (st3 W (ad2.add (i * 3)) a b d) base ad c xs:=by
 refine ⟨h.z,?_⟩;obtain ⟨cells,hc⟩:=h2.typed
 have e : ad2.add (i * 3)=⟨ad2.block,i * 3,none⟩:=by
  conv=>lhs;rw [h2.z]
  exact addz _ _
 rw [e];exact h.r.far3 hc (by decide) (by rw [h.z];simpa [Value.ownBlock] using hne) (i * 3) a b d
end
end Go.Proofs.Ytjiaobcoeegioaa.N
end
section
namespace Go.Proofs.Ytjiaobcoeegioaa.Pq
open Go.RowKit Go.Proofs.YtjiaobcoeegioaaW.PrintWords Go.Proofs.YtjiaobcoeegioaaW.PrintLast Go.Proofs.YtjiaobcoeegioaaW.PrintMore Go.Proofs.Ytjiaobcoeegioaa.N
theorem of_sem (a b : Int) (w : World) (a0 : 0≤a) (a1 : a < 9223372036854775808) (b0 : 0≤b) (b1 : b < 9223372036854775808) :
  Calls Try.prog 29 #[.int .i64 a,.int .i64 b] w fun e w'=>∃ A1 c1 A2 c2,e=.returned (.agg #[.bool (mkR (qv false a b)).f0,.slice A1 (mkR (qv false a b)).f1.length c1,.slice A2 (mkR (qv false a b)).f2.length c2])∧XK w' (mkR (qv false a b)) [.bool (mkR (qv false a b)).f0,.slice A1 (mkR (qv false a b)).f1.length c1,.slice A2 (mkR (qv false a b)).f2.length c2]∧Below w.heap.size w w':=by
 obtain ⟨k,hk⟩:=(of_ev a0 a1 b0 b1).rounds;refine (rat_Of.calls k a b _ _ _ w hk).mono ?_;rintro e w1 ⟨v1,v2,rfl,h1,h2,hb⟩;obtain ⟨A3,c3,rfl,l3,g3⟩:=madeT h1;obtain ⟨A4,c4,rfl,l4,g4⟩:=madeT h2;exact ⟨_,_,_,_,rfl,XK.mk (x:=mkR (qv false a b)) l3 l4 g3 g4,hb⟩
theorem sum2_sem {m n : Nat} {x y : S63} {A : Option Addr} {w : World} (hx : Wf m x) (hy : Wf n y) (hm : m < 10000000) (hn : n < 10000000) (h : Kd.C k63 w A 2 [x,y]) :
  Calls Try.prog 27 #[.slice A 2 2] w fun e w'=>∃ A1 c1 A2 c2,e=.returned (.agg #[.bool (mkR (qOf x+qOf y)).f0,.slice A1 (mkR (qOf x+qOf y)).f1.length c1,.slice A2 (mkR (qOf x+qOf y)).f2.length c2])∧XK w' (mkR (qOf x+qOf y)) [.bool (mkR (qOf x+qOf y)).f0,.slice A1 (mkR (qOf x+qOf y)).f1.length c1,.slice A2 (mkR (qOf x+qOf y)).f2.length c2]∧Below w.heap.size w w':=by
 obtain ⟨k,hk⟩:=(sum2_ev hx hy hm hn).rounds;refine (rat_Sum.calls k A 2 [x,y] _ _ _ w h (Nat.le_refl 2) hk).mono ?_;rintro e w1 ⟨v1,v2,rfl,h1,h2,hb⟩;obtain ⟨A3,c3,rfl,l3,g3⟩:=madeT h1;obtain ⟨A4,c4,rfl,l4,g4⟩:=madeT h2;exact ⟨_,_,_,_,rfl,XK.mk (x:=mkR (qOf x+qOf y)) l3 l4 g3 g4,hb⟩
structure Rows (W : World) (base : Nat) (q : QF) (ad : Addr) (c : Nat) (ad2 : Addr) (c2 : Nat) : Prop where
 a : ORow W base ad c (q.a.map mkR)
 b : ORow W base ad2 c2 (q.b.map mkR)
 ne : ad.block≠ad2.block
theorem Rows.below {W w1 : World} {base : Nat} {q : QF} {ad : Addr} {c : Nat} {ad2 : Addr} {c2 : Nat} (h : Rows W base q ad c ad2 c2) (hb : Below W.heap.size W w1) : Rows w1 base q ad c ad2 c2:=⟨h.a.below hb,h.b.below hb,h.ne⟩
theorem Rows.tk {W w1 : World} {base : Nat} {q : QF} {ad : Addr} {c : Nat} {ad2 : Addr} {c2 : Nat} (h : Rows W base q ad c ad2 c2) (k : Tk [63,82] W w1) : Rows w1 base q ad c ad2 c2:=⟨h.a.tk k,h.b.tk k,h.ne⟩
theorem ORow.reads {W : World} {base : Nat} {ad : Addr} {c : Nat} {xs : List S63} (h : ORow W base ad c xs) : xs.length≤c∧Trob [63,82] W (fun W'=>Kd.C k63 W' (some ad) xs.length xs):=by
 obtain ⟨A,cc,e,hl,h2⟩:=h.r.reads
 injection e with e1 e2 e3
 subst e1 e3;exact ⟨hl,h2⟩
theorem rdq_map (l : List Rat) : (l.map mkR).map rdq=l.map mkR:=by
 rw [List.map_map];exact List.map_congr_left (fun x _=>by show mkR (qOf (mkR x))=mkR x;rw [qOf_mkR])
theorem at_film {qs : List QF} {W h b : Int} {M : Nat} (hM : (M : Int)=W * h * b) {w : World} {A : Option Addr} {n : Nat} (hr : Kd.C k27 w A n (qs.map (mkF W h b))) (hq : ∀ q∈qs,q.fits W h b) {j : Nat} (hj : j < qs.length) (hn : n=qs.length) :
  ∃ ad A3 c3 A4 c4,A=some ad∧w.cell? (ad.add (j * 5))=some (.int .i64 W)∧w.cell? ⟨(ad.add (j * 5)).block,(ad.add (j * 5)).off+1,none⟩=some (.int .i64 h)∧w.cell? ⟨(ad.add (j * 5)).block,(ad.add (j * 5)).off+2,none⟩=some (.int .i64 b) ∧
   w.cell? ⟨(ad.add (j * 5)).block,(ad.add (j * 5)).off+3,none⟩=some (.slice A3 M c3)∧w.cell? ⟨(ad.add (j * 5)).block,(ad.add (j * 5)).off+4,none⟩=some (.slice A4 M c4)∧Kd.C k63 w A3 M (qs[j].a.map mkR)∧Kd.C k63 w A4 M (qs[j].b.map mkR)∧M≤c3∧M≤c4:=by
 obtain ⟨ad,A3,c3,A4,c4,e,p0,p1,p2,p3,p4,l3,g3,l4,g4⟩:=at_T27 hr (j : Int) (by omega) (by omega);rw [Int.toNat_natCast] at p0 p1 p2 p3 p4
 have hx : rd_T27 (qs.map (mkF W h b)) (j : Int)=mkF W h b qs[j]:=by
  unfold rd_T27;rw [Int.toNat_natCast,List.getD_eq_getElem?_getD,List.getElem?_eq_getElem (by simpa using hj),List.getElem_map];rfl
 have hf:=hq qs[j] (List.getElem_mem _)
 have e1 : (mkF W h b qs[j]).f3.length=M:=by
  show (qs[j].a.map mkR).length=M
  rw [List.length_map];have:=hf.1;omega
 have e2 : (mkF W h b qs[j]).f4.length=M:=by
  show (qs[j].b.map mkR).length=M
  rw [List.length_map];have:=hf.2;omega
 rw [hx] at p0 p1 p2 p3 p4 g3 g4 l3 l4;rw [e1] at p3 g3 l3;rw [e2] at p4 g4 l4;exact ⟨ad,A3,c3,A4,c4,e,p0,p1,p2,p3,p4,g3,g4,l3,l4⟩
theorem szs_pos {w h b : Int} (hs : szs w h b=true) : 0 < w * h * b:=by
 simp only [szs,Bool.and_eq_true,decide_eq_true_eq] at hs;obtain ⟨⟨⟨⟨⟨h1,h2⟩,h3⟩,h4⟩,h5⟩,h6⟩:=hs;exact Int.mul_pos (Int.mul_pos (by omega) (by omega)) (by omega)
section
variable {q : QF} {W h b : Int} {M : Nat} {A3 : Option Addr} {c3 : Nat} {A4 : Option Addr} {c4 : Nat} {w : World}
theorem q_len (hM : (M : Int)=W * h * b) (hf : q.fits W h b) : (q.a.map mkR).length=M∧(q.b.map mkR).length=M:=by
 rw [List.length_map,List.length_map];have h1:=hf.1;have h2:=hf.2;omega
theorem checkM (hs : szs W h b=true) (hM : (M : Int)=W * h * b) (hf : q.fits W h b) (hn : q.sz < 10000000) (h3 : Kd.C k63 w A3 M (q.a.map mkR)) (h4 : Kd.C k63 w A4 M (q.b.map mkR)) :
  Calls Try.prog 16 #[.agg #[.int .i64 W,.int .i64 h,.int .i64 b,.slice A3 M c3,.slice A4 M c4]] w fun e w'=>e=.returned (.bool true)∧Below w.heap.size w w':=by
 have hc:=chkF_mkF hs hf;obtain ⟨e1,e2⟩:=q_len hM hf;have k:=fcheck_sem hn (mkF W h b q) A3 c3 A4 c4 w (by show Kd.C k63 w A3 (q.a.map mkR).length _;rw [e1];exact h3) (by show Kd.C k63 w A4 (q.b.map mkR).length _;rw [e2];exact h4) (wfF_mkF W h b q);rw [hc] at k;change Calls Try.prog 16 #[.agg #[.int .i64 W,.int .i64 h,.int .i64 b,.slice A3 (q.a.map mkR).length c3,.slice A4 (q.b.map mkR).length c4]] w _ at k;rw [e1,e2] at k;exact k
theorem copiedM (hs : szs W h b=true) (hM : (M : Int)=W * h * b) (hf : q.fits W h b) (hn : q.sz < 10000000) (h3 : Kd.C k63 w A3 M (q.a.map mkR)) (h4 : Kd.C k63 w A4 M (q.b.map mkR)) :
  Calls Try.prog 26 #[.agg #[.int .i64 W,.int .i64 h,.int .i64 b,.slice A3 M c3,.slice A4 M c4]] w fun e w'=>∃ ad c ad2 c2,e=.returned (.agg #[.int .i64 W,.int .i64 h,.int .i64 b,.slice (some ad) M c,.slice (some ad2) M c2])∧M≤c∧M≤c2∧Rows w' w.heap.size q ad c ad2 c2∧Below w.heap.size w w':=by
 obtain ⟨e1,e2⟩:=q_len hM hf;have hp:=szs_pos hs;have hp2:=szs_prod hs;have wf:=wfF_mkF W h b q;have k:=copied_sem hn W h b (q.a.map mkR) (q.b.map mkR) A3 c3 A4 c4 w (by rw [e1];exact h3) (by rw [e2];exact h4) (by omega) (by omega) wf.1 wf.2;rw [e1,e2] at k;refine k.mono ?_;rintro e w1 ⟨v3,v4,rfl,h3,h4,hne,hb⟩;rw [rdq_map] at h3 h4;obtain ⟨ad,c,rfl,l1,o1⟩:=h3.orow (by omega);obtain ⟨ad2,c2,rfl,l2,o2⟩:=h4.orow (by omega);rw [e1] at l1 ⊢;rw [e2] at l2 ⊢
 exact ⟨ad,c,ad2,c2,rfl,l1,l2,⟨o1,o2,by
  rcases hne with hne|hne
  ·rw [o1.z] at hne;simp [Value.ownBlock] at hne
  ·rw [o1.z,o2.z] at hne;simpa [Value.ownBlock] using hne⟩,hb⟩
end
theorem Rows.lower {W : World} {base base' : Nat} {q : QF} {ad : Addr} {c : Nat} {ad2 : Addr} {c2 : Nat} (h : Rows W base q ad c ad2 c2) (hb : base'≤base) : Rows W base' q ad c ad2 c2:=⟨⟨h.a.z,h.a.r.lower hb⟩,⟨h.b.z,h.b.r.lower hb⟩,h.ne⟩
theorem add_block (ad : Addr) (n : Nat) : (ad.add n).block=ad.block:=by
 unfold Addr.add
 split <;> rfl
theorem at_num {w : World} {A : Option Addr} {M : Nat} {l : List Rat} (h : Kd.C k63 w A M (l.map mkR)) {i : Nat} (hi : i < l.length) (hl : i < M) : ∃ ad A1 c1 A2 c2,A=some ad∧w.cell? (ad.add (i * 3))=some (.bool (mkR l[i]).f0)∧w.cell? ⟨(ad.add (i * 3)).block,(ad.add (i * 3)).off+1,none⟩=some (.slice A1 (mkR l[i]).f1.length c1)∧w.cell? ⟨(ad.add (i * 3)).block,(ad.add (i * 3)).off+2,none⟩=some (.slice A2 (mkR l[i]).f2.length c2) ∧
  k63.K w (mkR l[i]) [.bool (mkR l[i]).f0,.slice A1 (mkR l[i]).f1.length c1,.slice A2 (mkR l[i]).f2.length c2]:=by
 obtain ⟨ad,A5,c5,A6,c6,e,p0,p1,p2,l1,g1,l2,g2⟩:=at_T63 h (i : Int) (by omega) (by omega);rw [Int.toNat_natCast] at p0 p1 p2
 have hx : rd_T63 (l.map mkR) (i : Int)=mkR l[i]:=by
  unfold rd_T63;rw [Int.toNat_natCast,List.getD_eq_getElem?_getD,List.getElem?_eq_getElem (by simpa using hi),List.getElem_map];rfl
 rw [hx] at p0 p1 p2 l1 g1 l2 g2;exact ⟨ad,A5,c5,A6,c6,e,p0,p1,p2,k63_mk w _ l1 g1 l2 g2⟩
theorem ORow.num {W : World} {base : Nat} {ad : Addr} {c : Nat} {l : List Rat} (h : ORow W base ad c (l.map mkR)) {i : Nat} (hi : i < l.length) : ∃ A1 c1 A2 c2,W.cell? (ad.add (i * 3))=some (.bool (mkR l[i]).f0)∧W.cell? ⟨(ad.add (i * 3)).block,(ad.add (i * 3)).off+1,none⟩=some (.slice A1 (mkR l[i]).f1.length c1)∧W.cell? ⟨(ad.add (i * 3)).block,(ad.add (i * 3)).off+2,none⟩=some (.slice A2 (mkR l[i]).f2.length c2) ∧
  k63.K W (mkR l[i]) [.bool (mkR l[i]).f0,.slice A1 (mkR l[i]).f1.length c1,.slice A2 (mkR l[i]).f2.length c2]:=by
 have h2:=h.at (i:=i) (by simpa using hi)
 rwa [List.getElem_map] at h2
def SumTo (x u X : S63) : Prop:=∀ (A : Option Addr) (w : World),Kd.C k63 w A 2 [x,u]→Calls Try.prog 27 #[.slice A 2 2] w fun e w'=>∃ A1 c1 A2 c2,e=.returned (.agg #[.bool X.f0,.slice A1 X.f1.length c1,.slice A2 X.f2.length c2])∧XK w' X [.bool X.f0,.slice A1 X.f1.length c1,.slice A2 X.f2.length c2]∧Below w.heap.size w w'
theorem SumTo.go {x u X : S63} (h : SumTo x u X) {A : Option Addr} {w : World} (k : Kd.C k63 w A 2 [x,u]) : Calls Try.prog 27 #[.slice A 2 2] w fun e w'=>∃ A1 c1 A2 c2,e=.returned (.agg #[.bool X.f0,.slice A1 X.f1.length c1,.slice A2 X.f2.length c2])∧XK w' X [.bool X.f0,.slice A1 X.f1.length c1,.slice A2 X.f2.length c2]∧Below w.heap.size w w':=h A w k
theorem sumR {p r : Rat} (hp : sz1 p < 10000000) (hr : sz1 r < 10000000) : SumTo (mkR p) (mkR r) (mkR (p+r)):=by
 intro A w h;have k:=sum2_sem (wf_mkR p) (wf_mkR r) hp hr h;rw [qOf_mkR,qOf_mkR] at k;exact k
theorem XK.st3 {W : World} {x : S63} {cs : List Value} {base : Nat} {ad : Addr} {c : Nat} {xs : List S63} (h : XK W x cs) (ho : ORow W base ad c xs) (i : Nat) (a b d : Value) : XK (st3 W (ad.add i) a b d) x cs:=by
 obtain ⟨cells,hc⟩:=ho.typed;rw [← add_block ad i] at hc
 have e : ad.add i=⟨(ad.add i).block,(ad.add i).off,none⟩:=by rw [ho.z,addz]
 have k1 : Tk [82] W (W.setCell (ad.add i) a):=by
  rw [e];exact tk_set1 hc (by decide) _ a inferInstance
 have c1 : (W.setCell (ad.add i) a).heap[(ad.add i).block]? = some (.cells (cells.setIfInBounds (ad.add i).off a) 63 (0,0)):=by
  have:=blk_set hc (ad.add i).off a
  rwa [← e] at this
 have k2:=tk_set1 c1 (by decide) ((ad.add i).off+1) b k1;have k3:=tk_set1 (blk_set c1 ((ad.add i).off+1) b) (by decide) ((ad.add i).off+2) d k2
 haveI:=k3
 exact h.up
theorem blk_ne {W : World} {g base : Nat} {ad : Addr} {c : Nat} {xs : List S63} {t : Nat} {cs : Array Value} (h : ORow W base ad c xs) (hb : W.heap[g]? = some (.cells cs t (0,0))) (ht : t≠63) (i : Nat) : g≠(ad.add i).block:=by
 rw [add_block];exact h.ne hb ht
end Go.Proofs.Ytjiaobcoeegioaa.Pq
end
section
namespace Go.Proofs.Ytjiaobcoeegioaa.Pq
open Go.RowKit Go.Proofs.YtjiaobcoeegioaaW.PrintWords Go.Proofs.YtjiaobcoeegioaaW.PrintLast Go.Proofs.YtjiaobcoeegioaaW.PrintMore Go.Proofs.Ytjiaobcoeegioaa.N
namespace X
def film_Sum.T12 : Bool × List (List Nat × List Nat):=(true,[([],[]),([0],[0]),([],[]),([],[]),([3],[3]),([],[]),([],[]),([6],[6]),([],[]),([7,8],[7,8]),([9],[9]),([],[]),([11],[11]),([],[]),([12,13],[12,13]),([14],[14]),([10,15],[10,15]),([16],[16]),([],[]),([18],[18]),([],[]),([19,20],[19,20]),([21],[21]),([],[]),([23],[23]),([],[]),([24,25],[24,25]),([26],[26]),([22,27],[22,27]),([28,17],[28]),([1,2,0,1,2,6,7,8,9,10,11,12,13,14,15,16,17,22,27,29],[1,2]),([30,17,29,0,1,2,6,7,8,9,10,11,12,13,14,15,16,17,22,27,29],[17,30]),([4,5,0,1,2,3,4,5,6,7,8,9,10,11,12,13,14,15,16,17,18,19,20,21,22,23,24,25,26,27,28,29,30,31],[4,5]),([32,29,31,0,1,2,3,4,5,6,7,8,9,10,11,12,13,14,15,16,17,18,19,20,21,22,23,24,25,26,27,28,29,30,31],[29,32])])
def film_Sum.B12 : List Nat:=[0,1,0,0,8,0,0,64,0,448,960,0,2048,0,14336,30720,65472,131008,0,262144,0,1835008,3932160,0,8388608,0,58720256,125829120,268173312,536870848,1073741767,2147483591,4294967295,8589934591]
theorem film_Sum.tab12 : rtab .any (opsOf Try.f14 12)=film_Sum.T12:=by kernel_rfl
theorem film_Sum.bits12 : waitsOk film_Sum.T12.2 film_Sum.B12=true:=by kernel_rfl
end X
open X
def OutSt (qs : List QF) (W h b : Int) (M : Nat) (w wr : World) (j : Nat) : Prop :=
 (j=0∧wr.heap[w.heap.size+1]? = some (.cells #[.int .i64 0,.int .i64 0,.int .i64 0,.slice none 0 0,.slice none 0 0] 27 (0,0))) ∨
 (0 < j ∧ ∃ ad c ad2 c2,wr.heap[w.heap.size+1]? = some (.cells #[.int .i64 W,.int .i64 h,.int .i64 b,.slice (some ad) M c,.slice (some ad2) M c2] 27 (0,0))∧M≤c∧M≤c2∧Rows wr w.heap.size (sumQ (qs.take j)) ad c ad2 c2)
set_option maxHeartbeats 4000000 in
set_option maxRecDepth 100000 in
theorem filmsum_sem {qs : List QF} {W h b : Int} {M : Nat} (hs : szs W h b=true) (hM : (M : Int)=W * h * b) (hq : ∀ q∈qs,q.fits W h b) (hne : qs≠[]) (hsz : tot qs < 10000000) (A0 : Option Addr) (c0 : Nat) (w : World) (hr : Kd.C k27 w A0 qs.length (qs.map (mkF W h b))) :
  Calls Try.prog 14 #[.slice A0 qs.length c0] w fun e w'=>∃ ad c ad2 c2,e=.returned (.tuple #[.agg #[.int .i64 W,.int .i64 h,.int .i64 b,.slice (some ad) M c,.slice (some ad2) M c2],.bool true])∧M≤c∧M≤c2∧Rows w' w.heap.size (sumQ qs) ad c ad2 c2∧Below w.heap.size w w':=by
 have HQ:=Aside0.mk hq;have HR:=Aside0.mk hr;have HN : Aside0 (0 < qs.length):=⟨List.length_pos_iff.mpr hne⟩
 have hmax : qs.length≤9223372036854775807:=by have:=Kd.C_max hr;simpa using this
 have HM0 : Aside0 (0 < M∧M≤2048):=⟨by have:=szs_pos hs;omega,by have:=szs_prod hs;omega⟩;clear hq hr hne
 go_enter Try.func14,Try.ntmps14
 go_wp2
 go_loopw [10] (fun i wr=>∃ j : Nat,j≤qs.length∧i=.int .i64 j∧Aside0 (Below w.heap.size w wr∧wr.heap[w.heap.size]? = some (.cells #[.int .i64 0,.int .i64 0,.int .i64 0,.slice none 0 0,.slice none 0 0] 27 (0,0)))∧Aside0 (OutSt qs W h b M w wr j)) (fun i _=>qs.length - (intOf i).toNat)
 case atStart=>exact ⟨0,Nat.zero_le _,rfl,⟨below_alloc (below_alloc (Below.refl _ _) _) _,blk_alloc (blk_new _ _) _⟩,⟨.inl ⟨rfl,by
  have:=blk_new (w.alloc (.cells #[.int .i64 0,.int .i64 0,.int .i64 0,.slice none 0 0,.slice none 0 0] 27)) (.cells #[.int .i64 0,.int .i64 0,.int .i64 0,.slice none 0 0,.slice none 0 0] 27)
  rwa [show (w.alloc (.cells #[.int .i64 0,.int .i64 0,.int .i64 0,.slice none 0 0,.slice none 0 0] 27)).heap.size=w.heap.size+1 by simp] at this⟩⟩⟩
 case round =>
  obtain ⟨j,hj,rfl,HB,HO⟩:=hrel
  by_cases hlt : j < qs.length
  ·have hlb : decide ((j : Int) < (qs.length : Int))=true:=decide_eq_true (by omega)
   obtain ⟨ad0,A3,c3,A4,c4,rfl,p0,p1,p2,p3,p4,g3,g4,_,_⟩:=at_film hM HR.out HQ.out hlt rfl;replace p0:=keepc HB.out.1 p0;replace p1:=keepc HB.out.1 p1;replace p2:=keepc HB.out.1 p2;replace p3:=keepc HB.out.1 p3;replace p4:=keepc HB.out.1 p4;have hfq:=HQ.out qs[j] (List.getElem_mem _)
   have hzq : qs[j].sz < 10000000:=by have:=tot_mem (List.getElem_mem hlt);omega
   have hsq : 0 < j→(sumQ (qs.take j)).fits W h b∧sumQ (qs.take (j+1))=(sumQ (qs.take j)).add qs[j]∧(sumQ (qs.take j)).sz < 10000000:=fun h0=>by
    have hn : qs.take j≠[]:=fun e=>by
     rw [List.take_eq_nil_iff] at e
     rcases e with e|e
     ·omega
     ·subst e
      simp at hlt
    refine ⟨sumQ_fits hn (fun q hq=>HQ.out q (List.mem_of_mem_take hq)),?_,?_⟩
    ·rw [List.take_succ_eq_append_getElem hlt,sumQ_snoc hn]
    ·have h1:=sumQ_sz (qs.take j)
     have h2:=tot_take qs j;omega
   have hs0 : j=0→sumQ (qs.take (j+1))=qs[j]:=fun h0=>by
    subst h0;rw [List.take_succ_eq_append_getElem hlt];rfl
   obtain ⟨q,eq⟩ : ∃ q,qs[j]=q:=⟨_,rfl⟩;rw [eq] at g3 g4 hfq hzq hsq hs0;have G3:=Aside0.mk (And.intro g3 g4);have HFQ:=Aside0.mk hfq;have HSQ:=Aside0.mk hsq;have HS0:=Aside0.mk hs0;clear g3 g4 hfq eq hsq hs0
   by_cases hz : j=0
   ·have HO2 : Aside0 (wr.heap[w.heap.size+1]? = some (.cells #[.int .i64 0,.int .i64 0,.int .i64 0,.slice none 0 0,.slice none 0 0] 27 (0,0))):=by
     rcases HO.out with ⟨_,h⟩|⟨h,_⟩
     ·exact ⟨h⟩
     ·omega
    clear HO;have cz : ((j : Int) == 0)=true:=beq_iff_eq.mpr (by omega);have cg : decide (0 < j)=false:=decide_eq_false (by omega);have eg : w.heap.size+1 < wr.heap.size:=blk_lt HO2.out;have HZ:=Aside0.mk hz;clear hz;have HG3:=Aside0.mk (And.intro (Kd.C_below G3.out.1 HB.out.1) (Kd.C_below G3.out.2 HB.out.1))
    go_wp2_with (first
     | (go_at_call 16;(with_reducible refine (checkM hs hM HFQ.out hzq (Kd.C_alloc HG3.out.1 _) (Kd.C_alloc HG3.out.2 _)).mono ?_);rintro e w1 ⟨rfl,hb⟩;obtain ⟨hc,hf⟩:=bcell hb;have HB1:=Aside0.mk (below_step (below_alloc HB.out.1 _) hb);have B0:=Aside0.mk (blk_below (blk_alloc HB.out.2 _) hb);have B1:=Aside0.mk (blk_below (blk_alloc HO2.out _) hb);have G5:=Aside0.mk (And.intro (Kd.C_below (Kd.C_alloc HG3.out.1 _) hb) (Kd.C_below (Kd.C_alloc HG3.out.2 _) hb));clear hb)
     | (go_at_call 26;(with_reducible refine (copiedM hs hM HFQ.out hzq G5.out.1 G5.out.2).mono ?_);rintro e w2 ⟨ad,c,ad2,c2,rfl,lc,lc2,hrows,hb⟩;have HB2:=Aside0.mk (below_step HB1.out hb);have B02:=Aside0.mk (blk_below B0.out hb);have B12:=Aside0.mk (blk_below B1.out hb);have q2:=cells5 B12.out;have q3:=free5 B12.out;have HRW:=Aside0.mk (hrows.lower HB1.out.size);clear hrows hb hc hf))
    go_roundw
    case rel=>exact ⟨j+1,hlt,by go_num,⟨low5 HB2.out (Nat.le_succ _) _ _ _ _ _,far5 B02.out (by omega) _ _ _ _ _⟩,⟨.inr ⟨by omega,ad,c,ad2,c2,put5 B12.out _ _ _ _ _,lc,lc2,by rw [HS0.out HZ.out];exact HRW.out.tk (tk_set5 B12.out (by decide) _ _ _ _ _ inferInstance)⟩⟩⟩
    case measure=>simp [intOf];omega
   ·obtain ⟨h0,ad,c,ad2,c2,b1,lc,lc2,hrows⟩ : 0 < j ∧ ∃ ad c ad2 c2,wr.heap[w.heap.size+1]? = some (.cells #[.int .i64 W,.int .i64 h,.int .i64 b,.slice (some ad) M c,.slice (some ad2) M c2] 27 (0,0))∧M≤c∧M≤c2∧Rows wr w.heap.size (sumQ (qs.take j)) ad c ad2 c2:=by
     rcases HO.out with ⟨h,_⟩|h
     ·omega
     ·exact h
    clear HO;obtain ⟨hsf,hs2,hsz2⟩:=HSQ.out h0;obtain ⟨p,ep⟩ : ∃ p,sumQ (qs.take j)=p:=⟨_,rfl⟩;rw [ep] at hrows hsf hs2 hsz2;have HP:=Aside0.mk (And.intro hsf (And.intro hs2 hsz2));have HRW:=Aside0.mk hrows;have B1:=Aside0.mk b1;have q2:=cells5 b1;clear hrows hsf hs2 hsz2 ep b1;have cz : ((j : Int) == 0)=false:=beq_eq_false_iff_ne.mpr (by omega);have cg : decide (0 < j)=true:=decide_eq_true (by omega);have eg : w.heap.size+1 < wr.heap.size:=blk_lt B1.out;have HZ:=Aside0.mk h0;have HG3:=Aside0.mk (And.intro (Kd.C_below G3.out.1 HB.out.1) (Kd.C_below G3.out.2 HB.out.1));clear hz h0
    go_wp2_with (first
     | (go_at_call 16;(with_reducible refine (checkM hs hM HFQ.out hzq (Kd.C_alloc HG3.out.1 _) (Kd.C_alloc HG3.out.2 _)).mono ?_);rintro e w1 ⟨rfl,hb⟩;have HB1:=Aside0.mk (below_step (below_alloc HB.out.1 _) hb);have B01:=Aside0.mk (blk_below (blk_alloc HB.out.2 _) hb);have B11:=Aside0.mk (blk_below (blk_alloc B1.out _) hb);have B61:=Aside0.mk (blk_below (blk_new wr _) hb);have HR1:=Aside0.mk ((HRW.out.below (below_alloc (Below.refl _ _) _)).below hb);have q3:=cells5 B11.out;have q4:=cells5 B61.out;clear hb q2))
    obtain ⟨g6,hg6⟩ : ∃ g6,wr.heap.size=g6:=⟨_,rfl⟩;have E6 : Aside0 (w.heap.size+1 < g6):=⟨by omega⟩;rw [hg6] at B61 ⊢;clear q3 q4 hg6 eg HB B1 HRW HG3
    go_loopw [51] (fun a wq=>∃ i : Nat,i≤M∧a=.int .i64 i∧Aside0 (Below w.heap.size w wq∧wq.heap[w.heap.size]? = some (.cells #[.int .i64 0,.int .i64 0,.int .i64 0,.slice none 0 0,.slice none 0 0] 27 (0,0))∧wq.heap[w.heap.size+1]? = some (.cells #[.int .i64 W,.int .i64 h,.int .i64 b,.slice (some ad) M c,.slice (some ad2) M c2] 27 (0,0))∧wq.heap[g6]? = some (.cells #[.int .i64 W,.int .i64 h,.int .i64 b,.slice A3 M c3,.slice A4 M c4] 27 (0,0)))∧Aside0 (ORow wq w.heap.size ad c ((mixQ i p.a q.a).map mkR)∧ORow wq w.heap.size ad2 c2 ((mixQ i p.b q.b).map mkR)∧ad.block≠ad2.block)) (fun a _=>M - (intOf a).toNat)
    case atStart=>exact ⟨0,Nat.zero_le _,rfl,⟨HB1.out,B01.out,B11.out,B61.out⟩,⟨by rw [mixQ_zero];exact HR1.out.a,by rw [mixQ_zero];exact HR1.out.b,HR1.out.ne⟩⟩
    case round =>
     clear HB1 B01 B11 B61 HR1;obtain ⟨i,hi,rfl,HB,HO⟩:=hrel;have hm2:=HM0.out
     by_cases hil : i < M
     ·have hil2 : decide ((i : Int) < (M : Int))=true:=decide_eq_true (by omega)
      obtain ⟨la,lb⟩:=q_len hM HP.out.1;obtain ⟨lc',ld⟩:=q_len hM HFQ.out;rw [List.length_map] at la lb lc' ld;have ta:=mixQ_set (i:=i) (p:=p.a) (q:=q.a) (by omega) (by omega);have tb:=mixQ_set (i:=i) (p:=p.b) (q:=q.b) (by omega) (by omega);have ga:=mixQ_get (i:=i) (p:=p.a) (q:=q.a) (by omega) (by omega);have gb:=mixQ_get (i:=i) (p:=p.b) (q:=q.b) (by omega) (by omega);have na:=mixQ_length (i:=i) (p:=p.a) (q:=q.a) (by omega);have nb:=mixQ_length (i:=i) (p:=p.b) (q:=q.b) (by omega);obtain ⟨K1,k1,K2,k2,a0,a1,a2,hx⟩:=ORow.num HO.out.1 (i:=i) (by omega);obtain ⟨N1,n1,N2,n2,z7,z8,z9,hy⟩:=ORow.num HO.out.2.1 (i:=i) (by omega);rw [ga] at a0 a1 a2 hx;rw [gb] at z7 z8 z9 hy;obtain ⟨ad3,M1,m1,M2,m2,rfl,z4,z5,z6,hu⟩:=at_num (Kd.C_below G3.out.1 HB.out.1) (i:=i) (by omega) hil;obtain ⟨ad4,O1,o1,O2,o2,rfl,z10,z11,z12,hv⟩:=at_num (Kd.C_below G3.out.2 HB.out.1) (i:=i) (by omega) hil
      have e3 : (ad3.add (i * 3)).block≠(ad.add (i * 3)).block:=by
       obtain ⟨ad',_,_,_,_,e,t0,_⟩:=at_num G3.out.1 (i:=i) (by omega) hil
       injection e with e
       subst e;have h1:=World.block_lt_of_cell? w _ t0;have h2:=HO.out.1.from_;rw [add_block ad];omega
      have e4 : (ad4.add (i * 3)).block≠(ad.add (i * 3)).block:=by
       obtain ⟨ad',_,_,_,_,e,t0,_⟩:=at_num G3.out.2 (i:=i) (by omega) hil
       injection e with e
       subst e;have h1:=World.block_lt_of_cell? w _ t0;have h2:=HO.out.1.from_;rw [add_block ad];omega
      have e2 : (ad2.add (i * 3)).block≠(ad.add (i * 3)).block:=by
       rw [add_block,add_block]
       exact fun e=>HO.out.2.2 e.symm
      have e1 : w.heap.size+1≠(ad.add (i * 3)).block:=blk_ne HO.out.1 HB.out.2.2.1 (by decide) _;have e6 : g6≠(ad.add (i * 3)).block:=blk_ne HO.out.1 HB.out.2.2.2 (by decide) _;have sx : SumTo (mkR p.a[i]) (mkR q.a[i]) (mkR (p.a[i]+q.a[i])):=sumR (by have h1:=szL_mem (List.getElem_mem (l:=p.a) (n:=i) (by omega));have h2 : szL p.a≤p.sz:=Nat.le_max_left _ _;have h3:=HP.out.2.2;omega) (by have h1:=szL_mem (List.getElem_mem (l:=q.a) (n:=i) (by omega));have h2 : szL q.a≤q.sz:=Nat.le_max_left _ _;omega);have sy : SumTo (mkR p.b[i]) (mkR q.b[i]) (mkR (p.b[i]+q.b[i])):=sumR (by have h1:=szL_mem (List.getElem_mem (l:=p.b) (n:=i) (by omega));have h2 : szL p.b≤p.sz:=Nat.le_max_right _ _;have h3:=HP.out.2.2;omega) (by have h1:=szL_mem (List.getElem_mem (l:=q.b) (n:=i) (by omega));have h2 : szL q.b≤q.sz:=Nat.le_max_right _ _;omega)
      have na2 : i < ((mixQ i p.a q.a).map mkR).length:=by rw [List.length_map];omega
      have nb2 : i < ((mixQ i p.b q.b).map mkR).length:=by rw [List.length_map];omega
      have ta2 : ((mixQ i p.a q.a).map mkR).set i (mkR (p.a[i]+q.a[i]))=(mixQ (i+1) p.a q.a).map mkR:=by rw [← List.map_set,ta]
      have tb2 : ((mixQ i p.b q.b).map mkR).set i (mkR (p.b[i]+q.b[i]))=(mixQ (i+1) p.b q.b).map mkR:=by rw [← List.map_set,tb]
      obtain ⟨x,ex⟩ : ∃ x,mkR p.a[i]=x:=⟨_,rfl⟩;obtain ⟨u,eu⟩ : ∃ x,mkR q.a[i]=x:=⟨_,rfl⟩;obtain ⟨y,ey⟩ : ∃ x,mkR p.b[i]=x:=⟨_,rfl⟩;obtain ⟨v,ev⟩ : ∃ x,mkR q.b[i]=x:=⟨_,rfl⟩;obtain ⟨X,eX⟩ : ∃ x,mkR (p.a[i]+q.a[i])=x:=⟨_,rfl⟩;obtain ⟨Y,eY⟩ : ∃ x,mkR (p.b[i]+q.b[i])=x:=⟨_,rfl⟩;rw [ex] at a0 a1 a2 hx sx;rw [eu] at z4 z5 z6 hu sx;rw [ey] at z7 z8 z9 hy sy;rw [ev] at z10 z11 z12 hv sy;rw [eX] at sx ta2;rw [eY] at sy tb2;have FX:=Aside0.mk (And.intro a0 (And.intro a1 a2));have KX:=Aside0.mk hx;have KU:=Aside0.mk hu;have KY:=Aside0.mk hy;have KV:=Aside0.mk hv;have SX:=Aside0.mk sx;have SY:=Aside0.mk sy;have TA:=Aside0.mk (And.intro na2 ta2);have TB:=Aside0.mk (And.intro nb2 tb2);have NE:=Aside0.mk (And.intro e1 (And.intro e2 (And.intro e3 (And.intro e4 e6))));have ZZ:=Aside0.mk (show wr.cell? ⟨w.heap.size+1,3,none⟩=some (.slice (some ad) M c)∧wr.cell? ⟨w.heap.size+1,4,none⟩=some (.slice (some ad2) M c2)∧wr.cell? ⟨g6,3,none⟩=some (.slice (some ad3) M c3)∧wr.cell? ⟨g6,4,none⟩=some (.slice (some ad4) M c4)∧wr.cell? (ad3.add (i * 3))=some (.bool u.f0)∧wr.cell? ⟨(ad3.add (i * 3)).block,(ad3.add (i * 3)).off+1,none⟩=some (.slice M1 u.f1.length m1)∧wr.cell? ⟨(ad3.add (i * 3)).block,(ad3.add (i * 3)).off+2,none⟩=some (.slice M2 u.f2.length m2)∧wr.cell? (ad2.add (i * 3))=some (.bool y.f0)∧wr.cell? ⟨(ad2.add (i * 3)).block,(ad2.add (i * 3)).off+1,none⟩=some (.slice N1 y.f1.length n1)∧wr.cell? ⟨(ad2.add (i * 3)).block,(ad2.add (i * 3)).off+2,none⟩=some (.slice N2 y.f2.length n2)∧wr.cell? (ad4.add (i * 3))=some (.bool v.f0)∧wr.cell? ⟨(ad4.add (i * 3)).block,(ad4.add (i * 3)).off+1,none⟩=some (.slice O1 v.f1.length o1)∧wr.cell? ⟨(ad4.add (i * 3)).block,(ad4.add (i * 3)).off+2,none⟩=some (.slice O2 v.f2.length o2) from ⟨(cells5 HB.out.2.2.1).2.2.2.1,(cells5 HB.out.2.2.1).2.2.2.2,(cells5 HB.out.2.2.2).2.2.2.1,(cells5 HB.out.2.2.2).2.2.2.2,z4,z5,z6,z7,z8,z9,z10,z11,z12⟩)
      clear a0 a1 a2 hx hu hy hv sx sy na2 nb2 ta2 tb2 e1 e2 e3 e4 e6 z4 z5 z6 z7 z8 z9 z10 z11 z12 ex eu ey ev eX eY ta tb ga gb na nb la lb lc' ld
      go_upto_region 12 with fail
      have HW : Aside0 (Below wr.heap.size wr wr.drew):=⟨below_drew1 (Below.refl _ _)⟩;refine start_ (n:=34) (S:=fun w'=>w'.cell? ⟨w.heap.size+1,3,none⟩=some (.slice (some ad) M c)∧w'.cell? ⟨w.heap.size+1,4,none⟩=some (.slice (some ad2) M c2)∧w'.cell? ⟨g6,3,none⟩=some (.slice (some ad3) M c3)∧w'.cell? ⟨g6,4,none⟩=some (.slice (some ad4) M c4)∧w'.cell? (ad3.add (i * 3))=some (.bool u.f0)∧w'.cell? ⟨(ad3.add (i * 3)).block,(ad3.add (i * 3)).off+1,none⟩=some (.slice M1 u.f1.length m1)∧w'.cell? ⟨(ad3.add (i * 3)).block,(ad3.add (i * 3)).off+2,none⟩=some (.slice M2 u.f2.length m2)∧w'.cell? (ad2.add (i * 3))=some (.bool y.f0)∧w'.cell? ⟨(ad2.add (i * 3)).block,(ad2.add (i * 3)).off+1,none⟩=some (.slice N1 y.f1.length n1)∧w'.cell? ⟨(ad2.add (i * 3)).block,(ad2.add (i * 3)).off+2,none⟩=some (.slice N2 y.f2.length n2)∧w'.cell? (ad4.add (i * 3))=some (.bool v.f0)∧w'.cell? ⟨(ad4.add (i * 3)).block,(ad4.add (i * 3)).off+1,none⟩=some (.slice O1 v.f1.length o1)∧w'.cell? ⟨(ad4.add (i * 3)).block,(ad4.add (i * 3)).off+2,none⟩=some (.slice O2 v.f2.length o2)) (ds:=[33]) #[false,false,false,false,false,false,false,false,false,false,false,false,false,false,false,false,false,false,false,false,false,false,false,false,false,false,false,false,false,false,false,false,false,false] (by kernel_rfl) rfl rfl ZZ.out (fun hHeld=>?_);refine with_tabW film_Sum.tab12 film_Sum.bits12 (fun HT_ HW_=>?_);refine zp 0 54 ?_;refine zp 2 56 ?_;refine zp 3 57 ?_;refine zp 5 59 ?_;refine zp 6 60 ?_;refine zp 8 62 ?_;refine zp 11 65 ?_
      refine zp 13 67 ?_;refine zp 18 72 ?_;refine zp 20 74 ?_;refine zp 23 77 ?_;refine zp 25 79 ?_;refine zt 1 55 ?_;refine zt 4 58 ?_;refine zt 7 61 ?_;refine zp 9 63 ?_;refine zt 12 66 ?_;refine zp 14 68 ?_;refine zt 15 69 ?_;refine zt 19 73 ?_;refine zp 21 75 ?_;refine zt 22 76 ?_;refine zt 24 78 ?_;refine zp 26 80 ?_;refine zt 27 81 ?_;refine join_ (σ:=Nat × Nat × Option Addr × Nat × Option Addr × Nat) 5 #[true,true,true,true,true,true,true,true,true,true,true,true,true,true,true,true,true,true,true,true,true,true,true,true,true,true,true,true,true,false,false,false,false,false] (fun s_=>[(64,.agg #[.bool x.f0,.slice K1 x.f1.length k1,.slice K2 x.f2.length k2]),(70,.slice (some ⟨s_.1,0,none⟩) 2 2),(71,.agg #[.bool X.f0,.slice s_.2.2.1 X.f1.length s_.2.2.2.1,.slice s_.2.2.2.2.1 X.f2.length s_.2.2.2.2.2]),(82,.slice (some ⟨s_.2.1,0,none⟩) 2 2)]) (fun s_ w'=>(w'.cell? ⟨w.heap.size+1,3,none⟩=some (.slice (some ad) M c)∧w'.cell? ⟨w.heap.size+1,4,none⟩=some (.slice (some ad2) M c2)∧w'.cell? ⟨g6,3,none⟩=some (.slice (some ad3) M c3)∧w'.cell? ⟨g6,4,none⟩=some (.slice (some ad4) M c4)∧w'.cell? (ad3.add (i * 3))=some (.bool u.f0)∧w'.cell? ⟨(ad3.add (i * 3)).block,(ad3.add (i * 3)).off+1,none⟩=some (.slice M1 u.f1.length m1)∧w'.cell? ⟨(ad3.add (i * 3)).block,(ad3.add (i * 3)).off+2,none⟩=some (.slice M2 u.f2.length m2)∧w'.cell? (ad2.add (i * 3))=some (.bool y.f0)∧w'.cell? ⟨(ad2.add (i * 3)).block,(ad2.add (i * 3)).off+1,none⟩=some (.slice N1 y.f1.length n1)∧w'.cell? ⟨(ad2.add (i * 3)).block,(ad2.add (i * 3)).off+2,none⟩=some (.slice N2 y.f2.length n2)∧w'.cell? (ad4.add (i * 3))=some (.bool v.f0)∧w'.cell? ⟨(ad4.add (i * 3)).block,(ad4.add (i * 3)).off+1,none⟩=some (.slice O1 v.f1.length o1)∧w'.cell? ⟨(ad4.add (i * 3)).block,(ad4.add (i * 3)).off+2,none⟩=some (.slice O2 v.f2.length o2))∧Below wr.heap.size wr w'∧XK w' X [.bool X.f0,.slice s_.2.2.1 X.f1.length s_.2.2.2.1,.slice s_.2.2.2.2.1 X.f2.length s_.2.2.2.2.2]∧Kd.C k63 w' (some ⟨s_.2.1,0,none⟩) 2 [y,v]) ?_ ?_
      rotate_left
      ·intro hCont
       refine two_ (i:=10) (j:=28) (Ni:=some 64) (Nj:=some 82) #[true,true,true,true,true,true,true,true,true,true,true,true,true,true,true,true,false,false,true,true,true,true,true,true,true,true,true,true,false,false,false,false,false,false] #[true,true,true,true,true,true,true,true,true,true,false,true,true,true,true,true,false,false,true,true,true,true,true,true,true,true,true,true,true,false,false,false,false,false] rfl rfl rfl rfl (two_of HT_.out (by kernel_rfl)) (by decide) (by decide) (fun K hK=>?_) (fun K hK=>?_)
       ·skip
        try (obtain ⟨wc,hwc⟩ : ∃ z,wr.drew=z:=⟨_,rfl⟩;rw [hwc] at HW ⊢;clear hwc)
        have q0:=keepc HW.out FX.out.1;have q1:=keepc HW.out FX.out.2.1;have q2:=keepc HW.out FX.out.2.2;refine value_ (w1:=?_) (v:=?_) (by rfl) rfl ?_ ?_;rotate_left 2
        ·go_simp
         constructor
         ·rfl
         ·rfl
        clear q0 q1 q2;refine hK.out _ _ (kE HW.out ZZ.out) (fun hHeld=>?_);clear hK K;refine nZ ?_;refine two_ (i:=16) (j:=28) (Ni:=some 70) (Nj:=some 82) #[true,true,true,true,true,true,true,true,true,true,true,true,true,true,true,true,true,false,true,true,true,true,true,true,true,true,true,true,false,false,false,false,false,false] #[true,true,true,true,true,true,true,true,true,true,true,true,true,true,true,true,false,false,true,true,true,true,true,true,true,true,true,true,true,false,false,false,false,false] rfl rfl rfl rfl (two_of HT_.out (by kernel_rfl)) (by decide) (by decide) (fun K hK=>?_) (fun K hK=>?_)
        ·skip
         try (obtain ⟨wc,hwc⟩ : ∃ z,wr.drew=z:=⟨_,rfl⟩;rw [hwc] at HW ⊢;clear hwc)
         refine value_ (w1:=?_) (v:=?_) (by rfl) rfl ?_ ?_;rotate_left 2
         ·go_simp
          constructor
          ·rfl
          ·rfl
         obtain ⟨ga,hga⟩ : ∃ g,wc.heap.size=g:=⟨_,rfl⟩;have H16 : Aside0 (Kd.C k63 (wc.alloc (.cells #[.bool x.f0,.slice K1 x.f1.length k1,.slice K2 x.f2.length k2,.bool u.f0,.slice M1 u.f1.length m1,.slice M2 u.f2.length m2] 63)) (some ⟨ga,0,none⟩) 2 [x,u]):=⟨by rw [← hga];exact pair_lit (k63.K_below HW.out KX.out) (k63.K_below HW.out KU.out)⟩;rw [hga];clear hga;have HA_ : Below wc.heap.size wc (wc.alloc (.cells #[.bool x.f0,.slice K1 x.f1.length k1,.slice K2 x.f2.length k2,.bool u.f0,.slice M1 u.f1.length m1,.slice M2 u.f2.length m2] 63)):=below_alloc (Below.refl _ _) _;replace HW:=Aside0.mk (below_step HW.out HA_)
         try replace H28:=Aside0.mk (Kd.C_below H28.out HA_)
         obtain ⟨wc,hwd⟩ : ∃ wd,wc.alloc (.cells #[.bool x.f0,.slice K1 x.f1.length k1,.slice K2 x.f2.length k2,.bool u.f0,.slice M1 u.f1.length m1,.slice M2 u.f2.length m2] 63)=wd:=⟨_,rfl⟩;rw [hwd] at HW H16 ⊢
         try rw [hwd] at H28
         clear HA_ hwd;refine hK.out _ _ (kE HW.out ZZ.out) (fun hHeld=>?_);clear hK K;refine nZ ?_;refine two_ (i:=17) (j:=28) (Ni:=some 71) (Nj:=some 82) #[true,true,true,true,true,true,true,true,true,true,true,true,true,true,true,true,true,true,true,true,true,true,true,true,true,true,true,true,false,false,false,false,false,false] #[true,true,true,true,true,true,true,true,true,true,true,true,true,true,true,true,true,false,true,true,true,true,true,true,true,true,true,true,true,false,false,false,false,false] rfl rfl rfl rfl (two_of HT_.out (by kernel_rfl)) (by decide) (by decide) (fun K hK=>?_) (fun K hK=>?_)
         ·skip
          try (obtain ⟨wc,hwc⟩ : ∃ z,wr.drew=z:=⟨_,rfl⟩;rw [hwc] at HW ⊢;clear hwc)
          refine goes_ Try.func27 (by kernel_rfl) rfl #[.slice (some ⟨ga,0,none⟩) 2 2] (by rfl) rfl rfl (by simp only [List.map_toArray,List.map_cons,List.map_nil];rfl) ?_
          with_reducible refine (SX.out.go H16.out).mono ?_
          rintro e wc ⟨P1,p1,P2,p2,rfl,hxk,hb⟩;refine ⟨_,rfl,?_⟩;have H17:=Aside0.mk hxk;replace HW:=Aside0.mk (below_step HW.out hb)
          try replace H28:=Aside0.mk (Kd.C_below H28.out hb)
          clear hxk hb;refine hK.out _ _ (kE HW.out ZZ.out) (fun hHeld=>?_);clear hK K;refine nZ ?_
          refine oN 28 (some 82) rfl rfl fun K hK=>?_
          try (obtain ⟨wc,hwc⟩ : ∃ z,wr.drew=z:=⟨_,rfl⟩;rw [hwc] at HW ⊢;clear hwc)
          refine value_ (w1:=?_) (v:=?_) (by rfl) rfl ?_ ?_;rotate_left 2
          ·go_simp
           constructor
           ·rfl
           ·rfl
          obtain ⟨gb,hga⟩ : ∃ g,wc.heap.size=g:=⟨_,rfl⟩;have H28 : Aside0 (Kd.C k63 (wc.alloc (.cells #[.bool y.f0,.slice N1 y.f1.length n1,.slice N2 y.f2.length n2,.bool v.f0,.slice O1 v.f1.length o1,.slice O2 v.f2.length o2] 63)) (some ⟨gb,0,none⟩) 2 [y,v]):=⟨by rw [← hga];exact pair_lit (k63.K_below HW.out KY.out) (k63.K_below HW.out KV.out)⟩;rw [hga];clear hga;have HA_ : Below wc.heap.size wc (wc.alloc (.cells #[.bool y.f0,.slice N1 y.f1.length n1,.slice N2 y.f2.length n2,.bool v.f0,.slice O1 v.f1.length o1,.slice O2 v.f2.length o2] 63)):=below_alloc (Below.refl _ _) _;replace HW:=Aside0.mk (below_step HW.out HA_)
          try replace H16:=Aside0.mk (Kd.C_below H16.out HA_)
          try replace H17:=Aside0.mk (H17.out.below HA_)
          obtain ⟨wc,hwd⟩ : ∃ wd,wc.alloc (.cells #[.bool y.f0,.slice N1 y.f1.length n1,.slice N2 y.f2.length n2,.bool v.f0,.slice O1 v.f1.length o1,.slice O2 v.f2.length o2] 63)=wd:=⟨_,rfl⟩;rw [hwd] at HW H28 ⊢
          try rw [hwd] at H16
          try rw [hwd] at H17
          clear HA_ hwd;refine hK.out _ _ (kE HW.out ZZ.out) (fun hHeld=>?_);clear hK K;refine nZ ?_;exact norm_ (by simp only [putAll,Act.put,s0,s1,s2]) (hCont (ga,gb,P1,p1,P2,p2) _ ⟨hHeld,HW.out,H17.out,H28.out⟩)
         ·skip
          try (obtain ⟨wc,hwc⟩ : ∃ z,wr.drew=z:=⟨_,rfl⟩;rw [hwc] at HW ⊢;clear hwc)
          refine value_ (w1:=?_) (v:=?_) (by rfl) rfl ?_ ?_;rotate_left 2
          ·go_simp
           constructor
           ·rfl
           ·rfl
          obtain ⟨gb,hga⟩ : ∃ g,wc.heap.size=g:=⟨_,rfl⟩;have H28 : Aside0 (Kd.C k63 (wc.alloc (.cells #[.bool y.f0,.slice N1 y.f1.length n1,.slice N2 y.f2.length n2,.bool v.f0,.slice O1 v.f1.length o1,.slice O2 v.f2.length o2] 63)) (some ⟨gb,0,none⟩) 2 [y,v]):=⟨by rw [← hga];exact pair_lit (k63.K_below HW.out KY.out) (k63.K_below HW.out KV.out)⟩;rw [hga];clear hga;have HA_ : Below wc.heap.size wc (wc.alloc (.cells #[.bool y.f0,.slice N1 y.f1.length n1,.slice N2 y.f2.length n2,.bool v.f0,.slice O1 v.f1.length o1,.slice O2 v.f2.length o2] 63)):=below_alloc (Below.refl _ _) _;replace HW:=Aside0.mk (below_step HW.out HA_)
          try replace H16:=Aside0.mk (Kd.C_below H16.out HA_)
          try replace H17:=Aside0.mk (H17.out.below HA_)
          obtain ⟨wc,hwd⟩ : ∃ wd,wc.alloc (.cells #[.bool y.f0,.slice N1 y.f1.length n1,.slice N2 y.f2.length n2,.bool v.f0,.slice O1 v.f1.length o1,.slice O2 v.f2.length o2] 63)=wd:=⟨_,rfl⟩;rw [hwd] at HW H28 ⊢
          try rw [hwd] at H16
          try rw [hwd] at H17
          clear HA_ hwd;refine hK.out _ _ (kE HW.out ZZ.out) (fun hHeld=>?_);clear hK K;refine nZ ?_
          refine oN 17 (some 71) rfl rfl fun K hK=>?_
          try (obtain ⟨wc,hwc⟩ : ∃ z,wr.drew=z:=⟨_,rfl⟩;rw [hwc] at HW ⊢;clear hwc)
          refine goes_ Try.func27 (by kernel_rfl) rfl #[.slice (some ⟨ga,0,none⟩) 2 2] (by rfl) rfl rfl (by simp only [List.map_toArray,List.map_cons,List.map_nil];rfl) ?_
          with_reducible refine (SX.out.go H16.out).mono ?_
          rintro e wc ⟨P1,p1,P2,p2,rfl,hxk,hb⟩;refine ⟨_,rfl,?_⟩;have H17:=Aside0.mk hxk;replace HW:=Aside0.mk (below_step HW.out hb)
          try replace H28:=Aside0.mk (Kd.C_below H28.out hb)
          clear hxk hb;refine hK.out _ _ (kE HW.out ZZ.out) (fun hHeld=>?_);clear hK K;refine nZ ?_;exact norm_ (by simp only [putAll,Act.put,s0,s1,s2]) (hCont (ga,gb,P1,p1,P2,p2) _ ⟨hHeld,HW.out,H17.out,H28.out⟩)
        ·skip
         try (obtain ⟨wc,hwc⟩ : ∃ z,wr.drew=z:=⟨_,rfl⟩;rw [hwc] at HW ⊢;clear hwc)
         refine value_ (w1:=?_) (v:=?_) (by rfl) rfl ?_ ?_;rotate_left 2
         ·go_simp
          constructor
          ·rfl
          ·rfl
         obtain ⟨gb,hga⟩ : ∃ g,wc.heap.size=g:=⟨_,rfl⟩;have H28 : Aside0 (Kd.C k63 (wc.alloc (.cells #[.bool y.f0,.slice N1 y.f1.length n1,.slice N2 y.f2.length n2,.bool v.f0,.slice O1 v.f1.length o1,.slice O2 v.f2.length o2] 63)) (some ⟨gb,0,none⟩) 2 [y,v]):=⟨by rw [← hga];exact pair_lit (k63.K_below HW.out KY.out) (k63.K_below HW.out KV.out)⟩;rw [hga];clear hga;have HA_ : Below wc.heap.size wc (wc.alloc (.cells #[.bool y.f0,.slice N1 y.f1.length n1,.slice N2 y.f2.length n2,.bool v.f0,.slice O1 v.f1.length o1,.slice O2 v.f2.length o2] 63)):=below_alloc (Below.refl _ _) _;replace HW:=Aside0.mk (below_step HW.out HA_)
         try replace H16:=Aside0.mk (Kd.C_below H16.out HA_)
         try replace H17:=Aside0.mk (H17.out.below HA_)
         obtain ⟨wc,hwd⟩ : ∃ wd,wc.alloc (.cells #[.bool y.f0,.slice N1 y.f1.length n1,.slice N2 y.f2.length n2,.bool v.f0,.slice O1 v.f1.length o1,.slice O2 v.f2.length o2] 63)=wd:=⟨_,rfl⟩;rw [hwd] at HW H28 ⊢
         try rw [hwd] at H16
         try rw [hwd] at H17
         clear HA_ hwd;refine hK.out _ _ (kE HW.out ZZ.out) (fun hHeld=>?_);clear hK K;refine nZ ?_
         refine oN 16 (some 70) rfl rfl fun K hK=>?_
         try (obtain ⟨wc,hwc⟩ : ∃ z,wr.drew=z:=⟨_,rfl⟩;rw [hwc] at HW ⊢;clear hwc)
         refine value_ (w1:=?_) (v:=?_) (by rfl) rfl ?_ ?_;rotate_left 2
         ·go_simp
          constructor
          ·rfl
          ·rfl
         obtain ⟨ga,hga⟩ : ∃ g,wc.heap.size=g:=⟨_,rfl⟩;have H16 : Aside0 (Kd.C k63 (wc.alloc (.cells #[.bool x.f0,.slice K1 x.f1.length k1,.slice K2 x.f2.length k2,.bool u.f0,.slice M1 u.f1.length m1,.slice M2 u.f2.length m2] 63)) (some ⟨ga,0,none⟩) 2 [x,u]):=⟨by rw [← hga];exact pair_lit (k63.K_below HW.out KX.out) (k63.K_below HW.out KU.out)⟩;rw [hga];clear hga;have HA_ : Below wc.heap.size wc (wc.alloc (.cells #[.bool x.f0,.slice K1 x.f1.length k1,.slice K2 x.f2.length k2,.bool u.f0,.slice M1 u.f1.length m1,.slice M2 u.f2.length m2] 63)):=below_alloc (Below.refl _ _) _;replace HW:=Aside0.mk (below_step HW.out HA_)
         try replace H28:=Aside0.mk (Kd.C_below H28.out HA_)
         obtain ⟨wc,hwd⟩ : ∃ wd,wc.alloc (.cells #[.bool x.f0,.slice K1 x.f1.length k1,.slice K2 x.f2.length k2,.bool u.f0,.slice M1 u.f1.length m1,.slice M2 u.f2.length m2] 63)=wd:=⟨_,rfl⟩;rw [hwd] at HW H16 ⊢
         try rw [hwd] at H28
         clear HA_ hwd;refine hK.out _ _ (kE HW.out ZZ.out) (fun hHeld=>?_);clear hK K;refine nZ ?_
         refine oN 17 (some 71) rfl rfl fun K hK=>?_
         try (obtain ⟨wc,hwc⟩ : ∃ z,wr.drew=z:=⟨_,rfl⟩;rw [hwc] at HW ⊢;clear hwc)
         refine goes_ Try.func27 (by kernel_rfl) rfl #[.slice (some ⟨ga,0,none⟩) 2 2] (by rfl) rfl rfl (by simp only [List.map_toArray,List.map_cons,List.map_nil];rfl) ?_
         with_reducible refine (SX.out.go H16.out).mono ?_
         rintro e wc ⟨P1,p1,P2,p2,rfl,hxk,hb⟩;refine ⟨_,rfl,?_⟩;have H17:=Aside0.mk hxk;replace HW:=Aside0.mk (below_step HW.out hb)
         try replace H28:=Aside0.mk (Kd.C_below H28.out hb)
         clear hxk hb;refine hK.out _ _ (kE HW.out ZZ.out) (fun hHeld=>?_);clear hK K;refine nZ ?_;exact norm_ (by simp only [putAll,Act.put,s0,s1,s2]) (hCont (ga,gb,P1,p1,P2,p2) _ ⟨hHeld,HW.out,H17.out,H28.out⟩)
       ·skip
        try (obtain ⟨wc,hwc⟩ : ∃ z,wr.drew=z:=⟨_,rfl⟩;rw [hwc] at HW ⊢;clear hwc)
        refine value_ (w1:=?_) (v:=?_) (by rfl) rfl ?_ ?_;rotate_left 2
        ·go_simp
         constructor
         ·rfl
         ·rfl
        obtain ⟨gb,hga⟩ : ∃ g,wc.heap.size=g:=⟨_,rfl⟩;have H28 : Aside0 (Kd.C k63 (wc.alloc (.cells #[.bool y.f0,.slice N1 y.f1.length n1,.slice N2 y.f2.length n2,.bool v.f0,.slice O1 v.f1.length o1,.slice O2 v.f2.length o2] 63)) (some ⟨gb,0,none⟩) 2 [y,v]):=⟨by rw [← hga];exact pair_lit (k63.K_below HW.out KY.out) (k63.K_below HW.out KV.out)⟩;rw [hga];clear hga;have HA_ : Below wc.heap.size wc (wc.alloc (.cells #[.bool y.f0,.slice N1 y.f1.length n1,.slice N2 y.f2.length n2,.bool v.f0,.slice O1 v.f1.length o1,.slice O2 v.f2.length o2] 63)):=below_alloc (Below.refl _ _) _;replace HW:=Aside0.mk (below_step HW.out HA_)
        try replace H16:=Aside0.mk (Kd.C_below H16.out HA_)
        try replace H17:=Aside0.mk (H17.out.below HA_)
        obtain ⟨wc,hwd⟩ : ∃ wd,wc.alloc (.cells #[.bool y.f0,.slice N1 y.f1.length n1,.slice N2 y.f2.length n2,.bool v.f0,.slice O1 v.f1.length o1,.slice O2 v.f2.length o2] 63)=wd:=⟨_,rfl⟩;rw [hwd] at HW H28 ⊢
        try rw [hwd] at H16
        try rw [hwd] at H17
        clear HA_ hwd;refine hK.out _ _ (kE HW.out ZZ.out) (fun hHeld=>?_);clear hK K;refine nZ ?_
        refine oN 10 (some 64) rfl rfl fun K hK=>?_
        try (obtain ⟨wc,hwc⟩ : ∃ z,wr.drew=z:=⟨_,rfl⟩;rw [hwc] at HW ⊢;clear hwc)
        have q0:=keepc HW.out FX.out.1;have q1:=keepc HW.out FX.out.2.1;have q2:=keepc HW.out FX.out.2.2;refine value_ (w1:=?_) (v:=?_) (by rfl) rfl ?_ ?_;rotate_left 2
        ·go_simp
         constructor
         ·rfl
         ·rfl
        clear q0 q1 q2;refine hK.out _ _ (kE HW.out ZZ.out) (fun hHeld=>?_);clear hK K;refine nZ ?_
        refine oN 16 (some 70) rfl rfl fun K hK=>?_
        try (obtain ⟨wc,hwc⟩ : ∃ z,wr.drew=z:=⟨_,rfl⟩;rw [hwc] at HW ⊢;clear hwc)
        refine value_ (w1:=?_) (v:=?_) (by rfl) rfl ?_ ?_;rotate_left 2
        ·go_simp
         constructor
         ·rfl
         ·rfl
        obtain ⟨ga,hga⟩ : ∃ g,wc.heap.size=g:=⟨_,rfl⟩;have H16 : Aside0 (Kd.C k63 (wc.alloc (.cells #[.bool x.f0,.slice K1 x.f1.length k1,.slice K2 x.f2.length k2,.bool u.f0,.slice M1 u.f1.length m1,.slice M2 u.f2.length m2] 63)) (some ⟨ga,0,none⟩) 2 [x,u]):=⟨by rw [← hga];exact pair_lit (k63.K_below HW.out KX.out) (k63.K_below HW.out KU.out)⟩;rw [hga];clear hga;have HA_ : Below wc.heap.size wc (wc.alloc (.cells #[.bool x.f0,.slice K1 x.f1.length k1,.slice K2 x.f2.length k2,.bool u.f0,.slice M1 u.f1.length m1,.slice M2 u.f2.length m2] 63)):=below_alloc (Below.refl _ _) _;replace HW:=Aside0.mk (below_step HW.out HA_)
        try replace H28:=Aside0.mk (Kd.C_below H28.out HA_)
        obtain ⟨wc,hwd⟩ : ∃ wd,wc.alloc (.cells #[.bool x.f0,.slice K1 x.f1.length k1,.slice K2 x.f2.length k2,.bool u.f0,.slice M1 u.f1.length m1,.slice M2 u.f2.length m2] 63)=wd:=⟨_,rfl⟩;rw [hwd] at HW H16 ⊢
        try rw [hwd] at H28
        clear HA_ hwd;refine hK.out _ _ (kE HW.out ZZ.out) (fun hHeld=>?_);clear hK K;refine nZ ?_
        refine oN 17 (some 71) rfl rfl fun K hK=>?_
        try (obtain ⟨wc,hwc⟩ : ∃ z,wr.drew=z:=⟨_,rfl⟩;rw [hwc] at HW ⊢;clear hwc)
        refine goes_ Try.func27 (by kernel_rfl) rfl #[.slice (some ⟨ga,0,none⟩) 2 2] (by rfl) rfl rfl (by simp only [List.map_toArray,List.map_cons,List.map_nil];rfl) ?_
        with_reducible refine (SX.out.go H16.out).mono ?_
        rintro e wc ⟨P1,p1,P2,p2,rfl,hxk,hb⟩;refine ⟨_,rfl,?_⟩;have H17:=Aside0.mk hxk;replace HW:=Aside0.mk (below_step HW.out hb)
        try replace H28:=Aside0.mk (Kd.C_below H28.out hb)
        clear hxk hb;refine hK.out _ _ (kE HW.out ZZ.out) (fun hHeld=>?_);clear hK K;refine nZ ?_;exact norm_ (by simp only [putAll,Act.put,s0,s1,s2]) (hCont (ga,gb,P1,p1,P2,p2) _ ⟨hHeld,HW.out,H17.out,H28.out⟩)
      rintro ⟨ga,gb,P1,p1,P2,p2⟩ wc ⟨hHeld,h1,h2,h3⟩;replace HW:=Aside0.mk h1;have H17:=Aside0.mk h2;have H28:=Aside0.mk h3;clear h1 h2 h3;refine norm_ (a':=?_) ?_ ?_;rotate_left
      ·simp only [putAll,Act.put,s0,s1,s2]
       rfl
      refine oN 29 (some 83) rfl rfl fun K hK=>?_
      refine goes_ Try.func27 (by kernel_rfl) rfl #[.slice (some ⟨gb,0,none⟩) 2 2] (by rfl) rfl rfl (by simp only [List.map_toArray,List.map_cons,List.map_nil];rfl) ?_
      with_reducible refine (SY.out.go H28.out).mono ?_
      rintro e wc ⟨Q1,q1,Q2,q2,rfl,hxk,hb⟩;refine ⟨_,rfl,?_⟩;have H29:=Aside0.mk hxk;replace HW:=Aside0.mk (below_step HW.out hb);replace H17:=Aside0.mk (H17.out.below hb);clear hxk hb H28;clear hHeld;refine hK.out _ _ (kE HW.out ZZ.out) (fun hHeld=>?_);clear hK K;refine nZ ?_;refine zp 30 84 ?_
      refine oN 31 (none) rfl rfl fun K hK=>?_
      have q0:=keepc HW.out FX.out.1;have q1:=keepc HW.out FX.out.2.1;have q2:=keepc HW.out FX.out.2.2;have q3:=(HO.out.1.below HW.out).free (i * 3);have q4:=next_cells (a:=.bool X.f0) (b:=.slice P1 X.f1.length p1) q1 q2;refine skip_ (w1:=?_) (by rfl) rfl ?_ ?_;rotate_left
      ·go_simp
       rfl
      clear q0 q1 q2 q3 q4;have HB2 : Aside0 (Below w.heap.size w (((wc.setCell (ad.add (i * 3)) (.bool X.f0)).setCell ⟨(ad.add (i * 3)).block,(ad.add (i * 3)).off+1,none⟩ (.slice P1 X.f1.length p1)).setCell ⟨(ad.add (i * 3)).block,(ad.add (i * 3)).off+2,none⟩ (.slice P2 X.f2.length p2))∧(((wc.setCell (ad.add (i * 3)) (.bool X.f0)).setCell ⟨(ad.add (i * 3)).block,(ad.add (i * 3)).off+1,none⟩ (.slice P1 X.f1.length p1)).setCell ⟨(ad.add (i * 3)).block,(ad.add (i * 3)).off+2,none⟩ (.slice P2 X.f2.length p2)).heap[w.heap.size]? = some (.cells #[.int .i64 0,.int .i64 0,.int .i64 0,.slice none 0 0,.slice none 0 0] 27 (0,0))∧(((wc.setCell (ad.add (i * 3)) (.bool X.f0)).setCell ⟨(ad.add (i * 3)).block,(ad.add (i * 3)).off+1,none⟩ (.slice P1 X.f1.length p1)).setCell ⟨(ad.add (i * 3)).block,(ad.add (i * 3)).off+2,none⟩ (.slice P2 X.f2.length p2)).heap[w.heap.size+1]? = some (.cells #[.int .i64 W,.int .i64 h,.int .i64 b,.slice (some ad) M c,.slice (some ad2) M c2] 27 (0,0))∧(((wc.setCell (ad.add (i * 3)) (.bool X.f0)).setCell ⟨(ad.add (i * 3)).block,(ad.add (i * 3)).off+1,none⟩ (.slice P1 X.f1.length p1)).setCell ⟨(ad.add (i * 3)).block,(ad.add (i * 3)).off+2,none⟩ (.slice P2 X.f2.length p2)).heap[g6]? = some (.cells #[.int .i64 W,.int .i64 h,.int .i64 b,.slice (some ad3) M c3,.slice (some ad4) M c4] 27 (0,0))):=⟨low_st3 (below_step HB.out.1 HW.out) (by rw [add_block];exact HO.out.1.from_) _ _ _,blk_st3 (blk_below HB.out.2.1 HW.out) (blk_ne HO.out.1 HB.out.2.1 (by decide) _),blk_st3 (blk_below HB.out.2.2.1 HW.out) NE.out.1,blk_st3 (blk_below HB.out.2.2.2 HW.out) NE.out.2.2.2.2⟩
      have HO2 : Aside0 (ORow (((wc.setCell (ad.add (i * 3)) (.bool X.f0)).setCell ⟨(ad.add (i * 3)).block,(ad.add (i * 3)).off+1,none⟩ (.slice P1 X.f1.length p1)).setCell ⟨(ad.add (i * 3)).block,(ad.add (i * 3)).off+2,none⟩ (.slice P2 X.f2.length p2)) w.heap.size ad c ((mixQ (i+1) p.a q.a).map mkR)∧ORow (((wc.setCell (ad.add (i * 3)) (.bool X.f0)).setCell ⟨(ad.add (i * 3)).block,(ad.add (i * 3)).off+1,none⟩ (.slice P1 X.f1.length p1)).setCell ⟨(ad.add (i * 3)).block,(ad.add (i * 3)).off+2,none⟩ (.slice P2 X.f2.length p2)) w.heap.size ad2 c2 ((mixQ i p.b q.b).map mkR)∧XK (((wc.setCell (ad.add (i * 3)) (.bool X.f0)).setCell ⟨(ad.add (i * 3)).block,(ad.add (i * 3)).off+1,none⟩ (.slice P1 X.f1.length p1)).setCell ⟨(ad.add (i * 3)).block,(ad.add (i * 3)).off+2,none⟩ (.slice P2 X.f2.length p2)) Y [.bool Y.f0,.slice Q1 Y.f1.length q1,.slice Q2 Y.f2.length q2]):=⟨by rw [← TA.out.2];exact (HO.out.1.below HW.out).store TA.out.1 H17.out,(HO.out.2.1.below HW.out).beside (HO.out.1.below HW.out) HO.out.2.2 i _ _ _,XK.st3 H29.out (HO.out.1.below HW.out) (i * 3) _ _ _⟩;have HH : Aside0 ((((wc.setCell (ad.add (i * 3)) (.bool X.f0)).setCell ⟨(ad.add (i * 3)).block,(ad.add (i * 3)).off+1,none⟩ (.slice P1 X.f1.length p1)).setCell ⟨(ad.add (i * 3)).block,(ad.add (i * 3)).off+2,none⟩ (.slice P2 X.f2.length p2)).cell? ⟨w.heap.size+1,3,none⟩=some (.slice (some ad) M c)∧(((wc.setCell (ad.add (i * 3)) (.bool X.f0)).setCell ⟨(ad.add (i * 3)).block,(ad.add (i * 3)).off+1,none⟩ (.slice P1 X.f1.length p1)).setCell ⟨(ad.add (i * 3)).block,(ad.add (i * 3)).off+2,none⟩ (.slice P2 X.f2.length p2)).cell? ⟨w.heap.size+1,4,none⟩=some (.slice (some ad2) M c2)∧(((wc.setCell (ad.add (i * 3)) (.bool X.f0)).setCell ⟨(ad.add (i * 3)).block,(ad.add (i * 3)).off+1,none⟩ (.slice P1 X.f1.length p1)).setCell ⟨(ad.add (i * 3)).block,(ad.add (i * 3)).off+2,none⟩ (.slice P2 X.f2.length p2)).cell? ⟨g6,3,none⟩=some (.slice (some ad3) M c3)∧(((wc.setCell (ad.add (i * 3)) (.bool X.f0)).setCell ⟨(ad.add (i * 3)).block,(ad.add (i * 3)).off+1,none⟩ (.slice P1 X.f1.length p1)).setCell ⟨(ad.add (i * 3)).block,(ad.add (i * 3)).off+2,none⟩ (.slice P2 X.f2.length p2)).cell? ⟨g6,4,none⟩=some (.slice (some ad4) M c4)∧(((wc.setCell (ad.add (i * 3)) (.bool X.f0)).setCell ⟨(ad.add (i * 3)).block,(ad.add (i * 3)).off+1,none⟩ (.slice P1 X.f1.length p1)).setCell ⟨(ad.add (i * 3)).block,(ad.add (i * 3)).off+2,none⟩ (.slice P2 X.f2.length p2)).cell? (ad3.add (i * 3))=some (.bool u.f0)∧(((wc.setCell (ad.add (i * 3)) (.bool X.f0)).setCell ⟨(ad.add (i * 3)).block,(ad.add (i * 3)).off+1,none⟩ (.slice P1 X.f1.length p1)).setCell ⟨(ad.add (i * 3)).block,(ad.add (i * 3)).off+2,none⟩ (.slice P2 X.f2.length p2)).cell? ⟨(ad3.add (i * 3)).block,(ad3.add (i * 3)).off+1,none⟩=some (.slice M1 u.f1.length m1)∧(((wc.setCell (ad.add (i * 3)) (.bool X.f0)).setCell ⟨(ad.add (i * 3)).block,(ad.add (i * 3)).off+1,none⟩ (.slice P1 X.f1.length p1)).setCell ⟨(ad.add (i * 3)).block,(ad.add (i * 3)).off+2,none⟩ (.slice P2 X.f2.length p2)).cell? ⟨(ad3.add (i * 3)).block,(ad3.add (i * 3)).off+2,none⟩=some (.slice M2 u.f2.length m2)∧(((wc.setCell (ad.add (i * 3)) (.bool X.f0)).setCell ⟨(ad.add (i * 3)).block,(ad.add (i * 3)).off+1,none⟩ (.slice P1 X.f1.length p1)).setCell ⟨(ad.add (i * 3)).block,(ad.add (i * 3)).off+2,none⟩ (.slice P2 X.f2.length p2)).cell? (ad2.add (i * 3))=some (.bool y.f0)∧(((wc.setCell (ad.add (i * 3)) (.bool X.f0)).setCell ⟨(ad.add (i * 3)).block,(ad.add (i * 3)).off+1,none⟩ (.slice P1 X.f1.length p1)).setCell ⟨(ad.add (i * 3)).block,(ad.add (i * 3)).off+2,none⟩ (.slice P2 X.f2.length p2)).cell? ⟨(ad2.add (i * 3)).block,(ad2.add (i * 3)).off+1,none⟩=some (.slice N1 y.f1.length n1)∧(((wc.setCell (ad.add (i * 3)) (.bool X.f0)).setCell ⟨(ad.add (i * 3)).block,(ad.add (i * 3)).off+1,none⟩ (.slice P1 X.f1.length p1)).setCell ⟨(ad.add (i * 3)).block,(ad.add (i * 3)).off+2,none⟩ (.slice P2 X.f2.length p2)).cell? ⟨(ad2.add (i * 3)).block,(ad2.add (i * 3)).off+2,none⟩=some (.slice N2 y.f2.length n2)∧(((wc.setCell (ad.add (i * 3)) (.bool X.f0)).setCell ⟨(ad.add (i * 3)).block,(ad.add (i * 3)).off+1,none⟩ (.slice P1 X.f1.length p1)).setCell ⟨(ad.add (i * 3)).block,(ad.add (i * 3)).off+2,none⟩ (.slice P2 X.f2.length p2)).cell? (ad4.add (i * 3))=some (.bool v.f0)∧(((wc.setCell (ad.add (i * 3)) (.bool X.f0)).setCell ⟨(ad.add (i * 3)).block,(ad.add (i * 3)).off+1,none⟩ (.slice P1 X.f1.length p1)).setCell ⟨(ad.add (i * 3)).block,(ad.add (i * 3)).off+2,none⟩ (.slice P2 X.f2.length p2)).cell? ⟨(ad4.add (i * 3)).block,(ad4.add (i * 3)).off+1,none⟩=some (.slice O1 v.f1.length o1)∧(((wc.setCell (ad.add (i * 3)) (.bool X.f0)).setCell ⟨(ad.add (i * 3)).block,(ad.add (i * 3)).off+1,none⟩ (.slice P1 X.f1.length p1)).setCell ⟨(ad.add (i * 3)).block,(ad.add (i * 3)).off+2,none⟩ (.slice P2 X.f2.length p2)).cell? ⟨(ad4.add (i * 3)).block,(ad4.add (i * 3)).off+2,none⟩=some (.slice O2 v.f2.length o2)):=⟨cell_st3 (keepc HW.out ZZ.out.1) NE.out.1,cell_st3 (keepc HW.out ZZ.out.2.1) NE.out.1,cell_st3 (keepc HW.out ZZ.out.2.2.1) NE.out.2.2.2.2,cell_st3 (keepc HW.out ZZ.out.2.2.2.1) NE.out.2.2.2.2,cell_st3 (keepc HW.out ZZ.out.2.2.2.2.1) NE.out.2.2.1,cell_st3 (keepc HW.out ZZ.out.2.2.2.2.2.1) NE.out.2.2.1,cell_st3 (keepc HW.out ZZ.out.2.2.2.2.2.2.1) NE.out.2.2.1,cell_st3 (keepc HW.out ZZ.out.2.2.2.2.2.2.2.1) NE.out.2.1,cell_st3 (keepc HW.out ZZ.out.2.2.2.2.2.2.2.2.1) NE.out.2.1,cell_st3 (keepc HW.out ZZ.out.2.2.2.2.2.2.2.2.2.1) NE.out.2.1,cell_st3 (keepc HW.out ZZ.out.2.2.2.2.2.2.2.2.2.2.1) NE.out.2.2.2.1,cell_st3 (keepc HW.out ZZ.out.2.2.2.2.2.2.2.2.2.2.2.1) NE.out.2.2.2.1,cell_st3 (keepc HW.out ZZ.out.2.2.2.2.2.2.2.2.2.2.2.2) NE.out.2.2.2.1⟩
      obtain ⟨wc,hwd⟩ : ∃ wd,((wc.setCell (ad.add (i * 3)) (.bool X.f0)).setCell ⟨(ad.add (i * 3)).block,(ad.add (i * 3)).off+1,none⟩ (.slice P1 X.f1.length p1)).setCell ⟨(ad.add (i * 3)).block,(ad.add (i * 3)).off+2,none⟩ (.slice P2 X.f2.length p2)=wd:=⟨_,rfl⟩;rw [hwd] at HB2 HO2 HH ⊢;clear hwd HW;refine hK.out _ _ HH.out (fun hHeld=>?_);clear hK K;refine zp 32 85 ?_
      refine lN 33 (none) rfl rfl fun K hK=>?_
      have q0:=HH.out.2.2.2.2.2.2.2.1;have k1_:=HH.out.2.2.2.2.2.2.2.2.1;have k2_:=HH.out.2.2.2.2.2.2.2.2.2.1;have q3:=HO2.out.2.1.free (i * 3);have q4:=next_cells (a:=.bool Y.f0) (b:=.slice Q1 Y.f1.length q1) k1_ k2_;refine skip_ (w1:=?_) (by rfl) rfl ?_ ?_;rotate_left
      ·go_simp
       rfl
      clear q4;refine hK.out _ _ ?_;clear hK K;refine dN ?_;have HB3 : Aside0 (Below w.heap.size w (((wc.setCell (ad2.add (i * 3)) (.bool Y.f0)).setCell ⟨(ad2.add (i * 3)).block,(ad2.add (i * 3)).off+1,none⟩ (.slice Q1 Y.f1.length q1)).setCell ⟨(ad2.add (i * 3)).block,(ad2.add (i * 3)).off+2,none⟩ (.slice Q2 Y.f2.length q2))∧(((wc.setCell (ad2.add (i * 3)) (.bool Y.f0)).setCell ⟨(ad2.add (i * 3)).block,(ad2.add (i * 3)).off+1,none⟩ (.slice Q1 Y.f1.length q1)).setCell ⟨(ad2.add (i * 3)).block,(ad2.add (i * 3)).off+2,none⟩ (.slice Q2 Y.f2.length q2)).heap[w.heap.size]? = some (.cells #[.int .i64 0,.int .i64 0,.int .i64 0,.slice none 0 0,.slice none 0 0] 27 (0,0))∧(((wc.setCell (ad2.add (i * 3)) (.bool Y.f0)).setCell ⟨(ad2.add (i * 3)).block,(ad2.add (i * 3)).off+1,none⟩ (.slice Q1 Y.f1.length q1)).setCell ⟨(ad2.add (i * 3)).block,(ad2.add (i * 3)).off+2,none⟩ (.slice Q2 Y.f2.length q2)).heap[w.heap.size+1]? = some (.cells #[.int .i64 W,.int .i64 h,.int .i64 b,.slice (some ad) M c,.slice (some ad2) M c2] 27 (0,0))∧(((wc.setCell (ad2.add (i * 3)) (.bool Y.f0)).setCell ⟨(ad2.add (i * 3)).block,(ad2.add (i * 3)).off+1,none⟩ (.slice Q1 Y.f1.length q1)).setCell ⟨(ad2.add (i * 3)).block,(ad2.add (i * 3)).off+2,none⟩ (.slice Q2 Y.f2.length q2)).heap[g6]? = some (.cells #[.int .i64 W,.int .i64 h,.int .i64 b,.slice (some ad3) M c3,.slice (some ad4) M c4] 27 (0,0))):=⟨low_st3 HB2.out.1 (by rw [add_block];exact HO2.out.2.1.from_) _ _ _,blk_st3 HB2.out.2.1 (blk_ne HO2.out.2.1 HB2.out.2.1 (by decide) _),blk_st3 HB2.out.2.2.1 (blk_ne HO2.out.2.1 HB2.out.2.2.1 (by decide) _),blk_st3 HB2.out.2.2.2 (blk_ne HO2.out.2.1 HB2.out.2.2.2 (by decide) _)⟩
      have HO3 : Aside0 (ORow (((wc.setCell (ad2.add (i * 3)) (.bool Y.f0)).setCell ⟨(ad2.add (i * 3)).block,(ad2.add (i * 3)).off+1,none⟩ (.slice Q1 Y.f1.length q1)).setCell ⟨(ad2.add (i * 3)).block,(ad2.add (i * 3)).off+2,none⟩ (.slice Q2 Y.f2.length q2)) w.heap.size ad c ((mixQ (i+1) p.a q.a).map mkR)∧ORow (((wc.setCell (ad2.add (i * 3)) (.bool Y.f0)).setCell ⟨(ad2.add (i * 3)).block,(ad2.add (i * 3)).off+1,none⟩ (.slice Q1 Y.f1.length q1)).setCell ⟨(ad2.add (i * 3)).block,(ad2.add (i * 3)).off+2,none⟩ (.slice Q2 Y.f2.length q2)) w.heap.size ad2 c2 ((mixQ (i+1) p.b q.b).map mkR)):=⟨HO2.out.1.beside HO2.out.2.1 (fun e=>HO.out.2.2 e.symm) i _ _ _,by rw [← TB.out.2];exact HO2.out.2.1.store TB.out.1 HO2.out.2.2⟩;obtain ⟨wc,hwd⟩ : ∃ wd,((wc.setCell (ad2.add (i * 3)) (.bool Y.f0)).setCell ⟨(ad2.add (i * 3)).block,(ad2.add (i * 3)).off+1,none⟩ (.slice Q1 Y.f1.length q1)).setCell ⟨(ad2.add (i * 3)).block,(ad2.add (i * 3)).off+2,none⟩ (.slice Q2 Y.f2.length q2)=wd:=⟨_,rfl⟩;rw [hwd] at HB3 HO3 ⊢;clear hwd
      go_wp2
      go_roundw
      case rel=>exact ⟨i+1,hil,by go_num,HB3,⟨HO3.out.1,HO3.out.2,HO.out.2.2⟩⟩
      case measure=>simp [intOf];omega
     ·obtain rfl : i=M:=by omega
      obtain ⟨la,lb⟩:=q_len hM HP.out.1;obtain ⟨lc',ld⟩:=q_len hM HFQ.out;rw [List.length_map] at la lb lc' ld
      have hil2 : decide ((i : Int) < (i : Int))=false:=by simp
      go_wp2
      go_roundw
      case rel=>exact ⟨j+1,hlt,by go_num,⟨HB.out.1,HB.out.2.1⟩,⟨.inr ⟨by omega,ad,c,ad2,c2,HB.out.2.2.1,lc,lc2,by
       rw [HP.out.2.1];have h1:=HO.out.1;have h2:=HO.out.2.1;rw [show mixQ i p.a q.a=List.zipWith (· + ·) p.a q.a by rw [← la];exact mixQ_all (by omega)] at h1;rw [show mixQ i p.b q.b=List.zipWith (· + ·) p.b q.b by rw [← lb];exact mixQ_all (by omega)] at h2
       exact ⟨h1,h2,HO.out.2.2⟩⟩⟩⟩
      case measure=>simp [intOf];omega
  ·obtain rfl : j=qs.length:=by omega
   obtain ⟨h0,ad,c,ad2,c2,b1,lc,lc2,hrows⟩ : 0 < qs.length ∧ ∃ ad c ad2 c2,wr.heap[w.heap.size+1]? = some (.cells #[.int .i64 W,.int .i64 h,.int .i64 b,.slice (some ad) M c,.slice (some ad2) M c2] 27 (0,0))∧M≤c∧M≤c2∧Rows wr w.heap.size (sumQ (qs.take qs.length)) ad c ad2 c2:=by
    have hn:=HN.out
    rcases HO.out with ⟨h,_⟩|h
    ·omega
    ·exact h
   rw [List.take_length] at hrows;have HRW:=Aside0.mk hrows;have B1:=Aside0.mk b1;have q0:=cells5 b1;have q1:=free5 HB.out.2;have q2:=cells5 HB.out.2;have cl : decide (0 < qs.length)=true:=decide_eq_true h0;clear HO hrows b1
   go_wp2
   refine bodyPost_ret (results_ct rfl _ _ w.heap.size 27 _ (0,0) _ rfl (put5 HB.out.2 _ _ _ _ _) Try.underlying27 rfl (by kernel_rfl)) rfl ⟨ad,c,ad2,c2,rfl,lc,lc2,HRW.out.tk (tk_set5 HB.out.2 (by decide) _ _ _ _ _ inferInstance),low5 HB.out.1 (Nat.le_refl _) _ _ _ _ _⟩
end Go.Proofs.Ytjiaobcoeegioaa.Pq
end
section
namespace Go.Proofs.Ytjiaobcoeegioaa.N
open Go Go.RowKit Go.Proofs.YtjiaobcoeegioaaW.PrintWords Go.Proofs.YtjiaobcoeegioaaW.PrintLast Go.Proofs.YtjiaobcoeegioaaW.PrintMore Go.Proofs.Ytjiaobcoeegioaa.Pq
def Apart (v v' : Value) : Prop:=v.ownBlock=none∨v.ownBlock≠v'.ownBlock
theorem Apart.symm {v v' : Value} (h : Apart v v') : Apart v' v:=by
 rcases h with h|h
 ·by_cases e : v'.ownBlock=none
  ·exact .inl e
  ·exact .inr (by rw [h];exact e)
 ·exact .inr (Ne.symm h)
section
variable {W w1 : World} {base : Nat} {v v' v1 : Value} {xs ys : List RatS} {inner : List Value} {n : Nat}
theorem FRow.other (h : FRow W base v' ys) (ho : W.slackRow base 63 3 v n inner) (hg : W.grownBy w1 v.ownBlock) (hne : Apart v' v) : FRow w1 base v' ys:=by
 obtain ⟨inn,ho',hr⟩:=h
 haveI : Tk [82] W w1:=tk_grown hg ho (by decide) W
 exact ⟨inn,own_other ho' hg hne,hr.up⟩
theorem Apart.grown (h : Apart v v') (hat : v1.ownBlock=v.ownBlock ∨ ∃ b,v1.ownBlock=some b∧W.heap.size≤b) (h' : FRow W base v' ys) : Apart v1 v':=by
 rcases hat with e|⟨b,e,hb⟩
 ·unfold Apart;rw [e];exact h
 ·refine .inr fun e2=>?_
  have:=h'.lt b (by rw [← e2,e]);omega
theorem blk_by {g t : Nat} {cs : Array Value} (hb : W.heap[g]? = some (.cells cs t (0,0))) (ho : W.slackRow base 63 3 v n inner) (hg : W.grownBy w1 v.ownBlock) (ht : 63≠t) : w1.heap[g]? = some (.cells cs t (0,0)) :=
 blk_grown hb hg (own_ne ho hb ht)
end
end Go.Proofs.Ytjiaobcoeegioaa.N
end
section
namespace Go.Proofs.Ytjiaobcoeegioaa.Pq
open Go.RowKit Go.Proofs.YtjiaobcoeegioaaW.PrintWords Go.Proofs.YtjiaobcoeegioaaW.PrintLast Go.Proofs.YtjiaobcoeegioaaW.PrintMore Go.Proofs.Ytjiaobcoeegioaa.N
open X
def zeroQ (M : Nat) : QF:=⟨List.replicate M 0,List.replicate M 0⟩
set_option maxHeartbeats 4000000 in
set_option maxRecDepth 100000 in
theorem new_sem {W h b : Int} {M : Nat} (hs : szs W h b=true) (hM : (M : Int)=W * h * b) (w : World) :
  Calls Try.prog 17 #[.int .i64 W,.int .i64 h,.int .i64 b] w fun e w'=>∃ ad c ad2 c2,e=.returned (.tuple #[.agg #[.int .i64 W,.int .i64 h,.int .i64 b,.slice (some ad) M c,.slice (some ad2) M c2],.bool true])∧M≤c∧M≤c2∧Rows w' w.heap.size (zeroQ M) ad c ad2 c2∧Below w.heap.size w w':=by
 have HE:=Aside0.mk (sizes_f W h b);rw [hs] at HE;have hp:=szs_prod hs;have hp1:=szs_pos hs
 have hm1 : M≤2048:=by omega
 obtain ⟨hw0,hw1⟩ : wrap64 (W * h)=W * h∧wrap64 (W * h * b)=(M : Int):=by
  rw [← hM];have h1:=hp.1;have h2:=hp.2.1;clear hp hp1 hs HE;unfold wrap64;omega
 go_enter Try.func17,Try.ntmps17
 go_wp2_with (first|(go_at_call 32;(with_reducible refine (film_sizes.calls W h b true _ HE.out).mono ?_);rintro e w1 ⟨rfl,⟨nd,rfl⟩⟩))
 have hB : Below w.heap.size w (((w.alloc (.cells #[.int .i64 0,.int .i64 0,.int .i64 0,.slice none 0 0,.slice none 0 0] 27)).drewN nd).alloc (.cells #[.int .i64 W,.int .i64 h,.int .i64 b,.slice none 0 0,.slice none 0 0] 27)):=below_alloc (pw_below_drewN (below_alloc (Below.refl _ _) _) _) _;have hB0 : (((w.alloc (.cells #[.int .i64 0,.int .i64 0,.int .i64 0,.slice none 0 0,.slice none 0 0] 27)).drewN nd).alloc (.cells #[.int .i64 W,.int .i64 h,.int .i64 b,.slice none 0 0,.slice none 0 0] 27)).heap[w.heap.size]? = some (.cells #[.int .i64 0,.int .i64 0,.int .i64 0,.slice none 0 0,.slice none 0 0] 27 (0,0)):=blk_alloc (blk_drewN (blk_new _ _) _) _
 have hB1 : (((w.alloc (.cells #[.int .i64 0,.int .i64 0,.int .i64 0,.slice none 0 0,.slice none 0 0] 27)).drewN nd).alloc (.cells #[.int .i64 W,.int .i64 h,.int .i64 b,.slice none 0 0,.slice none 0 0] 27)).heap[w.heap.size+1]? = some (.cells #[.int .i64 W,.int .i64 h,.int .i64 b,.slice none 0 0,.slice none 0 0] 27 (0,0)):=by
  have:=blk_new ((w.alloc (.cells #[.int .i64 0,.int .i64 0,.int .i64 0,.slice none 0 0,.slice none 0 0] 27)).drewN nd) (.cells #[.int .i64 W,.int .i64 h,.int .i64 b,.slice none 0 0,.slice none 0 0] 27)
  rwa [show ((w.alloc (.cells #[.int .i64 0,.int .i64 0,.int .i64 0,.slice none 0 0,.slice none 0 0] 27)).drewN nd).heap.size=w.heap.size+1 by simp] at this
 have HB0:=Aside0.mk (And.intro hB (And.intro hB0 hB1));clear hB hB0 hB1
 go_loopw [24] (fun x wr=>∃ (i : Nat) (va vb : Value),i≤M∧x=.int .i64 i∧Aside0 (Below w.heap.size w wr)∧Aside0 (wr.heap[w.heap.size]? = some (.cells #[.int .i64 0,.int .i64 0,.int .i64 0,.slice none 0 0,.slice none 0 0] 27 (0,0)))∧Aside0 (wr.heap[w.heap.size+1]? = some (.cells #[.int .i64 W,.int .i64 h,.int .i64 b,va,vb] 27 (0,0)))∧Aside0 (FRow wr w.heap.size va ((List.replicate i (0 : Rat)).map mkR)∧FRow wr w.heap.size vb ((List.replicate i (0 : Rat)).map mkR)∧Apart va vb)) (fun x _=>M - (intOf x).toNat)
 case atStart=>exact ⟨0,.slice none 0 0,.slice none 0 0,Nat.zero_le _,rfl,⟨HB0.out.1⟩,⟨HB0.out.2.1⟩,⟨HB0.out.2.2⟩,⟨FRow.nil _ _,FRow.nil _ _,.inl rfl⟩⟩
 case round =>
  clear HB0;obtain ⟨i,va,vb,hi,rfl,HB,B0,B1,HF⟩:=hrel
  by_cases hil : i < M
  ·have hil2 : decide ((i : Int) < (M : Int))=true:=decide_eq_true (by omega)
   obtain ⟨A3,c3,rfl,_⟩:=HF.out.1.slice_;obtain ⟨A4,c4,rfl,_⟩:=HF.out.2.1.slice_;rw [List.length_map,List.length_replicate] at HF B1
   go_upto_region 6 with fail
   obtain ⟨va,hva⟩ : ∃ z,(.slice A3 i c3 : Value)=z:=⟨_,rfl⟩;obtain ⟨vb,hvb⟩ : ∃ z,(.slice A4 i c4 : Value)=z:=⟨_,rfl⟩;rw [hva,hvb] at HF B1;refine sT (n:=7) (S:=fun w'=>w'.cell? ⟨w.heap.size+1,3,none⟩=some va) (ds:=[6]) (by kernel_rfl) rfl ((cells5 B1.out).2.2.2.1) (fun hHeld=>?_);refine zp 0 26 ?_;refine zt 1 27 ?_
   refine oN 2 (some 28) rfl rfl fun K hK=>?_
   refine goes_ Try.func29 (by kernel_rfl) rfl #[.int .i64 0,.int .i64 1] (by rfl) rfl rfl (by simp only [List.map_toArray,List.map_cons,List.map_nil];rfl) ?_
   with_reducible refine (of_sem 0 1 _ (by decide) (by decide) (by decide) (by decide)).mono ?_
   rintro e wc ⟨A1,c1,A2,c2,rfl,hx,hb⟩;refine ⟨_,rfl,?_⟩;rw [qv_zero (.inl rfl)] at hx ⊢;have HX:=Aside0.mk hx;have HB2:=Aside0.mk (below_step (below_drew1 HB.out) hb);have HF2:=Aside0.mk (And.intro (HF.out.1.up (below_step (below_drew1 (Below.refl _ _)) hb)) (HF.out.2.1.up (below_step (below_drew1 (Below.refl _ _)) hb)));have B02:=Aside0.mk (blk_below B0.out (below_step (below_drew1 (Below.refl _ _)) hb));have B12:=Aside0.mk (blk_below B1.out (below_step (below_drew1 (Below.refl _ _)) hb));clear hx hb;refine hK.out _ _ ((cells5 B12.out).2.2.2.1) (fun hHeld=>?_);clear hK K;refine nZ ?_
   refine oN 3 (some 29) rfl rfl fun K hK=>?_
   refine value_ (w1:=?_) (v:=?_) (by rfl) rfl ?_ ?_;rotate_left 2
   ·go_simp
    constructor
    ·rfl
    ·rfl
   refine hK.out _ _ ((cells5 (blk_alloc B12.out _)).2.2.2.1) (fun hHeld=>?_);clear hK K;refine nZ ?_
   refine oN 4 (some 30) rfl rfl fun K hK=>?_
   obtain ⟨inner,ho,hi_⟩:=HF2.out.1;refine step_append_cells (w0:=w) w.heap.size (by rfl) (.tmp 27) (.tmp 29) 25 63 (.agg #[.bool false,.slice none 0 0,.slice none 0 0]) 3 56 rfl Try.underlying25 info63 rfl (by decide) (by decide) _ _ inner [.bool (mkR 0).f0,.slice A1 (mkR 0).f1.length c1,.slice A2 (mkR 0).f2.length c2] rfl rfl rfl (k63.K_one (w:=wc) HX.out.now) ho HB2.out HB2.out.size (by rw [List.length_map,List.length_replicate];omega) ?_;intro vn wd hown hB3 hg hat;have hF3:=FRow.grown ho hi_ HX.out rfl hown hg;have hO3:=HF2.out.2.other ho hg HF.out.2.2.symm;have hA3 : Apart vn vb:=Apart.grown HF.out.2.2 hat HF2.out.2;rw [show (List.replicate i (0 : Rat)).map mkR++[mkR 0]=(List.replicate (i+1) (0 : Rat)).map mkR by rw [List.replicate_succ' (n:=i),List.map_append];rfl] at hF3;obtain ⟨A5,c5,e5,l5⟩:=hF3.slice_;subst e5;rw [List.length_map,List.length_replicate] at hF3 hA3 ⊢;have HF3:=Aside0.mk hF3;have HO3:=Aside0.mk hO3;have HA3:=Aside0.mk hA3;have HB3:=Aside0.mk hB3;have B03:=Aside0.mk (blk_by B02.out ho hg (by decide));have B13:=Aside0.mk (blk_by B12.out ho hg (by decide));clear hF3 hO3 hA3 hB3 ho hi_ hown hg hat l5;refine hK.out _ _ ((cells5 B13.out).2.2.2.1) (fun hHeld=>?_);clear hK K;refine nZ ?_;refine zp 5 31 ?_
   refine lN 6 (none) rfl rfl fun K hK=>?_
   have q0:=cells5 B13.out;have q1:=free5 B13.out;refine skip_ (w1:=?_) (by rfl) rfl ?_ ?_;rotate_left
   ·go_simp
    rfl
   clear q0 q1;refine hK.out _ _ ?_;clear hK K;refine dN ?_;have k1 : Tk [63,82] wd (wd.setCell ⟨w.heap.size+1,3,none⟩ (.slice A5 (i+1) c5)):=tk_set1 B13.out (by decide) 3 _ inferInstance;replace HF : Aside0 (FRow (wd.setCell ⟨w.heap.size+1,3,none⟩ (.slice A5 (i+1) c5)) w.heap.size (.slice A5 (i+1) c5) ((List.replicate (i+1) (0 : Rat)).map mkR)∧FRow (wd.setCell ⟨w.heap.size+1,3,none⟩ (.slice A5 (i+1) c5)) w.heap.size vb ((List.replicate i (0 : Rat)).map mkR)∧Apart (.slice A5 (i+1) c5) vb):=⟨HF3.out.tk k1,HO3.out.tk k1,HA3.out⟩;replace HB : Aside0 (Below w.heap.size w (wd.setCell ⟨w.heap.size+1,3,none⟩ (.slice A5 (i+1) c5))):=⟨HB3.out.setCell (p:=⟨w.heap.size+1,3,none⟩) (Nat.le_succ _) _⟩;replace B0 : Aside0 ((wd.setCell ⟨w.heap.size+1,3,none⟩ (.slice A5 (i+1) c5)).heap[w.heap.size]? = some (.cells #[.int .i64 0,.int .i64 0,.int .i64 0,.slice none 0 0,.slice none 0 0] 27 (0,0))):=⟨far1 B03.out (by omega) _ _⟩;replace B1 : Aside0 ((wd.setCell ⟨w.heap.size+1,3,none⟩ (.slice A5 (i+1) c5)).heap[w.heap.size+1]? = some (.cells #[.int .i64 W,.int .i64 h,.int .i64 b,(.slice A5 (i+1) c5),vb] 27 (0,0))):=⟨blk_put B13.out 3 _ rfl⟩;clear k1 HF3 HO3 HA3 HB3 B03 B13 HF2 HB2 B02 B12 HX;obtain ⟨wr,hwr⟩ : ∃ z,wd.setCell ⟨w.heap.size+1,3,none⟩ (.slice A5 (i+1) c5)=z:=⟨_,rfl⟩;rw [hwr] at HF HB B0 B1 ⊢;clear hwr;obtain ⟨va,hva⟩ : ∃ z,(.slice A5 (i+1) c5 : Value)=z:=⟨_,rfl⟩;rw [hva] at HF B1 ⊢;clear hva
   go_upto_region 7 with fail
   refine sT (n:=7) (S:=fun w'=>w'.cell? ⟨w.heap.size+1,4,none⟩=some vb) (ds:=[6]) (by kernel_rfl) rfl ((cells5 B1.out).2.2.2.2) (fun hHeld=>?_);refine zp 0 32 ?_;refine zt 1 33 ?_
   refine oN 2 (some 34) rfl rfl fun K hK=>?_
   refine goes_ Try.func29 (by kernel_rfl) rfl #[.int .i64 0,.int .i64 1] (by rfl) rfl rfl (by simp only [List.map_toArray,List.map_cons,List.map_nil];rfl) ?_
   with_reducible refine (of_sem 0 1 _ (by decide) (by decide) (by decide) (by decide)).mono ?_
   rintro e wc ⟨A1,c1,A2,c2,rfl,hx,hb⟩;refine ⟨_,rfl,?_⟩;rw [qv_zero (.inl rfl)] at hx ⊢;have HX:=Aside0.mk hx;have HB2:=Aside0.mk (below_step (below_drew1 HB.out) hb);have HF2:=Aside0.mk (And.intro (HF.out.1.up (below_step (below_drew1 (Below.refl _ _)) hb)) (HF.out.2.1.up (below_step (below_drew1 (Below.refl _ _)) hb)));have B02:=Aside0.mk (blk_below B0.out (below_step (below_drew1 (Below.refl _ _)) hb));have B12:=Aside0.mk (blk_below B1.out (below_step (below_drew1 (Below.refl _ _)) hb));clear hx hb;refine hK.out _ _ ((cells5 B12.out).2.2.2.2) (fun hHeld=>?_);clear hK K;refine nZ ?_
   refine oN 3 (some 35) rfl rfl fun K hK=>?_
   refine value_ (w1:=?_) (v:=?_) (by rfl) rfl ?_ ?_;rotate_left 2
   ·go_simp
    constructor
    ·rfl
    ·rfl
   refine hK.out _ _ ((cells5 (blk_alloc B12.out _)).2.2.2.2) (fun hHeld=>?_);clear hK K;refine nZ ?_
   refine oN 4 (some 36) rfl rfl fun K hK=>?_
   obtain ⟨inner,ho,hi_⟩:=HF2.out.2;refine step_append_cells (w0:=w) w.heap.size (by rfl) (.tmp 33) (.tmp 35) 25 63 (.agg #[.bool false,.slice none 0 0,.slice none 0 0]) 3 56 rfl Try.underlying25 info63 rfl (by decide) (by decide) _ _ inner [.bool (mkR 0).f0,.slice A1 (mkR 0).f1.length c1,.slice A2 (mkR 0).f2.length c2] rfl rfl rfl (k63.K_one (w:=wc) HX.out.now) ho HB2.out HB2.out.size (by rw [List.length_map,List.length_replicate];omega) ?_;intro vn wd hown hB3 hg hat;have hF3:=FRow.grown ho hi_ HX.out rfl hown hg;have hO3:=HF2.out.1.other ho hg HF.out.2.2;have hA3 : Apart vn va:=Apart.grown HF.out.2.2.symm hat HF2.out.1;rw [show (List.replicate i (0 : Rat)).map mkR++[mkR 0]=(List.replicate (i+1) (0 : Rat)).map mkR by rw [List.replicate_succ' (n:=i),List.map_append];rfl] at hF3;obtain ⟨A5,c5,e5,l5⟩:=hF3.slice_;subst e5;rw [List.length_map,List.length_replicate] at hF3 hA3 ⊢;have HF3:=Aside0.mk hF3;have HO3:=Aside0.mk hO3;have HA3:=Aside0.mk hA3;have HB3:=Aside0.mk hB3;have B03:=Aside0.mk (blk_by B02.out ho hg (by decide));have B13:=Aside0.mk (blk_by B12.out ho hg (by decide));clear hF3 hO3 hA3 hB3 ho hi_ hown hg hat l5;refine hK.out _ _ ((cells5 B13.out).2.2.2.2) (fun hHeld=>?_);clear hK K;refine nZ ?_;refine zp 5 37 ?_
   refine lN 6 (none) rfl rfl fun K hK=>?_
   have q0:=cells5 B13.out;have q1:=free5 B13.out;refine skip_ (w1:=?_) (by rfl) rfl ?_ ?_;rotate_left
   ·go_simp
    rfl
   clear q0 q1;refine hK.out _ _ ?_;clear hK K;refine dN ?_;have k1 : Tk [63,82] wd (wd.setCell ⟨w.heap.size+1,4,none⟩ (.slice A5 (i+1) c5)):=tk_set1 B13.out (by decide) 4 _ inferInstance;replace HF : Aside0 (FRow (wd.setCell ⟨w.heap.size+1,4,none⟩ (.slice A5 (i+1) c5)) w.heap.size va ((List.replicate (i+1) (0 : Rat)).map mkR)∧FRow (wd.setCell ⟨w.heap.size+1,4,none⟩ (.slice A5 (i+1) c5)) w.heap.size (.slice A5 (i+1) c5) ((List.replicate (i+1) (0 : Rat)).map mkR)∧Apart va (.slice A5 (i+1) c5)):=⟨HO3.out.tk k1,HF3.out.tk k1,HA3.out.symm⟩;replace HB : Aside0 (Below w.heap.size w (wd.setCell ⟨w.heap.size+1,4,none⟩ (.slice A5 (i+1) c5))):=⟨HB3.out.setCell (p:=⟨w.heap.size+1,4,none⟩) (Nat.le_succ _) _⟩;replace B0 : Aside0 ((wd.setCell ⟨w.heap.size+1,4,none⟩ (.slice A5 (i+1) c5)).heap[w.heap.size]? = some (.cells #[.int .i64 0,.int .i64 0,.int .i64 0,.slice none 0 0,.slice none 0 0] 27 (0,0))):=⟨far1 B03.out (by omega) _ _⟩;replace B1 : Aside0 ((wd.setCell ⟨w.heap.size+1,4,none⟩ (.slice A5 (i+1) c5)).heap[w.heap.size+1]? = some (.cells #[.int .i64 W,.int .i64 h,.int .i64 b,va,(.slice A5 (i+1) c5)] 27 (0,0))):=⟨blk_put B13.out 4 _ rfl⟩;clear k1 HF3 HO3 HA3 HB3 B03 B13 HF2 HB2 B02 B12 HX;obtain ⟨wr,hwr⟩ : ∃ z,wd.setCell ⟨w.heap.size+1,4,none⟩ (.slice A5 (i+1) c5)=z:=⟨_,rfl⟩;rw [hwr] at HF HB B0 B1 ⊢;clear hwr
   go_wp2
   go_roundw
   case rel=>exact ⟨i+1,va,.slice A5 (i+1) c5,hil,by go_num,HB,B0,B1,HF⟩
   case measure=>simp [intOf];omega
  ·obtain rfl : i=M:=by omega
   have hil2 : decide ((i : Int) < (i : Int))=false:=by simp
   obtain ⟨ad,c,rfl,lc,oa⟩:=HF.out.1.orow (by rw [List.length_map,List.length_replicate];omega);obtain ⟨ad2,c2,rfl,lc2,ob⟩:=HF.out.2.1.orow (by rw [List.length_map,List.length_replicate];omega);rw [List.length_map,List.length_replicate] at lc lc2 B1
   have HR : Aside0 (Rows wr w.heap.size (zeroQ i) ad c ad2 c2):=⟨oa,ob,by
    rcases HF.out.2.2 with hne|hne
    ·rw [oa.z] at hne;simp [Value.ownBlock] at hne
    ·rw [oa.z,ob.z] at hne;simpa [Value.ownBlock] using hne⟩
   have q0:=cells5 B1.out;have q1:=free5 B0.out;have q2:=cells5 B0.out;clear HF oa ob
   go_wp2
   refine bodyPost_ret (results_ct rfl _ _ w.heap.size 27 _ (0,0) _ rfl (put5 B0.out _ _ _ _ _) Try.underlying27 rfl (by kernel_rfl)) rfl ⟨ad,c,ad2,c2,rfl,lc,lc2,HR.out.tk (tk_set5 B0.out (by decide) _ _ _ _ _ inferInstance),low5 HB.out (Nat.le_refl _) _ _ _ _ _⟩
end Go.Proofs.Ytjiaobcoeegioaa.Pq
end
section
namespace Go.Proofs.Ytjiaobcoeegioaa.N
structure PS where
 c : Nat
 l : Bool
 ws : List (Nat × Nat)
 done : List Nat
def canW (n c : Nat) (l : Bool) (st : Nat) : Bool:=if st=0 then decide (c < n) else if st=2 then !l else true
def PS.can (n : Nat) (s : PS) (i : Nat) : Bool:=canW n s.c s.l (s.ws.getD i (0,0)).1
def PS.en (n : Nat) (s : PS) : List Nat:=(List.range s.ws.length).filter (s.can n)
def PS.step (s : PS) (i : Nat) : PS :=
 let x:=s.ws.getD i (0,0)
 if x.1=0 then ⟨s.c+1,s.l,s.ws.set i (1,s.c),s.done⟩
 else if x.1=1 then ⟨s.c,s.l,s.ws.set i (2,x.2),s.done⟩
 else if x.1=2 then ⟨s.c,true,s.ws.set i (3,x.2),s.done⟩
 else ⟨s.c,false,s.ws.set i (0,x.2),s.done++[x.2]⟩
def busy (ws : List (Nat × Nat)) : List Nat:=(ws.filter fun x=>x.1 != 0).map Prod.snd
def left (st : Nat) : Nat:=if st=0 then 0 else 4 - st
structure PS.Ok (n k : Nat) (s : PS) : Prop where
 len : s.ws.length=k
 st : ∀ x∈s.ws,x.1≤3
 held : s.l=true ↔ ∃ x∈s.ws,x.1=3
 one : (s.ws.filter fun x=>x.1 == 3).length≤1
 c : s.c≤n
 perm : (s.done++busy s.ws).Perm (List.range s.c)
 near : ∀ i (h : i < s.done.length),s.done[i] < i+k
def PS.rest (n : Nat) (s : PS) : Nat:=4 * (n - s.c)+(s.ws.map fun x=>left x.1).sum
def PS.start (k : Nat) : PS:=⟨0,false,List.replicate k (0,0),[]⟩
theorem busy_idle (k : Nat) : busy (List.replicate k (0,0))=[]:=by
 unfold busy;rw [List.filter_eq_nil_iff.mpr (by intro x hx;rw [List.eq_of_mem_replicate hx];simp)];rfl
theorem start_ok (n k : Nat) : (PS.start k).Ok n k where
 len:=List.length_replicate
 st:=fun x hx=>by rw [List.eq_of_mem_replicate hx];exact Nat.zero_le _
 held:=⟨fun h=>Bool.noConfusion h,fun h=>by
  obtain ⟨x,hx,h⟩:=h
  rw [List.eq_of_mem_replicate hx] at h
  cases h⟩
 one:=by
  show ((List.replicate k (0,0)).filter _).length≤1
  rw [List.filter_eq_nil_iff.mpr (by intro x hx;rw [List.eq_of_mem_replicate hx];simp)]
  exact Nat.zero_le _
 c:=Nat.zero_le _
 perm:=by
  show ([]++busy (List.replicate k (0,0))).Perm (List.range 0)
  rw [busy_idle]
  exact List.Perm.refl _
 near:=fun i h=>absurd h (Nat.not_lt_zero _)
theorem start_rest (n k : Nat) : (PS.start k).rest n=4 * n:=by
 have : ((List.replicate k (0,0)).map fun x : Nat × Nat=>left x.1).sum=0:=by
  rw [List.map_replicate]
  show (List.replicate k 0).sum=0
  rw [List.sum_replicate_nat,Nat.mul_zero]
 unfold PS.rest PS.start;dsimp only;omega
theorem split_at {ws : List (Nat × Nat)} {i : Nat} (hi : i < ws.length) (y : Nat × Nat) : ∃ a b,ws=a++ws[i] :: b∧ws.set i y=a++y :: b∧a.length=i:=by
 refine ⟨ws.take i,ws.drop (i+1),?_,?_,by rw [List.length_take];omega⟩
 ·rw [← List.drop_eq_getElem_cons hi,List.take_append_drop]
 ·rw [List.set_eq_take_append_cons_drop,if_pos hi]
theorem sum_split (a b : List (Nat × Nat)) (x : Nat × Nat) : ((a++x :: b).map fun x=>left x.1).sum=left x.1+((a++b).map fun x=>left x.1).sum:=by
 simp only [List.map_append,List.map_cons,List.sum_append,List.sum_cons];omega
theorem busy_split (a b : List (Nat × Nat)) (x : Nat × Nat) : busy (a++x :: b)=busy a++(if x.1=0 then [] else [x.2])++busy b:=by
 unfold busy;rw [List.filter_append,List.filter_cons]
 by_cases h : x.1=0 <;> simp [h]
theorem three_split (a b : List (Nat × Nat)) (x : Nat × Nat) : ((a++x :: b).filter fun x=>x.1 == 3).length=(if x.1=3 then 1 else 0)+((a++b).filter fun x=>x.1 == 3).length:=by
 rw [List.filter_append,List.filter_cons,List.filter_append]
 by_cases h : x.1=3 <;> simp [h] <;> omega
theorem busy_len (ws : List (Nat × Nat)) : (busy ws).length≤ws.length:=by
 unfold busy;rw [List.length_map];exact List.length_filter_le _ _
theorem step_ok {n k : Nat} {s : PS} (h : s.Ok n k) {i : Nat} (hi : i < s.ws.length) (hc : s.can n i=true) : (s.step i).Ok n k∧(s.step i).rest n+1=s.rest n:=by
 obtain ⟨c,l,ws,done⟩:=s
 have hg : ws.getD i (0,0)=ws[i]'hi:=by rw [List.getD_eq_getElem?_getD,List.getElem?_eq_getElem hi];rfl
 have h3:=h.st (ws[i]'hi) (List.getElem_mem _);have hlen:=h.len;have hst:=h.st;have hheld:=h.held;have hone:=h.one;have hcn:=h.c;have hperm:=h.perm;have hnear:=h.near;unfold PS.can canW at hc;unfold PS.step PS.rest;dsimp only at hi hg h3 hlen hst hheld hone hcn hperm hnear hc ⊢;rw [hg] at hc ⊢
 have sp:=fun y=>split_at hi y
 generalize ws[i]'hi=x at hc h3 sp;obtain ⟨st,t⟩:=x;dsimp only at hc h3 sp ⊢
 have key : ∀ (y : Nat × Nat) (c' : Nat) (l' : Bool) (done' : List Nat),y.1≤3→(st≠y.1) →
   (y.1=3→l=false∧l'=true)→(y.1≠3→(st=3∧l'=false)∨(st≠3∧l'=l))→c'≤n →
   (∀ a b : List (Nat × Nat),(done++(busy a++(if st=0 then [] else [t])++busy b)).Perm (List.range c)→(done'++(busy a++(if y.1=0 then [] else [y.2])++busy b)).Perm (List.range c')) →
   (∀ j (hj : j < done'.length),done'[j] < j+k)→4 * (n - c')+left y.1+1=4 * (n - c)+left st →
   PS.Ok n k ⟨c',l',ws.set i y,done'⟩∧4 * (n - c')+((ws.set i y).map fun x=>left x.1).sum+1=4 * (n - c)+(ws.map fun x=>left x.1).sum:=by
  intro y c' l' done' hy1 hne hy3 hy4 hc' hp hn hr;obtain ⟨a,b,e1,e2,e3⟩:=sp y;rw [e2];have hone':=hone;rw [e1,three_split] at hone';dsimp only at hone';refine ⟨⟨?_,?_,?_,?_,hc',?_,hn⟩,?_⟩
  ·show (a++y :: b).length=k
   rw [e1] at hlen
   simpa using hlen
  ·intro z hz
   rw [List.mem_append,List.mem_cons] at hz
   rcases hz with hz|rfl|hz
   ·exact hst z (by rw [e1];simp [hz])
   ·exact hy1
   ·exact hst z (by rw [e1];simp [hz])
  ·show l'=true ↔ ∃ x∈a++y :: b,x.1=3
   by_cases h33 : y.1=3
   ·rw [(hy3 h33).2]
    exact ⟨fun _=>⟨y,by simp,h33⟩,fun _=>rfl⟩
   ·rcases hy4 h33 with ⟨q1,q2⟩|⟨q1,q2⟩
    ·rw [q2]
     constructor
     ·intro h;cases h
     ·rintro ⟨z,hz,hz3⟩
      rw [List.mem_append,List.mem_cons] at hz
      have hzz : z∈a++b:=by
       rcases hz with hz|rfl|hz
       ·simp [hz]
       ·exact absurd hz3 h33
       ·simp [hz]
      have : 0 < ((a++b).filter fun x=>x.1 == 3).length:=List.length_pos_of_mem (List.mem_filter.mpr ⟨hzz,by simp [hz3]⟩);rw [if_pos q1] at hone';omega
    ·rw [q2,hheld,e1]
     constructor
     ·rintro ⟨z,hz,hz3⟩
      rw [List.mem_append,List.mem_cons] at hz
      rcases hz with hz|rfl|hz
      ·exact ⟨z,by simp [hz],hz3⟩
      ·exact absurd hz3 q1
      ·exact ⟨z,by simp [hz],hz3⟩
     ·rintro ⟨z,hz,hz3⟩
      rw [List.mem_append,List.mem_cons] at hz
      rcases hz with hz|rfl|hz
      ·exact ⟨z,by simp [hz],hz3⟩
      ·exact absurd hz3 h33
      ·exact ⟨z,by simp [hz],hz3⟩
  ·show ((a++y :: b).filter fun x=>x.1 == 3).length≤1
   rw [three_split]
   by_cases h33 : y.1=3
   ·have hl:=(hy3 h33).1
    have : ((a++b).filter fun x=>x.1 == 3)=[]:=by
     rw [List.filter_eq_nil_iff];intro z hz h4;have : l=true:=hheld.mpr ⟨z,by rw [e1];rw [List.mem_append] at hz;rcases hz with hz|hz <;> simp [hz],by simpa using h4⟩;rw [hl] at this;cases this
    rw [this]
    split <;> simp
   ·rw [if_neg h33]
    omega
  ·show (done'++busy (a++y :: b)).Perm (List.range c')
   rw [busy_split];refine hp a b ?_;rw [e1,busy_split] at hperm;exact hperm
  ·rw [sum_split]
   rw [e1,sum_split];dsimp only;omega
 by_cases h0 : st=0
 ·subst h0
  rw [if_pos rfl] at hc ⊢
  have hcn' : c < n:=by simpa using hc
  refine key (1,c) (c+1) l done (by simp) (by simp) (fun h=>absurd h (by simp)) (fun _=>.inr ⟨by simp,rfl⟩) hcn' (fun a b hp=>?_) hnear ?_
  ·rw [if_neg (by simp)]
   rw [if_pos rfl,List.append_nil] at hp;rw [List.range_succ]
   have : (done++(busy a++[c]++busy b)).Perm ((done++(busy a++busy b))++[c]):=by
    rw [← List.append_assoc,← List.append_assoc,← List.append_assoc,List.append_assoc (done++busy a),List.append_assoc (done++busy a)];exact (List.Perm.refl _).append List.perm_append_comm
   exact this.trans (hp.append (List.Perm.refl _))
  ·show 4 * (n - (c+1))+3+1=4 * (n - c)+0
   omega
 ·rw [if_neg h0]
  rw [if_neg h0] at hc
  by_cases h1 : st=1
  ·subst h1
   rw [if_pos rfl];exact key (2,t) c l done (by simp) (by simp) (fun h=>absurd h (by simp)) (fun _=>.inr ⟨by simp,rfl⟩) hcn (fun a b hp=>hp) hnear rfl
  ·rw [if_neg h1]
   by_cases h2 : st=2
   ·subst h2
    rw [if_pos rfl] at hc ⊢;exact key (3,t) c true done (by simp) (by simp) (fun _=>⟨by simpa using hc,rfl⟩) (fun h=>absurd rfl h) hcn (fun a b hp=>hp) hnear rfl
   ·rw [if_neg h2]
    obtain rfl : st=3:=by omega
    refine key (0,t) c false (done++[t]) (by simp) (by simp) (fun h=>absurd h (by simp)) (fun _=>.inl ⟨rfl,rfl⟩) hcn (fun a b hp=>?_) (fun j hj=>?_) rfl
    ·rw [if_pos rfl,List.append_nil]
     rw [if_neg (by simp)] at hp;refine List.Perm.trans ?_ hp;rw [List.append_assoc,List.append_assoc];refine (List.Perm.refl _).append ?_;rw [← List.append_assoc [t],← List.append_assoc (busy a)];exact List.perm_append_comm.append (List.Perm.refl _)
    ·rcases Nat.lt_or_ge j done.length with hj2|hj2
     ·rw [List.getElem_append_left hj2]
      exact hnear j hj2
     ·have hj3 : j=done.length:=by simp at hj;omega
      subst hj3;rw [List.getElem_append_right (Nat.le_refl _)];simp only [Nat.sub_self,List.getElem_cons_zero]
      have hm : t∈List.range c:=by
       refine hperm.subset ?_;obtain ⟨a,b,e1,_,_⟩:=sp (0,0);rw [e1,busy_split];simp
      have hl:=hperm.length_eq;rw [List.length_append,List.length_range] at hl;have hb:=busy_len ws;have:=List.mem_range.mp hm;omega
theorem rest_of_stuck {n k : Nat} {s : PS} (h : s.Ok n k) (hk : 0 < k) (he : s.en n=[]) : s.rest n=0∧s.done.Perm (List.range n)∧s.c=n:=by
 have hno : ∀ i,i < s.ws.length→s.can n i=false:=fun i hi=>by
  have:=List.filter_eq_nil_iff.mp he i (List.mem_range.mpr hi)
  simpa using this
 have hst : ∀ x∈s.ws,canW n s.c s.l x.1=false:=fun x hx=>by
  obtain ⟨i,hi,e⟩:=List.mem_iff_getElem.mp hx;have:=hno i hi;unfold PS.can at this
  rwa [List.getD_eq_getElem?_getD,List.getElem?_eq_getElem hi,Option.getD_some,e] at this
 have hl : s.l=false:=by
  cases hl : s.l
  ·rfl
  ·obtain ⟨x,hx,h3⟩:=h.held.mp hl
   have:=hst x hx;unfold canW at this;rw [h3] at this;simp at this
 have hidle : ∀ x∈s.ws,x.1=0:=fun x hx=>by
  have h1:=hst x hx;have h2:=h.st x hx;unfold canW at h1;rw [hl] at h1
  by_cases e0 : x.1=0
  ·exact e0
  ·rw [if_neg e0] at h1
   by_cases e2 : x.1=2 <;> simp [e2] at h1
 have hc : s.c=n:=by
  have hlen:=h.len;have h1:=hst (s.ws[0]'(by omega)) (List.getElem_mem _);have h2:=hidle (s.ws[0]'(by omega)) (List.getElem_mem _);have h3:=h.c;unfold canW at h1;rw [h2,if_pos rfl] at h1
  have : ¬ s.c < n:=by simpa using h1
  omega
 have hb : busy s.ws=[]:=by
  unfold busy;rw [List.filter_eq_nil_iff.mpr (fun x hx=>by simp [hidle x hx])];rfl
 refine ⟨?_,?_,hc⟩
 ·have : (s.ws.map fun x=>left x.1).sum=0:=by
   rw [List.map_congr_left (g:=fun _=>0) (fun x hx=>by rw [hidle x hx];rfl)];rw [List.map_const',List.sum_replicate_nat,Nat.mul_zero]
  unfold PS.rest;omega
 ·have:=h.perm
  rwa [hb,List.append_nil,hc] at this
end Go.Proofs.Ytjiaobcoeegioaa.N
end
section
namespace Go.Proofs.Ytjiaobcoeegioaa.N
open Go Go.RowKit Go.Proofs.YtjiaobcoeegioaaW.PrintWords Go.Proofs.YtjiaobcoeegioaaW.PrintLast Go.Proofs.YtjiaobcoeegioaaW.PrintMore Go.Proofs.Ytjiaobcoeegioaa.Pq
section
variable {W : World} {g t : Nat} {v0 v1 v2 v3 v4 v5 v6 v7 v8 v9 : Value}
theorem cells10 (h : W.heap[g]? = some (.cells #[v0,v1,v2,v3,v4,v5,v6,v7,v8,v9] t (0,0))) : W.cell? ⟨g,0,none⟩=some v0∧W.cell? ⟨g,1,none⟩=some v1∧W.cell? ⟨g,2,none⟩=some v2∧W.cell? ⟨g,3,none⟩=some v3∧W.cell? ⟨g,4,none⟩=some v4∧W.cell? ⟨g,5,none⟩=some v5∧W.cell? ⟨g,6,none⟩=some v6∧W.cell? ⟨g,7,none⟩=some v7∧W.cell? ⟨g,8,none⟩=some v8∧W.cell? ⟨g,9,none⟩=some v9 :=
 ⟨blk_cell h 0,blk_cell h 1,blk_cell h 2,blk_cell h 3,blk_cell h 4,blk_cell h 5,blk_cell h 6,blk_cell h 7,blk_cell h 8,blk_cell h 9⟩
theorem free10 {cs : Array Value} (h : W.heap[g]? = some (.cells cs t (0,0))) : W.frozen? ⟨g,0,none⟩=false∧W.frozen? ⟨g,1,none⟩=false∧W.frozen? ⟨g,2,none⟩=false∧W.frozen? ⟨g,3,none⟩=false∧W.frozen? ⟨g,4,none⟩=false∧W.frozen? ⟨g,5,none⟩=false∧W.frozen? ⟨g,6,none⟩=false∧W.frozen? ⟨g,7,none⟩=false∧W.frozen? ⟨g,8,none⟩=false∧W.frozen? ⟨g,9,none⟩=false :=
 ⟨blk_frozen h 0,blk_frozen h 1,blk_frozen h 2,blk_frozen h 3,blk_frozen h 4,blk_frozen h 5,blk_frozen h 6,blk_frozen h 7,blk_frozen h 8,blk_frozen h 9⟩
theorem put10 (h : W.heap[g]? = some (.cells #[v0,v1,v2,v3,v4,v5,v6,v7,v8,v9] t (0,0))) (x y z u v : Value) : (set5 W g x y z u v).heap[g]? = some (.cells #[x,y,z,u,v,v5,v6,v7,v8,v9] t (0,0)) :=
 blk_put (cs:=#[x,y,z,u,v4,v5,v6,v7,v8,v9]) (blk_put (cs:=#[x,y,z,v3,v4,v5,v6,v7,v8,v9]) (blk_put (cs:=#[x,y,v2,v3,v4,v5,v6,v7,v8,v9]) (blk_put (cs:=#[x,v1,v2,v3,v4,v5,v6,v7,v8,v9]) (blk_put h 0 x rfl) 1 y rfl) 2 z rfl) 3 u rfl) 4 v rfl
end
def wcs (ws : List (Nat × Nat)) : List Value:=ws.flatMap fun x=>[.int .i64 x.1,.int .i64 x.2]
theorem wcs_get : ∀ (ws : List (Nat × Nat)) (i : Nat) (hi : i < ws.length),(wcs ws)[i * 2]? = some (.int .i64 ws[i].1)∧(wcs ws)[i * 2+1]? = some (.int .i64 ws[i].2)
 | a :: l,0,_=>⟨rfl,rfl⟩
 | a :: l,i+1,hi=>by
  have h:=wcs_get l i (by simpa using hi);have e : wcs (a :: l)=.int .i64 a.1 :: .int .i64 a.2 :: wcs l:=rfl;rw [e,show (i+1) * 2=i * 2+1+1 by omega,List.getElem?_cons_succ,List.getElem?_cons_succ,show i * 2+1+1+1=(i * 2+1)+1+1 by omega,List.getElem?_cons_succ,List.getElem?_cons_succ]
  simpa using h
theorem wcs_set : ∀ (ws : List (Nat × Nat)) (i : Nat) (hi : i < ws.length) (st tk : Nat),(wcs ws).set (i * 2) (.int .i64 st)=wcs (ws.set i (st,ws[i].2))∧((wcs ws).set (i * 2) (.int .i64 st)).set (i * 2+1) (.int .i64 tk)=wcs (ws.set i (st,tk))
 | a :: l,0,_,st,tk=>⟨rfl,rfl⟩
 | a :: l,i+1,hi,st,tk=>by
  have h:=wcs_set l i (by simpa using hi) st tk
  have e : ∀ (a : Nat × Nat) l,wcs (a :: l)=.int .i64 a.1 :: .int .i64 a.2 :: wcs l:=fun _ _=>rfl
  rw [e,show (i+1) * 2=i * 2+1+1 by omega,List.set_cons_succ,List.set_cons_succ,show i * 2+1+1+1=(i * 2+1)+1+1 by omega,List.set_cons_succ,List.set_cons_succ,List.set_cons_succ,List.set_cons_succ,e,e,h.2,h.1];exact ⟨rfl,rfl⟩
structure WRow (W : World) (qa : Addr) (ws : List (Nat × Nat)) : Prop where
 z : qa=⟨qa.block,0,none⟩
 b : W.heap[qa.block]? = some (.cells (wcs ws).toArray 51 (0,0))
section
variable {W w1 : World} {qa : Addr} {ws : List (Nat × Nat)}
theorem WRow.below (h : WRow W qa ws) (hb : Below W.heap.size W w1) : WRow w1 qa ws:=⟨h.z,blk_below h.b hb⟩
theorem WRow.eq (h : WRow W qa ws) (n : Nat) : qa.add n=⟨qa.block,n,none⟩:=by
 conv=>lhs;rw [h.z]
 exact addz _ _
theorem WRow.at (h : WRow W qa ws) {i : Nat} (hi : i < ws.length) : W.cell? (qa.add (i * 2))=some (.int .i64 ws[i].1)∧W.cell? ⟨(qa.add (i * 2)).block,(qa.add (i * 2)).off+1,none⟩=some (.int .i64 ws[i].2)∧W.frozen? (qa.add (i * 2))=false∧W.frozen? ⟨(qa.add (i * 2)).block,(qa.add (i * 2)).off+1,none⟩=false:=by
 rw [h.eq];have h2:=wcs_get ws i hi;exact ⟨(blk_cell h.b _).trans (by simpa using h2.1),(blk_cell h.b _).trans (by simpa using h2.2),blk_frozen h.b _,blk_frozen h.b _⟩
theorem WRow.set1 (h : WRow W qa ws) {i : Nat} (hi : i < ws.length) (st : Nat) : WRow (W.setCell (qa.add (i * 2)) (.int .i64 st)) qa (ws.set i (st,ws[i].2)):=by
 refine ⟨h.z,?_⟩;rw [h.eq];exact blk_put h.b _ _ (by rw [List.setIfInBounds_toArray,(wcs_set ws i hi st 0).1])
theorem WRow.set2 (h : WRow W qa ws) {i : Nat} (hi : i < ws.length) (st tk : Nat) : WRow ((W.setCell (qa.add (i * 2)) (.int .i64 st)).setCell ⟨(qa.add (i * 2)).block,(qa.add (i * 2)).off+1,none⟩ (.int .i64 tk)) qa (ws.set i (st,tk)):=by
 refine ⟨h.z,?_⟩;rw [h.eq];exact blk_put (blk_put h.b _ _ rfl) _ _ (by rw [List.setIfInBounds_toArray,List.setIfInBounds_toArray,(wcs_set ws i hi st tk).2])
theorem WRow.far {g : Nat} {i : Nat} {v : Value} (h : WRow W qa ws) (hne : qa.block≠g) : WRow (W.setCell ⟨g,i,none⟩ v) qa ws:=⟨h.z,far1 h.b hne _ _⟩
end
abbrev IRow (W : World) (base : Nat) (v : Value) (xs : List Int) : Prop:=W.slackRow base 3 1 v xs.length (nums .i64 xs)
section
variable {P : Program}
theorem results_void {fn : Func} (h : fn.results=#[]) (tmps : Array Value) (w : World) : (results fn tmps).run P w=.ok (.tuple #[]) w:=by
 unfold results;rw [h];simp
theorem results_cttt {fn : Func} {p u v x : Tmp} {ty : TypeId} (h : fn.results=#[.cell p ty,.tmp u,.tmp v,.tmp x]) (tmps : Array Value) (w : World) (g : Nat) (t : TypeId) (cs : Array Value) (fr : Nat × Nat) (d : TypeDesc)
  (hp : tmps.getD p undef=.pointer (some ⟨g,0,none⟩)) (hg : w.heap[g]? = some (.cells cs t fr))
  (hu : P.underlying ty=some d) (hd : (match d with|.struct _|.array _ _=>true|_=>false)=true) (hi : (P.info? ty).map (·.size)=some cs.size) :
  (results fn tmps).run P w=.ok (.tuple #[.agg cs,tmps.getD u undef,tmps.getD v undef,tmps.getD x undef]) w:=by
 have hp' : tmps[p]?.getD undef=.pointer (some ⟨g,0,none⟩):=by simpa using hp
 simp [results,h,hp',asAddr,run_loadVar_row w g t ty cs fr d hg hu hd hi]
end
end Go.Proofs.Ytjiaobcoeegioaa.N
end
section
namespace Go.Proofs.Ytjiaobcoeegioaa.Pq
open Go.RowKit Go.Proofs.YtjiaobcoeegioaaW.PrintWords Go.Proofs.YtjiaobcoeegioaaW.PrintLast Go.Proofs.YtjiaobcoeegioaaW.PrintMore Go.Proofs.Ytjiaobcoeegioaa.N
namespace X
def pool_can.T3 : Bool × List (List Nat × List Nat):=(true,[([],[]),([0],[0]),([1],[1]),([2],[2]),([],[]),([4],[4]),([5],[5]),([6],[6]),([7],[7]),([3,8],[3,8]),([9,0,1,2,3,4,5,6,7,8,9],[9])])
def pool_can.B3 : List Nat:=[0,1,3,7,0,16,48,112,240,511,1023]
theorem pool_can.tab3 : rtab .any (opsOf Try.f34 3)=pool_can.T3:=by kernel_rfl
theorem pool_can.bits3 : waitsOk pool_can.T3.2 pool_can.B3=true:=by kernel_rfl
end X
open X
set_option maxRecDepth 100000 in
theorem can_sem {w : World} {P : Nat} {v0 v1 v2 v3 v4 v8 v9 : Value} {pA : Option Addr} {n pc c : Nat} {l : Bool} (hP : w.heap[P]? = some (.cells #[v0,v1,v2,v3,v4,.slice pA n pc,.int .i64 c,.bool l,v8,v9] 45 (0,0))) (st tk : Nat) :
  Calls Try.prog 34 #[.pointer (some ⟨P,0,none⟩),.agg #[.int .i64 st,.int .i64 tk]] w fun e w'=>e=.returned (.bool (canW n c l st))∧Below w.heap.size w w':=by
 have HP:=Aside0.mk hP;have hlt:=blk_lt hP;clear hP
 by_cases h0 : st=0
 ·subst h0
  rw [show canW n c l 0=decide (c < n) from rfl]
  go_enter Try.func34,Try.ntmps34
  go_upto_region 3 with fail
  have HB:=below_drew1 (below_alloc (Below.refl w.heap.size w) (.cells #[.int .i64 (0 : Nat),.int .i64 tk] 51));have B:=Aside0.mk (blk_below HP.out HB);refine sT (n:=11) (S:=fun w'=>w'.cell? ⟨P,5,none⟩=some (.slice pA n pc)∧w'.cell? ⟨P,6,none⟩=some (.int .i64 c)) (ds:=[]) (by kernel_rfl) rfl ⟨(cells10 B.out).2.2.2.2.2.1,(cells10 B.out).2.2.2.2.2.2.1⟩ (fun hHeld=>?_);refine with_tabW pool_can.tab3 pool_can.bits3 (fun HT_ HW_=>?_);refine zp 0 9 ?_;refine zp 1 10 ?_;refine zp 2 11 ?_;refine zp 4 13 ?_;refine zp 5 14 ?_;refine zp 6 15 ?_;refine zt 3 12 ?_;refine zt 7 16 ?_;refine zp 8 17 ?_;refine zp 9 18 ?_;refine zp 10 4 ?_;refine dN ?_
  go_wp2
  go_ret
  exact ⟨by simp,HB⟩
 ·have c0 : ((st : Int) == 0)=false:=beq_eq_false_iff_ne.mpr (by omega)
  by_cases h2 : st=2
  ·subst h2
   have q0:=cells10 HP.out;rw [show canW n c l 2 = !l from rfl]
   go_enter Try.func34,Try.ntmps34
   go_wp2
   go_ret
   exact ⟨rfl,below_alloc (Below.refl _ _) _⟩
  ·have c2 : ((st : Int) == 2)=false:=beq_eq_false_iff_ne.mpr (by omega)
   rw [show canW n c l st=true by unfold canW;rw [if_neg h0,if_neg h2]];clear h0 h2
   go_enter Try.func34,Try.ntmps34
   go_wp2
   go_ret
   exact ⟨rfl,below_alloc (Below.refl _ _) _⟩
set_option maxHeartbeats 1000000 in
set_option maxRecDepth 100000 in
theorem enabled_sem {w : World} {P : Nat} {v0 v1 v2 v3 v4 v9 : Value} {pA : Option Addr} {n pc : Nat} {s : PS} {qa : Addr} {k : Nat} (hP : w.heap[P]? = some (.cells #[v0,v1,v2,v3,v4,.slice pA n pc,.int .i64 s.c,.bool s.l,.slice (some qa) k k,v9] 45 (0,0))) (hk : s.ws.length=k) (hk2 : k≤64) (hW : WRow w qa s.ws) :
  Calls Try.prog 18 #[.pointer (some ⟨P,0,none⟩)] w fun e w'=>∃ v,e=.returned v∧IRow w' w.heap.size v ((s.en n).map Int.ofNat)∧Below w.heap.size w w':=by
 have HP:=Aside0.mk hP;have HW:=Aside0.mk hW;have hlt:=blk_lt hP;have q0:=cells10 hP;clear hP hW
 go_enter Try.func18,Try.ntmps18
 go_wp2
 clear q0
 go_loopw [3,11] (fun v x wr=>∃ i : Nat,i≤k∧x=.int .i64 i∧Aside0 (Below w.heap.size w wr)∧Aside0 (IRow wr w.heap.size v (((List.range i).filter (s.can n)).map Int.ofNat))) (fun _ x _=>k - (intOf x).toNat)
 case atStart=>exact ⟨0,Nat.zero_le _,rfl,⟨Below.refl _ _⟩,⟨own_nil _ _ _ _⟩⟩
 case round =>
  obtain ⟨i,hi,rfl,HB,HI⟩:=hrel
  by_cases hil : i < k
  ·have hil2 : decide ((i : Int) < (k : Int))=true:=decide_eq_true (by omega)
   have q1:=(HW.out.below HB.out).at (i:=i) (by omega)
   have hr : ((List.range (i+1)).filter (s.can n)).map Int.ofNat=((List.range i).filter (s.can n)).map Int.ofNat++(if s.can n i then [(i : Int)] else []):=by
    rw [List.range_succ,List.filter_append,List.map_append]
    congr 1
    by_cases h : s.can n i=true <;> simp [h]
   have hcan : s.can n i=canW n s.c s.l (s.ws[i]'(by omega)).1:=by
    unfold PS.can;rw [List.getD_eq_getElem?_getD,List.getElem?_eq_getElem (by omega)];rfl
   rw [hcan] at hr;obtain ⟨b,hb⟩ : ∃ b,canW n s.c s.l (s.ws[i]'(by omega)).1=b:=⟨_,rfl⟩
   have hlen : (((List.range i).filter (s.can n)).map Int.ofNat).length≤i:=by
    rw [List.length_map];exact Nat.le_trans (List.length_filter_le _ _) (by simp)
   generalize s.ws[i]'(by omega)=x at q1 hr hb;obtain ⟨st,tk⟩:=x;dsimp only at q1 hb hr;rw [hb] at hr;have HR:=Aside0.mk hr;have HC:=Aside0.mk hb;generalize ((List.range i).filter (s.can n)).map Int.ofNat=ys at HR HI hlen;clear hr hcan hb;cases b
   all_goals
    go_wp2_with (first
     | (go_at_call 34;(with_reducible refine (can_sem (blk_alloc (blk_below HP.out HB.out) _) st tk).mono ?_);rintro e w1 ⟨he,hb⟩;rw [HC.out] at he;subst he;have HB1:=Aside0.mk (below_step (below_alloc HB.out _) hb);have HI1:=Aside0.mk (pw_own_below (own_alloc HI.out _) hb);clear hb)
     | (at_builtin;refine print_append_cells (w0:=w) w.heap.size rfl (.tmp 19) (.tmp 21) 23 3 (.int .i64 0) 1 8 rfl Try.underlying23 info3 rfl (by decide) (by decide) _ _ _ [.int .i64 i] rfl rfl rfl (by simp [Value.oneCell']) HI1.out HB1.out HB1.out.size (by omega) ?_;intro v3 w3 hown hB3 hg _;have HI2:=Aside0.mk hown;have HB2:=Aside0.mk hB3;clear hown hB3 hg))
   ·go_roundw
    case rel=>exact ⟨i+1,hil,by go_num,HB1,⟨by rw [HR.out];simpa using HI1.out⟩⟩
    case measure=>simp [intOf];omega
   ·go_roundw
    case rel=>exact ⟨i+1,hil,by go_num,HB2,⟨by
     rw [HR.out];have h:=HI2.out
     simpa [IRow,nums] using h⟩⟩
    case measure=>simp [intOf];omega
  ·obtain rfl : i=k:=by omega
   have hil2 : decide ((i : Int) < (i : Int))=false:=by simp
   go_wp2
   go_ret
   exact ⟨_,rfl,by unfold PS.en;rw [hk];exact HI.out,HB.out⟩
end Go.Proofs.Ytjiaobcoeegioaa.Pq
end
section
namespace Go.Proofs.Ytjiaobcoeegioaa.Pq
open Go.RowKit Go.Proofs.YtjiaobcoeegioaaW.PrintWords Go.Proofs.YtjiaobcoeegioaaW.PrintLast Go.Proofs.YtjiaobcoeegioaaW.PrintMore Go.Proofs.Ytjiaobcoeegioaa.N
namespace X
def pool_step.T9 : Bool × List (List Nat × List Nat):=(true,[([],[]),([],[]),([1],[1]),([2],[2]),([3],[3]),([],[]),([5],[5]),([6],[6]),([7],[7]),([],[]),([9],[9]),([10],[10]),([11],[11]),([8,12],[8,12]),([13],[13]),([4,14],[4,14]),([15],[15]),([16],[16]),([17],[17]),([17],[17]),([0,0,1,2,3,4,5,6,7,8,9,10,11,12,13,14,15,16,17,18],[0]),([20,0,1,2,3,4,5,6,7,8,9,10,11,12,13,14,15,16,17,18],[20]),([21,18,16,0,1,2,3,4,5,6,7,8,9,10,11,12,13,14,15,16,17,18],[18,21])])
def pool_step.B9 : List Nat:=[0,0,2,6,14,0,32,96,224,0,512,1536,3584,8160,16352,32766,65534,131070,262142,262142,524287,1572863,3670015]
theorem pool_step.tab9 : rtab .any (opsOf Try.f19 9)=pool_step.T9:=by kernel_rfl
theorem pool_step.bits9 : waitsOk pool_step.T9.2 pool_step.B9=true:=by kernel_rfl
def pool_step.T10 : Bool × List (List Nat × List Nat):=(true,[([],[]),([],[]),([1],[1]),([2],[2]),([3],[3]),([],[]),([5],[5]),([6],[6]),([7],[7]),([8],[8]),([4,9],[4,9]),([0,0,1,2,3,4,5,6,7,8,9,10],[0]),([11,0,1,2,3,4,5,6,7,8,9,10],[11]),([12,10,10,0,1,2,3,4,5,6,7,8,9,10],[10,12])])
def pool_step.B10 : List Nat:=[0,0,2,6,14,0,32,96,224,480,1022,2047,4095,8191]
theorem pool_step.tab10 : rtab .any (opsOf Try.f19 10)=pool_step.T10:=by kernel_rfl
theorem pool_step.bits10 : waitsOk pool_step.T10.2 pool_step.B10=true:=by kernel_rfl
end X
open X
structure PlaySt (w0 w : World) (P : Nat) (qa : Addr) (W h b : Int) (M : Nat) (A0 : Option Addr) (n pc k : Nat) (s : PS) (q : QF) : Prop where
 lo : Below w0.heap.size w0 w
 pl : w0.heap.size≤P
 ql : w0.heap.size≤qa.block
 ex : ∃ ad c ad2 c2 dv,w.heap[P]? = some (.cells #[.int .i64 W,.int .i64 h,.int .i64 b,.slice (some ad) M c,.slice (some ad2) M c2,.slice A0 n pc,.int .i64 s.c,.bool s.l,.slice (some qa) k k,dv] 45 (0,0))∧M≤c∧M≤c2∧Rows w w0.heap.size q ad c ad2 c2∧IRow w w0.heap.size dv (s.done.map Int.ofNat)
 wk : WRow w qa s.ws
theorem IRow.tk {w w' : World} {base : Nat} {v : Value} {xs : List Int} (h : IRow w base v xs) (k : Tk [3] w w') : IRow w' base v xs:=own_move h (fun i hi=>by
 obtain ⟨cells,hc⟩:=own_typed h i hi
 exact k.k.2 i cells 3 (0,0) hc (by simp))
theorem tk_grown3 {W w1 : World} {base n : Nat} {v : Value} {xs : List Value} (hg : W.grownBy w1 v.ownBlock) (ho : W.slackRow base 3 1 v n xs) : Tk [63,82] W w1:=tk_grown hg ho (by decide) W
theorem film_K {w : World} {base : Nat} {W h b : Int} {M : Nat} {q : QF} {ad : Addr} {c : Nat} {ad2 : Addr} {c2 : Nat} (hr : Rows w base q ad c ad2 c2) (hM : (M : Int)=W * h * b) (hf : q.fits W h b) : k27.K w (mkF W h b q) [.int .i64 W,.int .i64 h,.int .i64 b,.slice (some ad) M c,.slice (some ad2) M c2]:=by
 obtain ⟨e1,e2⟩:=q_len hM hf;obtain ⟨l1,g1⟩:=ORow.reads hr.a;obtain ⟨l2,g2⟩:=ORow.reads hr.b;have h2:=k27_mk w (mkF W h b q) (A3:=some ad) (c3:=c) l1 g1.now (A4:=some ad2) (c4:=c2) l2 g2.now;rw [show (mkF W h b q).f3.length=M from e1,show (mkF W h b q).f4.length=M from e2] at h2;exact h2
theorem film_lit {W : World} {F G : S27} {a0 a1 a2 a3 a4 b0 b1 b2 b3 b4 : Value} (hx : k27.K W F [a0,a1,a2,a3,a4]) (hy : k27.K W G [b0,b1,b2,b3,b4]) : Kd.C k27 (W.alloc (.cells #[a0,a1,a2,a3,a4,b0,b1,b2,b3,b4] 27)) (some ⟨W.heap.size,0,none⟩) 2 [F,G]:=by
 have hb : Below W.heap.size W (W.alloc (.cells #[a0,a1,a2,a3,a4,b0,b1,b2,b3,b4] 27)):=below_alloc (Below.refl _ _) _;have h1 : Reps (k27.K (W.alloc (.cells #[a0,a1,a2,a3,a4,b0,b1,b2,b3,b4] 27))) 5 ([]++[F]++[G]) ([]++[a0,a1,a2,a3,a4]++[b0,b1,b2,b3,b4]):=((Reps.none _ _).snoc (k27.K_below hb hx) rfl).snoc (k27.K_below hb hy) rfl;have h2:=OwnRow.lit (e:=27) W 0 (ps:=[F,G]) (inner:=[a0,a1,a2,a3,a4,b0,b1,b2,b3,b4]) h1 (Nat.zero_le _) (by simp);obtain ⟨A,cc,e,_,h3⟩:=OwnRow.reads h2
 injection e with e1 _ _
 rw [← e1] at h3;exact h3
theorem filmsum2 {q p : QF} {W h b : Int} {M : Nat} (hs : szs W h b=true) (hM : (M : Int)=W * h * b) (hq : ∀ x∈[q,p],x.fits W h b) (hsz : tot [q,p] < 10000000) {A0 : Option Addr} {c0 : Nat} {w : World} (hr : Kd.C k27 w A0 2 ([q,p].map (mkF W h b))) :
  Calls Try.prog 14 #[.slice A0 2 c0] w fun e w'=>∃ ad c ad2 c2,e=.returned (.tuple #[.agg #[.int .i64 W,.int .i64 h,.int .i64 b,.slice (some ad) M c,.slice (some ad2) M c2],.bool true])∧M≤c∧M≤c2∧Rows w' w.heap.size (q.add p) ad c ad2 c2∧Below w.heap.size w w' :=
 filmsum_sem (qs:=[q,p]) hs hM hq (by simp) hsz A0 c0 w hr
section
variable {w0 w : World} {P : Nat} {qa : Addr} {W h b : Int} {M : Nat} {A0 : Option Addr} {n pc k : Nat} {s : PS} {q : QF}
theorem PlaySt.setP (H : PlaySt w0 w P qa W h b M A0 n pc k s q) {c' : Nat} {l' : Bool} {i : Nat} {v : Value} (hv : (i=6∧v=.int .i64 c'∧l'=s.l)∨(i=7∧v=.bool l'∧c'=s.c)) : PlaySt w0 (w.setCell ⟨P,i,none⟩ v) P qa W h b M A0 n pc k ⟨c',l',s.ws,s.done⟩ q:=by
 obtain ⟨ad,c,ad2,c2,dv,hp,l1,l2,hr,hd⟩:=H.ex;have k1 : Tk [3,63,82] w (w.setCell ⟨P,i,none⟩ v):=tk_set1 hp (by decide) i v inferInstance
 have hne : qa.block≠P:=fun e=>by
  have h1:=H.wk.b;rw [e,hp] at h1
  injection h1 with h1
  injection h1 with _ h2 _
  exact absurd h2 (by decide)
 refine ⟨H.lo.setCell (p:=⟨P,i,none⟩) H.pl v,H.pl,H.ql,⟨ad,c,ad2,c2,dv,?_,l1,l2,hr.tk (k1.less (by simp)),IRow.tk hd (k1.less (by simp))⟩,H.wk.far hne⟩
 rcases hv with ⟨rfl,rfl,rfl⟩|⟨rfl,rfl,rfl⟩
 ·exact blk_put hp 6 _ rfl
 ·exact blk_put hp 7 _ rfl
theorem PlaySt.setW (H : PlaySt w0 w P qa W h b M A0 n pc k s q) {w' : World} {ws' : List (Nat × Nat)} (hw : WRow w' qa ws') (hl : Below w0.heap.size w0 w') (hk : Tk [3,63,82] w w') (hP : w'.heap[P]? = w.heap[P]?) : PlaySt w0 w' P qa W h b M A0 n pc k ⟨s.c,s.l,ws',s.done⟩ q:=by
 obtain ⟨ad,c,ad2,c2,dv,hp,l1,l2,hr,hd⟩:=H.ex;exact ⟨hl,H.pl,H.ql,⟨ad,c,ad2,c2,dv,hP.trans hp,l1,l2,hr.tk (hk.less (by simp)),IRow.tk hd (hk.less (by simp))⟩,hw⟩
theorem PlaySt.ne (H : PlaySt w0 w P qa W h b M A0 n pc k s q) : qa.block≠P:=fun e=>by
 obtain ⟨ad,c,ad2,c2,dv,hp,_⟩:=H.ex;have h1:=H.wk.b;rw [e,hp] at h1
 injection h1 with h1
 injection h1 with _ h2 _
 exact absurd h2 (by decide)
set_option maxHeartbeats 400000 in
set_option maxRecDepth 100000 in
theorem step0_sem (H : PlaySt w0 w P qa W h b M A0 n pc k s q) {i : Nat} (hi : i < s.ws.length) (h0 : s.ws[i].1=0) (hc : s.c < 1000000) :
  Calls Try.prog 19 #[.pointer (some ⟨P,0,none⟩),.pointer (some (qa.add (i * 2)))] w fun e w'=>e=.returned (.tuple #[])∧PlaySt w0 w' P qa W h b M A0 n pc k ⟨s.c+1,s.l,s.ws.set i (1,s.c),s.done⟩ q:=by
 have HH:=Aside0.mk H;obtain ⟨ad,c,ad2,c2,dv,hp,_⟩:=H.ex;have q0:=cells10 hp;have q1:=free10 hp;have q2:=H.wk.at hi;have hne:=H.ne;have hne2:=hne.symm;have HE:=Aside0.mk (H.wk.eq (i * 2));rw [HE.out] at q2 ⊢;rw [h0] at q2;clear H hp;obtain ⟨o,ho⟩ : ∃ o,i * 2=o:=⟨_,rfl⟩;obtain ⟨Q,hQ⟩ : ∃ Q,qa.block=Q:=⟨_,rfl⟩;rw [ho,hQ] at q2 HE ⊢;rw [hQ] at hne hne2;have HO:=Aside0.mk (And.intro ho hQ);clear ho hQ
 go_enter Try.func19,Try.ntmps19
 go_wp2
 refine ⟨rfl,_,results_void rfl _ _,rfl,?_⟩;obtain ⟨rfl,rfl⟩:=HO.out;have k1:=HH.out.wk.set2 hi 1 s.c;rw [HE.out,show ((1 : Nat) : Int)=1 from rfl] at k1;dsimp only at k1;have k2 : Tk [3,63,82] w ((w.setCell ⟨qa.block,i * 2,none⟩ (.int .i64 1)).setCell ⟨qa.block,i * 2+1,none⟩ (.int .i64 s.c)):=tk_set1 (blk_set HH.out.wk.b _ _) (by decide) _ _ (tk_set1 HH.out.wk.b (by decide) _ _ inferInstance);have k4 : ((w.setCell ⟨qa.block,i * 2,none⟩ (.int .i64 1)).setCell ⟨qa.block,i * 2+1,none⟩ (.int .i64 s.c)).heap[P]? = w.heap[P]?:=(Below.heap_setCell _ ⟨qa.block,i * 2+1,none⟩ _ P hne2).trans (Below.heap_setCell w ⟨qa.block,i * 2,none⟩ _ P hne2);have k5 : Below w0.heap.size w0 ((w.setCell ⟨qa.block,i * 2,none⟩ (.int .i64 1)).setCell ⟨qa.block,i * 2+1,none⟩ (.int .i64 s.c)):=(HH.out.lo.setCell (p:=⟨qa.block,i * 2,none⟩) HH.out.ql _).setCell (p:=⟨qa.block,i * 2+1,none⟩) HH.out.ql _;generalize (w.setCell ⟨qa.block,i * 2,none⟩ (.int .i64 1)).setCell ⟨qa.block,i * 2+1,none⟩ (.int .i64 s.c)=w2 at k1 k2 k4 k5 ⊢;have k3:=HH.out.setW k1 k5 k2 k4;rw [show (s.c : Int)+1=((s.c+1 : Nat) : Int) by omega];exact k3.setP (i:=6) (c':=s.c+1) (l':=s.l) (.inl ⟨rfl,rfl,rfl⟩)
set_option maxHeartbeats 400000 in
set_option maxRecDepth 100000 in
theorem step1_sem (H : PlaySt w0 w P qa W h b M A0 n pc k s q) {i : Nat} (hi : i < s.ws.length) (h0 : s.ws[i].1=1) :
  Calls Try.prog 19 #[.pointer (some ⟨P,0,none⟩),.pointer (some (qa.add (i * 2)))] w fun e w'=>e=.returned (.tuple #[])∧PlaySt w0 w' P qa W h b M A0 n pc k ⟨s.c,s.l,s.ws.set i (2,s.ws[i].2),s.done⟩ q:=by
 have HH:=Aside0.mk H;obtain ⟨ad,c,ad2,c2,dv,hp,_⟩:=H.ex;have q0:=cells10 hp;have q1:=free10 hp;have q2:=H.wk.at hi;have hne:=H.ne;have hne2:=hne.symm;have HE:=Aside0.mk (H.wk.eq (i * 2));rw [HE.out] at q2 ⊢;rw [h0] at q2;clear H hp;obtain ⟨o,ho⟩ : ∃ o,i * 2=o:=⟨_,rfl⟩;obtain ⟨Q,hQ⟩ : ∃ Q,qa.block=Q:=⟨_,rfl⟩;rw [ho,hQ] at q2 HE ⊢;rw [hQ] at hne hne2;have HO:=Aside0.mk (And.intro ho hQ);clear ho hQ
 go_enter Try.func19,Try.ntmps19
 go_wp2
 refine ⟨rfl,_,results_void rfl _ _,rfl,?_⟩;obtain ⟨rfl,rfl⟩:=HO.out;have k1:=HH.out.wk.set1 hi 2;rw [HE.out,show ((2 : Nat) : Int)=2 from rfl] at k1;have k2 : Tk [3,63,82] w (w.setCell ⟨qa.block,i * 2,none⟩ (.int .i64 2)):=tk_set1 HH.out.wk.b (by decide) _ _ inferInstance;have k4 : (w.setCell ⟨qa.block,i * 2,none⟩ (.int .i64 2)).heap[P]? = w.heap[P]?:=Below.heap_setCell w ⟨qa.block,i * 2,none⟩ _ P hne2;have k5 : Below w0.heap.size w0 (w.setCell ⟨qa.block,i * 2,none⟩ (.int .i64 2)):=HH.out.lo.setCell (p:=⟨qa.block,i * 2,none⟩) HH.out.ql _;generalize w.setCell ⟨qa.block,i * 2,none⟩ (.int .i64 2)=w2 at k1 k2 k4 k5 ⊢;have k3:=HH.out.setW k1 k5 k2 k4;exact k3
set_option maxHeartbeats 400000 in
set_option maxRecDepth 100000 in
theorem step2_sem (H : PlaySt w0 w P qa W h b M A0 n pc k s q) {i : Nat} (hi : i < s.ws.length) (h0 : s.ws[i].1=2) :
  Calls Try.prog 19 #[.pointer (some ⟨P,0,none⟩),.pointer (some (qa.add (i * 2)))] w fun e w'=>e=.returned (.tuple #[])∧PlaySt w0 w' P qa W h b M A0 n pc k ⟨s.c,true,s.ws.set i (3,s.ws[i].2),s.done⟩ q:=by
 have HH:=Aside0.mk H;obtain ⟨ad,c,ad2,c2,dv,hp,_⟩:=H.ex;have q0:=cells10 hp;have q1:=free10 hp;have q2:=H.wk.at hi;have hne:=H.ne;have hne2:=hne.symm;have HE:=Aside0.mk (H.wk.eq (i * 2));rw [HE.out] at q2 ⊢;rw [h0] at q2;clear H hp;obtain ⟨o,ho⟩ : ∃ o,i * 2=o:=⟨_,rfl⟩;obtain ⟨Q,hQ⟩ : ∃ Q,qa.block=Q:=⟨_,rfl⟩;rw [ho,hQ] at q2 HE ⊢;rw [hQ] at hne hne2;have HO:=Aside0.mk (And.intro ho hQ);clear ho hQ
 go_enter Try.func19,Try.ntmps19
 go_wp2
 refine ⟨rfl,_,results_void rfl _ _,rfl,?_⟩;obtain ⟨rfl,rfl⟩:=HO.out;have k1:=HH.out.wk.set1 hi 3;rw [HE.out,show ((3 : Nat) : Int)=3 from rfl] at k1;have k2 : Tk [3,63,82] w (w.setCell ⟨qa.block,i * 2,none⟩ (.int .i64 3)):=tk_set1 HH.out.wk.b (by decide) _ _ inferInstance;have k4 : (w.setCell ⟨qa.block,i * 2,none⟩ (.int .i64 3)).heap[P]? = w.heap[P]?:=Below.heap_setCell w ⟨qa.block,i * 2,none⟩ _ P hne2;have k5 : Below w0.heap.size w0 (w.setCell ⟨qa.block,i * 2,none⟩ (.int .i64 3)):=HH.out.lo.setCell (p:=⟨qa.block,i * 2,none⟩) HH.out.ql _;generalize w.setCell ⟨qa.block,i * 2,none⟩ (.int .i64 3)=w2 at k1 k2 k4 k5 ⊢;have k3:=HH.out.setW k1 k5 k2 k4;exact k3.setP (i:=7) (c':=s.c) (l':=true) (.inr ⟨rfl,rfl,rfl⟩)
set_option maxHeartbeats 8000000 in
set_option maxRecDepth 100000 in
theorem step3_sem {qs : List QF} {p : QF} {tk : Nat} (H : PlaySt w0 w P qa W h b M A0 n pc k s q) {i : Nat} (hi : i < s.ws.length) (h0 : s.ws[i]=(3,tk)) (hs : szs W h b=true) (hM : (M : Int)=W * h * b) (hr : Kd.C k27 w0 A0 n (qs.map (mkF W h b))) (hn : n=qs.length) (hq : ∀ q∈qs,q.fits W h b) (ht : tk < qs.length) (hp : qs[tk]=p) (hqf : q.fits W h b) (hz : tot [q,p] < 10000000) (hdl : s.done.length < 1000000) :
  Calls Try.prog 19 #[.pointer (some ⟨P,0,none⟩),.pointer (some (qa.add (i * 2)))] w fun e w'=>e=.returned (.tuple #[])∧PlaySt w0 w' P qa W h b M A0 n pc k ⟨s.c,false,s.ws.set i (0,tk),s.done++[tk]⟩ (q.add p):=by
 have HH:=Aside0.mk H;obtain ⟨ad,c,ad2,c2,dv,hpb,l1,l2,hrw,hd⟩:=H.ex;have q2:=H.wk.at hi;have hne:=H.ne;have hne2:=hne.symm;have HE:=Aside0.mk (H.wk.eq (i * 2));have hq2:=hq _ (List.getElem_mem ht);obtain ⟨pa,A3,c3,A4,c4,rfl,z0,z1,z2,z3,z4,g3,g4,l3,l4⟩:=at_film hM (Kd.C_below hr H.lo) hq ht hn;rw [HE.out,h0] at q2;rw [HE.out];rw [hp] at g3 g4 hq2;dsimp only at q2;have KF:=Aside0.mk (film_K hrw hM hqf)
 have KP : Aside0 (k27.K w (mkF W h b p) [.int .i64 W,.int .i64 h,.int .i64 b,.slice A3 M c3,.slice A4 M c4]):=⟨by
  obtain ⟨e1,e2⟩:=q_len hM hq2;have h2:=k27_mk w (mkF W h b p) (A3:=A3) (c3:=c3) (by rw [show (mkF W h b p).f3.length=M from e1];exact l3) (by rw [show (mkF W h b p).f3.length=M from e1];exact g3) (A4:=A4) (c4:=c4) (by rw [show (mkF W h b p).f4.length=M from e2];exact l4) (by rw [show (mkF W h b p).f4.length=M from e2];exact g4);rw [show (mkF W h b p).f3.length=M from e1,show (mkF W h b p).f4.length=M from e2] at h2
  exact h2⟩
 have HP:=Aside0.mk hpb;have HQ:=Aside0.mk H.wk.b;have HD:=Aside0.mk hd
 have HQP : Aside0 ((∀ x∈[q,p],x.fits W h b)∧tot [q,p] < 10000000):=Aside0.mk ⟨(fun x hx=>by
  rcases List.mem_cons.mp hx with rfl|hx
  ·exact hqf
  ·rcases List.mem_cons.mp hx with rfl|hx
   ·exact hq2
   ·cases hx),hz⟩
 have HDL:=Aside0.mk hdl;have HNE:=Aside0.mk (And.intro hne hne2);obtain ⟨o,ho⟩ : ∃ o,i * 2=o:=⟨_,rfl⟩;obtain ⟨Q,hQ⟩ : ∃ Q,qa.block=Q:=⟨_,rfl⟩;rw [ho,hQ] at q2 HE ⊢;rw [hQ] at HNE HQ;have HO:=Aside0.mk (And.intro ho hQ);have ZZ:=Aside0.mk (show w.cell? ⟨P,0,none⟩=some (.int .i64 W)∧w.cell? ⟨P,1,none⟩=some (.int .i64 h)∧w.cell? ⟨P,2,none⟩=some (.int .i64 b)∧w.cell? ⟨P,3,none⟩=some (.slice (some ad) M c)∧w.cell? ⟨P,4,none⟩=some (.slice (some ad2) M c2)∧w.cell? ⟨P,5,none⟩=some (.slice (some pa) n pc)∧w.cell? ⟨Q,o+1,none⟩=some (.int .i64 tk)∧w.cell? (pa.add (tk * 5))=some (.int .i64 W)∧w.cell? ⟨(pa.add (tk * 5)).block,(pa.add (tk * 5)).off+1,none⟩=some (.int .i64 h)∧w.cell? ⟨(pa.add (tk * 5)).block,(pa.add (tk * 5)).off+2,none⟩=some (.int .i64 b)∧w.cell? ⟨(pa.add (tk * 5)).block,(pa.add (tk * 5)).off+3,none⟩=some (.slice A3 M c3)∧w.cell? ⟨(pa.add (tk * 5)).block,(pa.add (tk * 5)).off+4,none⟩=some (.slice A4 M c4) from ⟨(cells10 hpb).1,(cells10 hpb).2.1,(cells10 hpb).2.2.1,(cells10 hpb).2.2.2.1,(cells10 hpb).2.2.2.2.1,(cells10 hpb).2.2.2.2.2.1,q2.2.1,z0,z1,z2,z3,z4⟩);have q3:=q2.1;clear H hpb l1 l2 hrw hd hq2 z0 z1 z2 z3 z4 g3 g4 l3 l4 ho hQ q2 hne hne2 hz hdl hq hr hqf hp
 go_enter Try.func19,Try.ntmps19
 go_upto_region 9 with fail
 clear q3;refine sT (n:=23) (S:=fun w'=>w'.cell? ⟨P,0,none⟩=some (.int .i64 W)∧w'.cell? ⟨P,1,none⟩=some (.int .i64 h)∧w'.cell? ⟨P,2,none⟩=some (.int .i64 b)∧w'.cell? ⟨P,3,none⟩=some (.slice (some ad) M c)∧w'.cell? ⟨P,4,none⟩=some (.slice (some ad2) M c2)∧w'.cell? ⟨P,5,none⟩=some (.slice (some pa) n pc)∧w'.cell? ⟨Q,o+1,none⟩=some (.int .i64 tk)∧w'.cell? (pa.add (tk * 5))=some (.int .i64 W)∧w'.cell? ⟨(pa.add (tk * 5)).block,(pa.add (tk * 5)).off+1,none⟩=some (.int .i64 h)∧w'.cell? ⟨(pa.add (tk * 5)).block,(pa.add (tk * 5)).off+2,none⟩=some (.int .i64 b)∧w'.cell? ⟨(pa.add (tk * 5)).block,(pa.add (tk * 5)).off+3,none⟩=some (.slice A3 M c3)∧w'.cell? ⟨(pa.add (tk * 5)).block,(pa.add (tk * 5)).off+4,none⟩=some (.slice A4 M c4)) (ds:=[22]) (by kernel_rfl) rfl ZZ.out (fun hHeld=>?_);refine with_tabW pool_step.tab9 pool_step.bits9 (fun HT_ HW_=>?_);refine zp 0 43 ?_;refine zp 1 44 ?_;refine zp 2 45 ?_;refine zp 3 46 ?_;refine zp 5 48 ?_;refine zp 6 49 ?_;refine zp 7 50 ?_;refine zp 9 52 ?_;refine zp 10 53 ?_;refine zp 11 54 ?_;refine zt 4 47 ?_;refine zt 8 51 ?_;refine zt 12 55 ?_;refine zp 13 56 ?_;refine zt 14 57 ?_
 refine oN 15 (some 58) rfl rfl fun K hK=>?_
 obtain ⟨wc,hwc⟩ : ∃ z,w.drew=z:=⟨_,rfl⟩;have HW : Aside0 (Below w.heap.size w wc):=⟨by rw [← hwc];exact below_drew1 (Below.refl _ _)⟩;rw [hwc];clear hwc;refine value_ (w1:=?_) (v:=?_) (by rfl) rfl ?_ ?_;rotate_left 2
 ·go_simp
  constructor
  ·rfl
  ·rfl
 have HL : Aside0 (Kd.C k27 (wc.alloc (.cells #[.int .i64 W,.int .i64 h,.int .i64 b,.slice (some ad) M c,.slice (some ad2) M c2,.int .i64 W,.int .i64 h,.int .i64 b,.slice A3 M c3,.slice A4 M c4] 27)) (some ⟨wc.heap.size,0,none⟩) 2 ([q,p].map (mkF W h b))):=⟨film_lit (W:=wc) (k27.K_below HW.out KF.out) (k27.K_below HW.out KP.out)⟩;replace HW:=Aside0.mk (below_alloc HW.out (.cells #[.int .i64 W,.int .i64 h,.int .i64 b,.slice (some ad) M c,.slice (some ad2) M c2,.int .i64 W,.int .i64 h,.int .i64 b,.slice A3 M c3,.slice A4 M c4] 27));refine hK.out _ _ (kE HW.out ZZ.out) (fun hHeld=>?_);clear hK K;refine nZ ?_
 refine oN 16 (some 59) rfl rfl fun K hK=>?_
 refine goes_ Try.func14 (by kernel_rfl) rfl #[.slice (some ⟨wc.heap.size,0,none⟩) 2 2] (by rfl) rfl rfl (by simp only [List.map_toArray,List.map_cons,List.map_nil];rfl) ?_
 with_reducible refine (filmsum2 hs hM HQP.out.1 HQP.out.2 HL.out).mono ?_
 rintro e w1 ⟨ae,ce,ae2,ce2,rfl,lce,lce2,hrw,hb⟩;refine ⟨_,rfl,?_⟩;have HRW:=Aside0.mk (hrw.lower (Nat.le_trans HH.out.lo.size HW.out.size));replace HW:=Aside0.mk (below_step HW.out hb);have HLC:=Aside0.mk (And.intro lce lce2);clear hrw hb lce lce2;refine hK.out _ _ (kE HW.out ZZ.out) (fun hHeld=>?_);clear hK K;refine nZ ?_;refine zp 17 42 ?_;refine zp 18 60 ?_;refine zp 19 61 ?_;refine zp 20 62 ?_;refine zp 21 63 ?_
 refine lN 22 (none) rfl rfl fun K hK=>?_
 have q0:=cells10 (blk_below HP.out HW.out);have q1:=free10 (blk_below HP.out HW.out);refine skip_ (w1:=?_) (by rfl) rfl ?_ ?_;rotate_left
 ·go_simp
  rfl
 clear q0 q1;refine hK.out _ _ ?_;clear hK K;refine dN ?_;have HP2 : (set5 w1 P (.int .i64 W) (.int .i64 h) (.int .i64 b) (.slice (some ae) M ce) (.slice (some ae2) M ce2)).heap[P]? = some (.cells #[.int .i64 W,.int .i64 h,.int .i64 b,.slice (some ae) M ce,.slice (some ae2) M ce2,.slice (some pa) n pc,.int .i64 s.c,.bool s.l,.slice (some qa) k k,dv] 45 (0,0)):=put10 (blk_below HP.out HW.out) _ _ _ _ _;have k2 : Tk [3,63,82] w1 (set5 w1 P (.int .i64 W) (.int .i64 h) (.int .i64 b) (.slice (some ae) M ce) (.slice (some ae2) M ce2)):=tk_set5 (blk_below HP.out HW.out) (by decide) _ _ _ _ _ inferInstance;have HH2 : Aside0 (PlaySt w0 (((((w1.setCell ⟨P,0,none⟩ (.int .i64 W)).setCell ⟨P,1,none⟩ (.int .i64 h)).setCell ⟨P,2,none⟩ (.int .i64 b)).setCell ⟨P,3,none⟩ (.slice (some ae) M ce)).setCell ⟨P,4,none⟩ (.slice (some ae2) M ce2)) P qa W h b M (some pa) n pc k s (q.add p)):=⟨⟨low5 (below_step HH.out.lo HW.out) HH.out.pl _ _ _ _ _,HH.out.pl,HH.out.ql,⟨ae,ce,ae2,ce2,dv,HP2,HLC.out.1,HLC.out.2,HRW.out.tk (k2.less (by simp)),IRow.tk (pw_own_below HD.out HW.out) (k2.less (by simp))⟩,⟨HH.out.wk.z,far5 (blk_below HH.out.wk.b HW.out) (HO.out.2 ▸ HNE.out.1) _ _ _ _ _⟩⟩⟩;clear k2 HP2 HRW HLC HL KF KP ZZ HP HQ HD HW HH hHeld;obtain ⟨w,hw_⟩ : ∃ z,((((w1.setCell ⟨P,0,none⟩ (.int .i64 W)).setCell ⟨P,1,none⟩ (.int .i64 h)).setCell ⟨P,2,none⟩ (.int .i64 b)).setCell ⟨P,3,none⟩ (.slice (some ae) M ce)).setCell ⟨P,4,none⟩ (.slice (some ae2) M ce2)=z:=⟨_,rfl⟩;rw [hw_] at HH2 ⊢;clear hw_;obtain ⟨adx,cx,adx2,cx2,dv,hpb,l1,l2,hrw,hd⟩:=HH2.out.ex
 have q2:=HH2.out.wk.at hi;rw [HO.out.1,HE.out,h0] at q2;dsimp only at q2;have HP:=Aside0.mk hpb;have HQ:=Aside0.mk HH2.out.wk.b;rw [HO.out.2] at HQ;have HD:=Aside0.mk hd;have HWK:=Aside0.mk q2;have HLO:=Aside0.mk HH2.out.lo;have HRX:=Aside0.mk hrw;have HL2:=Aside0.mk (And.intro l1 l2);clear hpb hd q2 hrw l1 l2
 go_upto_region 10 with fail
 refine sT (n:=14) (S:=fun w'=>w'.cell? ⟨P,9,none⟩=some dv∧w'.cell? ⟨Q,o+1,none⟩=some (.int .i64 tk)) (ds:=[13]) (by kernel_rfl) rfl ⟨(cells10 HP.out).2.2.2.2.2.2.2.2.2,HWK.out.2.1⟩ (fun hHeld=>?_);refine with_tabW pool_step.tab10 pool_step.bits10 (fun HT_ HW_=>?_);refine zp 0 64 ?_;refine zp 1 65 ?_;refine zp 2 66 ?_;refine zp 3 67 ?_;refine zp 5 69 ?_;refine zp 6 70 ?_;refine zp 7 71 ?_;refine zt 4 68 ?_;refine zt 8 72 ?_
 refine oN 9 (some 73) rfl rfl fun K hK=>?_
 obtain ⟨wc,hwc⟩ : ∃ z,w.drew=z:=⟨_,rfl⟩;have HW : Aside0 (Below w.heap.size w wc):=⟨by rw [← hwc];exact below_drew1 (Below.refl _ _)⟩;rw [hwc];clear hwc;have HPc:=Aside0.mk (blk_below HP.out HW.out);have HQc:=Aside0.mk (blk_below HQ.out HW.out);have HDc:=Aside0.mk (pw_own_below HD.out HW.out);have HLc:=Aside0.mk (below_step HLO.out HW.out);have HKc:=Aside0.mk (keepc HW.out HWK.out.2.1);refine value_ (w1:=?_) (v:=?_) (by rfl) rfl ?_ ?_;rotate_left 2
 ·go_simp
  constructor
  ·rfl
  ·rfl
 refine hK.out _ _ ⟨(cells10 (blk_alloc HPc.out _)).2.2.2.2.2.2.2.2.2,keepc (below_alloc (Below.refl wc.heap.size wc) _) HKc.out⟩ (fun hHeld=>?_);clear hK K;refine nZ ?_
 refine oN 10 (some 74) rfl rfl fun K hK=>?_
 refine step_append_cells (w0:=w0) w0.heap.size (by rfl) (.tmp 68) (.tmp 73) 23 3 (.int .i64 0) 1 8 rfl Try.underlying23 info3 rfl (by decide) (by decide) _ _ _ [.int .i64 tk] rfl rfl rfl (by simp [Value.oneCell']) HDc.out HLc.out HLc.out.size (by have:=HDL.out;rw [List.length_map];omega) ?_;intro vn w1 hown hB3 hg hat;obtain ⟨A5,c5,e5⟩:=own_slice hown;subst e5;have HD1:=Aside0.mk hown;have HLO1:=Aside0.mk hB3;have HK1 : Aside0 (Tk [63,82] wc w1):=⟨tk_grown3 hg HDc.out⟩;have HP1:=Aside0.mk (blk_grown HPc.out hg (own_ne HDc.out HPc.out (by decide)));have HQ1:=Aside0.mk (blk_grown HQc.out hg (own_ne HDc.out HQc.out (by decide)));clear hown hB3 hg hat;refine hK.out _ _ ⟨(cells10 HP1.out).2.2.2.2.2.2.2.2.2,(blk_cell HQ1.out _).trans ((blk_cell HQ.out _).symm.trans HWK.out.2.1)⟩ (fun hHeld=>?_);clear hK K;refine nZ ?_;refine zp 11 75 ?_;refine zp 12 76 ?_
 refine lN 13 (none) rfl rfl fun K hK=>?_
 have q0:=cells10 HP1.out;have q1:=free10 HP1.out;refine skip_ (w1:=?_) (by rfl) rfl ?_ ?_;rotate_left
 ·go_simp
  rfl
 clear q0 q1;refine hK.out _ _ ?_;clear hK K;refine dN ?_
 have HX : Aside0 (PlaySt w0 (w1.setCell ⟨P,9,none⟩ (.slice A5 (s.done.length+1) c5)) P qa W h b M (some pa) n pc k ⟨s.c,s.l,s.ws,s.done++[tk]⟩ (q.add p)):=⟨by
  have k3 : Tk [3,63,82] w1 (w1.setCell ⟨P,9,none⟩ (.slice A5 (s.done.length+1) c5)):=tk_set1 HP1.out (by decide) 9 _ inferInstance
  have hI : IRow w1 w0.heap.size (.slice A5 (s.done.length+1) c5) ((s.done++[tk]).map Int.ofNat):=by
   have h:=HD1.out;have e1 : (s.done.map Int.ofNat).length=s.done.length:=List.length_map ..
   have e2 : ((s.done++[tk]).map Int.ofNat).length=s.done.length+1:=by simp
   show w1.slackRow w0.heap.size 3 1 _ ((s.done++[tk]).map Int.ofNat).length (nums .i64 ((s.done++[tk]).map Int.ofNat))
   rw [e1] at h;rw [e2,List.map_append,nums_append];exact h
  exact ⟨HLO1.out.setCell (p:=⟨P,9,none⟩) HH2.out.pl _,HH2.out.pl,HH2.out.ql,⟨adx,cx,adx2,cx2,_,blk_put HP1.out 9 _ rfl,HL2.out.1,HL2.out.2,((HRX.out.below HW.out).tk HK1.out).tk (k3.less (by simp)),IRow.tk hI (k3.less (by simp))⟩,⟨HH2.out.wk.z,by rw [HO.out.2];exact far1 HQ1.out HNE.out.1 _ _⟩⟩⟩
 clear HH2 HRX HL2 HK1 HP1 HQ1 HD1 HLO1 HW;obtain ⟨w3,hw3⟩ : ∃ z,w1.setCell ⟨P,9,none⟩ (.slice A5 (s.done.length+1) c5)=z:=⟨_,rfl⟩;rw [hw3] at HX ⊢;clear hw3;obtain ⟨_,_,_,_,dv3,hp3,_⟩:=HX.out.ex;have q0:=cells10 hp3;have q1:=free10 hp3;have q2:=HX.out.wk.at (i:=i) hi;rw [HO.out.1,HE.out] at q2;dsimp only at q0 q2;rw [h0] at q2;dsimp only at q2;have hne:=HNE.out.1;have hne2:=HNE.out.2;clear hp3
 go_wp2
 refine ⟨rfl,_,results_void rfl _ _,rfl,?_⟩;obtain ⟨rfl,rfl⟩:=HO.out;have k1:=HX.out.wk.set1 (i:=i) hi 0
 have k2 : Tk [3,63,82] w3 (w3.setCell (qa.add (i * 2)) (.int .i64 ((0 : Nat) : Int))):=by
  rw [HE.out];exact tk_set1 HX.out.wk.b (by decide) _ _ inferInstance
 have k4 : (w3.setCell (qa.add (i * 2)) (.int .i64 ((0 : Nat) : Int))).heap[P]? = w3.heap[P]?:=by
  rw [HE.out];exact Below.heap_setCell w3 ⟨qa.block,i * 2,none⟩ _ P HNE.out.2
 have k5 : Below w0.heap.size w0 (w3.setCell (qa.add (i * 2)) (.int .i64 ((0 : Nat) : Int))):=by
  rw [HE.out];exact HX.out.lo.setCell (p:=⟨qa.block,i * 2,none⟩) HX.out.ql _
 have e9 : (⟨s.c,s.l,s.ws,s.done++[tk]⟩ : PS).ws[i]=(3,tk):=h0;dsimp only at k1;rw [h0] at k1;rw [HE.out,show ((0 : Nat) : Int)=0 from rfl] at k1 k2 k4 k5;have k3:=HX.out.setW k1 k5 k2 k4;obtain ⟨w4,hw4⟩ : ∃ z,w3.setCell ⟨qa.block,i * 2,none⟩ (.int .i64 0)=z:=⟨_,rfl⟩;rw [hw4] at k3 ⊢;rw [← hn];exact k3.setP (i:=7) (c':=s.c) (l':=false) (.inr ⟨rfl,rfl,rfl⟩)
end
end Go.Proofs.Ytjiaobcoeegioaa.Pq
end
