import Derived.Test.YtncdiodnbkhacaaDoorDBack5
import Derived.Test.YtncdiodnbkhacaaDoorCards
import Derived.Test.YtncdiodnbkhacaaDoorProg
import Derived.Test.YtncdiodnbkhacaaDoorRows
import Derived.Test.YtncdiodnbkhacaaDoorTie
set_option linter.unusedVariables false
set_option linter.unusedSimpArgs false
section
namespace Go.Proofs.YtncdiodnbkhacaaDoor.N
set_option linter.unusedVariables false
set_option linter.unusedSimpArgs false
open Go Go.RowKit Go.Proofs.YtncdiodnbkhacaaDoorW.PrintWords Go.Proofs.YtncdiodnbkhacaaDoorW.PrintLast Go.Proofs.YtncdiodnbkhacaaDoorW.PrintMore Go.Proofs.YtncdiodnbkhacaaDoor.Pq
def gz (x y : Int) : Int:=(Int.gcd x y : Int)
theorem gz_nonneg (x y : Int) : 0≤gz x y:=Int.natCast_nonneg _
theorem gz_nat (m n : Nat) : gz (m : Int) (n : Int)=(Nat.gcd m n : Int):=by
 unfold gz
 rw [Int.gcd_natCast_natCast]
theorem gz_zero {x : Int} (h : 0≤x) : gz x 0=x:=by
 obtain ⟨m,rfl⟩:=Int.eq_ofNat_of_zero_le h
 have:=gz_nat m 0
 rw [Nat.gcd_zero_right] at this
 exact this
theorem gz_step {x y : Int} (hx : 0≤x) (hy : 0≤y) : gz y (x % y)=gz x y:=by
 obtain ⟨m,rfl⟩:=Int.eq_ofNat_of_zero_le hx
 obtain ⟨n,rfl⟩:=Int.eq_ofNat_of_zero_le hy
 have e : ((m : Int) % (n : Int))=((m % n : Nat) : Int):=rfl
 rw [e,gz_nat,gz_nat,Nat.gcd_comm n,← Nat.gcd_rec,Nat.gcd_comm]
theorem gz_comm (x y : Int) : gz x y=gz y x:=by unfold gz;rw [Int.gcd_comm]
theorem gz_dvd_left (x y : Int) : gz x y ∣ x:=Int.gcd_dvd_left ..
theorem gz_dvd_right (x y : Int) : gz x y ∣ y:=Int.gcd_dvd_right ..
theorem gz_lt {x y B : Int} (hx : 0≤x) (hy : 0≤y) (hxB : x < B) (hyB : y < B) : gz x y < B:=by
 rcases Int.lt_or_eq_of_le hx with h|h
 ·have:=Int.le_of_dvd h (gz_dvd_left x y)
  omega
 ·subst h
  rw [gz_comm,gz_zero hy]
  exact hyB
theorem gz_mul {x y z : Int} (hx : 0≤x) (hy : 0≤y) (hz : 0≤z) : gz (x * z) (y * z)=gz x y * z:=by
 obtain ⟨m,rfl⟩:=Int.eq_ofNat_of_zero_le hx
 obtain ⟨n,rfl⟩:=Int.eq_ofNat_of_zero_le hy
 obtain ⟨q,rfl⟩:=Int.eq_ofNat_of_zero_le hz
 rw [← Int.natCast_mul,← Int.natCast_mul,gz_nat,gz_nat,Nat.gcd_mul_right,Int.natCast_mul]
theorem gz_div {x y : Int} (hx : 0≤x) (hy : 0≤y) (h : 0 < gz x y) : gz (x / gz x y) (y / gz x y)=1:=by
 have h1:=gz_mul (x:=x / gz x y) (y:=y / gz x y) (z:=gz x y) (Int.ediv_nonneg hx (Int.le_of_lt h)) (Int.ediv_nonneg hy (Int.le_of_lt h)) (Int.le_of_lt h)
 rw [Int.ediv_mul_cancel (gz_dvd_left x y),Int.ediv_mul_cancel (gz_dvd_right x y)] at h1
 have h2 : gz (x / gz x y) (y / gz x y) * gz x y=1 * gz x y:=by rw [← h1,Int.one_mul]
 exact Int.eq_of_mul_eq_mul_right (by omega) h2
theorem L_len0 {x : Int} (h : 0≤x) : ((L x).length : Int)=0↔x=0:=by
 rw [← L_nil_iff h]
 constructor
 ·intro e;exact List.eq_nil_of_length_eq_zero (by omega)
 ·intro e;rw [e];rfl
theorem dmS_pos {x y : Int} (h : 0 < y) : dmS x y=(L (x / y),L (x % y),true):=if_neg (by omega)
theorem gcd_l0 {N : Nat} (hN : N < 35184360000000) : ∀ (M : Nat) (x y : Int),y.toNat < M→0≤x→0≤y→x < P N→y < P N→Ev (fun k=>root_Gcd.l0 k (L x) (L y)) (L (gz x y)):=by
 intro M
 induction M with
|zero=>intro x y h;omega
|succ M ih =>
  intro x y hM hx hy hxN hyN
  have hl:=L_len0 hy
  refine Ev_up ?_
  unfold root_Gcd.l0
  by_cases h0 : y=0
  ·have h1 : ¬ ((L y).length : Int) > 0:=by rw [hl.2 h0];decide
   refine Ev_neg h1 ?_
   refine Ev_now ?_
   rw [h0,gz_zero hx]
  ·have hp : 0 < y:=by omega
   have h1 : ((L y).length : Int) > 0:=by
    have : ((L y).length : Int)≠0:=fun e=>h0 (hl.1 e)
    omega
   have m0:=Int.emod_nonneg x h0
   have m1:=Int.emod_lt_of_pos x hp
   refine Ev_pos h1 ?_
   refine Ev.bind ((Nm.L hx hxN).dm (Nm.L hy hyN) hN hN) ?_
   rw [dmS_pos hp,← gz_step hx hy]
   exact ih y (x % y) (by omega) hy m0 hyN (by omega)
theorem Nm.gcd {a b : List Int} {m n : Nat} {x y : Int} (h : Nm a m x) (k : Nm b n y) (hm : m < 17592180000000) (hn : n < 17592180000000) : Ev (fun r=>root_Gcd.f r a b) (N.L (gz x y)):=by
 refine Ev_some (h.nrm (by omega)) ?_
 refine Ev_some (k.nrm (by omega)) ?_
 exact gcd_l0 (N:=m+n) (by omega) _ x y (Nat.lt_succ_self _) h.pos k.pos (Int.lt_of_lt_of_le h.lt (P_le (by omega))) (Int.lt_of_lt_of_le k.lt (P_le (by omega)))
theorem Nm.gcdL {a b : List Int} {m n : Nat} {x y : Int} (h : Nm a m x) (k : Nm b n y) : Nm (N.L (gz x y)) (m+n) (gz x y) :=
 Nm.L (gz_nonneg x y) (gz_lt h.pos k.pos (Int.lt_of_lt_of_le h.lt (P_le (by omega))) (Int.lt_of_lt_of_le k.lt (P_le (by omega))))
end Go.Proofs.YtncdiodnbkhacaaDoor.N
end
section
namespace Go.Proofs.YtncdiodnbkhacaaDoor.N
set_option linter.unusedVariables false
set_option linter.unusedSimpArgs false
open Go Go.RowKit Go.Proofs.YtncdiodnbkhacaaDoorW.PrintWords Go.Proofs.YtncdiodnbkhacaaDoorW.PrintLast Go.Proofs.YtncdiodnbkhacaaDoorW.PrintMore Go.Proofs.YtncdiodnbkhacaaDoor.Pq
def ratS (neg : Bool) (x y : Int) : Bool × List Int × List Int:=if x=0∨y=0 then (false,[],[1]) else (neg,L (x / gz x y),L (y / gz x y))
theorem ratS_zero {neg : Bool} {x y : Int} (h : x=0∨y=0) : ratS neg x y=(false,[],[1]):=if_pos h
theorem ratS_pos {neg : Bool} {x y : Int} (h : ¬ (x=0∨y=0)) : ratS neg x y=(neg,L (x / gz x y),L (y / gz x y)):=if_neg h
theorem gz_pos {x y : Int} (h : ¬ (x=0∨y=0)) : 0 < gz x y:=by
 have h1:=gz_nonneg x y
 by_cases h2 : gz x y=0
 ·exfalso
  have h3:=gz_dvd_left x y
  rw [h2] at h3
  exact h (.inl (Int.zero_dvd.mp h3))
 ·omega
theorem gz_le {x y : Int} (hx : 0≤x) (h : ¬ (x=0∨y=0)) : gz x y≤x:=Int.le_of_dvd (by omega) (gz_dvd_left x y)
theorem made_f {a b : List Int} {m n : Nat} {x y : Int} (h : Nm a m x) (k : Nm b n y) (hm : m < 1000000000) (hn : n < 1000000000) (neg : Bool) : Ev (fun r=>rat_made.f r neg a b) (ratS neg x y):=by
 have hx:=h.pos
 have hy:=k.pos
 have jT : ∀ (l : List Int) (l' : List Int),Ev (fun r=>rat_made.j0 r neg l l' true) (false,[],[1]):=fun l l'=>by
  refine Ev_up ?_
  unfold rat_made.j0
  exact Ev_pos rfl (Ev.now _)
 unfold rat_made.f
 refine Ev_some (h.nrm (by omega)) ?_
 refine Ev_some (k.nrm (by omega)) ?_
 by_cases hx0 : x=0
 ·refine Ev_pos ((L_len0 hx).mpr hx0) ?_
  rw [ratS_zero (.inl hx0)]
  exact jT _ _
 ·refine Ev_neg (fun hh=>hx0 ((L_len0 hx).mp hh)) ?_
  by_cases hy0 : y=0
  ·rw [ratS_zero (.inr hy0),show (((N.L y).length : Int) == 0)=true from beq_iff_eq.mpr ((L_len0 hy).mpr hy0)]
   exact jT _ _
  ·have h0 : ¬ (x=0∨y=0):=by omega
   have hg:=gz_pos h0
   have hgx:=gz_le hx h0
   rw [ratS_pos h0,show (((N.L y).length : Int) == 0)=false from beq_eq_false_iff_ne.mpr (fun hh=>hy0 ((L_len0 hy).mp hh))]
   have jj : Ev (fun r=>rat_made.j1 r neg (L x) (L y) (L (gz x y)) true) (neg,L (x / gz x y),L (y / gz x y)):=by
    refine Ev_up ?_
    unfold rat_made.j1
    refine Ev_pos rfl ?_
    refine Ev.bind (h.norm.dm (h.norm.gcdL k.norm) (by omega) (by omega)) ?_
    refine Ev.bind (k.norm.dm (h.norm.gcdL k.norm) (by omega) (by omega)) ?_
    rw [dmS_pos hg,dmS_pos hg]
    exact Ev.now _
   refine Ev_up ?_
   simp only [rat_made.j0]
   refine Ev_neg (by simp) ?_
   refine Ev.bind (h.norm.gcd k.norm (by omega) (by omega)) ?_
   by_cases hl : ((L (gz x y)).length : Int) > 1
   ·exact Ev_pos hl jj
   ·have hl0 : 0 < (L (gz x y)).length:=L_length_lt (m:=0) (by rw [P_zero];omega)
    refine Ev_neg hl ?_
    refine Ev_pos (by omega) ?_
    by_cases h1 : rd (L (gz x y)) 0 > 1
    ·rw [decide_eq_true h1]
     exact jj
    ·rw [decide_eq_false h1]
     have hb : gz x y < 4294967296:=by
      have h9:=V_lt (W_L (gz x y))
      have e1 : (L (gz x y)).length=1:=by omega
      rw [V_L (Int.le_of_lt hg),e1,show P 1=4294967296 by decide +kernel] at h9
      exact h9
     have hgg : gz x y=1:=by
      rw [L_pos hg] at h1
      have e2 : rd (gz x y % 4294967296 :: L (gz x y / 4294967296)) 0=gz x y % 4294967296:=rfl
      rw [e2] at h1
      generalize gz x y=g at *
      omega
     refine Ev_up ?_
     simp only [rat_made.j1]
     refine Ev_neg (by simp) ?_
     rw [hgg,Int.ediv_one,Int.ediv_one]
     exact Ev.now _
theorem read_f {a b : List Int} {m n : Nat} {x y : Int} (h : Nm a m x) (k : Nm b n y) (hm : m < 1000000000) (hn : n < 1000000000) (neg : Bool) : Ev (fun r=>rat_Read.f r neg a b) (ratS neg x y):=by
 unfold rat_Read.f
 refine Ev.bind (made_f h k hm hn neg) ?_
 exact Ev.now _
theorem ratS_parts {m n : Nat} {x y : Int} (hx : 0≤x) (hy : 0≤y) (hxm : x < P m) (hyn : y < P n) (neg : Bool) :
  ∃ s p q,ratS neg x y=(s,L p,L q)∧Nm (L p) m p∧Nm (L q) (n+1) q∧0 < q:=by
 by_cases h : x=0∨y=0
 ·refine ⟨false,0,1,by rw [ratS_zero h,L_zero,show L 1=[1] by rw [L_pos (by decide),show (1 : Int) / 4294967296=0 from rfl,L_zero];rfl],?_,?_,by decide⟩
  ·exact Nm.zero.up (Nat.zero_le _)
  ·rw [show L 1=[1] by rw [L_pos (by decide),show (1 : Int) / 4294967296=0 from rfl,L_zero];rfl]
   exact Nm.one.up (by omega)
 ·have hg:=gz_pos h
  refine ⟨neg,x / gz x y,y / gz x y,ratS_pos h,?_,?_,?_⟩
  ·exact Nm.L (Int.ediv_nonneg hx (by omega)) (Int.lt_of_le_of_lt (Int.ediv_le_self _ hx) hxm)
  ·exact (Nm.L (n:=n) (Int.ediv_nonneg hy (by omega)) (Int.lt_of_le_of_lt (Int.ediv_le_self _ hy) hyn)).up (by omega)
  ·exact Int.ediv_pos_of_pos_of_dvd (by omega) (by omega) (gz_dvd_right x y)
end Go.Proofs.YtncdiodnbkhacaaDoor.N
end
section
namespace Go.Proofs.YtncdiodnbkhacaaDoor.N
set_option linter.unusedVariables false
set_option linter.unusedSimpArgs false
open Go Go.RowKit Go.Proofs.YtncdiodnbkhacaaDoorW.PrintWords Go.Proofs.YtncdiodnbkhacaaDoorW.PrintLast Go.Proofs.YtncdiodnbkhacaaDoorW.PrintMore Go.Proofs.YtncdiodnbkhacaaDoor.Pq
def bs (b : ByteArray) : List UInt8:=b.data.toList
theorem bs_mk (l : List UInt8) : bs ⟨l.toArray⟩=l:=rfl
theorem bs_size (b : ByteArray) : b.size=(bs b).length:=by
 unfold bs
 rw [Array.length_toList]
 rfl
theorem bs_list (b : ByteArray) : b.toList=bs b:=ByteArray.toList_eq b
theorem bs_append (a b : ByteArray) : bs (a++b)=bs a++bs b:=by
 unfold bs
 rw [ByteArray.data_append,Array.toList_append]
theorem bs_extract (b : ByteArray) (i j : Nat) : bs (b.extract i j)=((bs b).take j).drop i:=by
 unfold bs
 rw [ByteArray.data_extract,Array.toList_extract,List.extract_eq_take_drop,List.drop_take]
theorem bs_first (b : ByteArray) (i : Nat) : bs (b.extract 0 i)=(bs b).take i:=by rw [bs_extract,List.drop_zero]
theorem bs_rest (b : ByteArray) (i : Nat) : bs (b.extract i b.size)=(bs b).drop i:=by rw [bs_extract,bs_size,List.take_length]
theorem bs_bt (b : ByteArray) (i : Nat) : bt b (i : Int)=(((bs b).getD i 0).toNat : Int):=by
 unfold bt
 rw [Int.toNat_natCast]
 by_cases h : i < b.size
 ·rw [dif_pos h]
  have h2 : i < (bs b).length:=by rw [← bs_size];exact h
  rw [List.getD_eq_getElem?_getD,List.getElem?_eq_getElem h2,Option.getD_some]
  rfl
 ·rw [dif_neg h]
  have h2 : ¬ i < (bs b).length:=by rw [← bs_size];exact h
  rw [List.getD_eq_getElem?_getD,List.getElem?_eq_none (by omega)]
  rfl
def isD (c : UInt8) : Bool:=decide (48≤c.toNat) && decide (c.toNat≤57)
theorem isD_iff {c : UInt8} : isD c=true↔48≤c.toNat∧c.toNat≤57:=by
 unfold isD
 simp
def nd (l : List UInt8) : Nat:=(l.takeWhile isD).length
theorem nd_le (l : List UInt8) : nd l≤l.length:=List.Sublist.length_le (List.takeWhile_sublist _)
theorem nd_cons_pos {c : UInt8} {l : List UInt8} (h : isD c=true) : nd (c :: l)=nd l+1:=by
 unfold nd
 rw [List.takeWhile_cons_of_pos h]
 rfl
theorem nd_cons_neg {c : UInt8} {l : List UInt8} (h : ¬ isD c=true) : nd (c :: l)=0:=by
 unfold nd
 rw [List.takeWhile_cons_of_neg h]
 rfl
theorem nd_all {l : List UInt8} : ∀ c∈l.take (nd l),isD c=true:=by
 intro c hc
 have h1 : l.take (nd l)=l.takeWhile isD:=by
  have h2:=List.takeWhile_append_dropWhile (p:=isD) (l:=l)
  have h3 : (l.takeWhile isD++l.dropWhile isD).take (nd l)=l.takeWhile isD:=by
   unfold nd
   rw [List.take_left]
  rw [h2] at h3
  exact h3
 rw [h1] at hc
 exact (List.all_eq_true.mp (List.all_takeWhile (p:=isD) (l:=l))) c hc
theorem tenth : ∀ n : Fin 256,([48,49,50,51,52,53,54,55,56,57] : List UInt8).contains (UInt8.ofNat n.val)=isD (UInt8.ofNat n.val):=by decide +kernel
theorem digit_set (c : UInt8) : ([48,49,50,51,52,53,54,55,56,57] : List UInt8).contains c=isD c:=by
 have h:=tenth ⟨c.toNat,c.toNat_lt⟩
 rw [show UInt8.ofNat (Fin.val (⟨c.toNat,c.toNat_lt⟩ : Fin 256))=c from UInt8.ofNat_toNat] at h
 exact h
theorem digits_f {b : ByteArray} (hb : b.size≤140737488351232) : decimal_digits.f b=some ((nd (bs b) : Nat) : Int):=by
 have hs:=bs_size b
 unfold decimal_digits.f strings_TrimLeft.f
 rw [if_pos ⟨by decide,by decide +kernel⟩,Option.bind_some]
 have h1 : (b.data.toList.dropWhile fun x=>(⟨#[48,49,50,51,52,53,54,55,56,57]⟩ : ByteArray).data.toList.contains x)=(bs b).dropWhile isD:=by
  show (bs b).dropWhile _=_
  congr 1
  funext c
  exact digit_set c
 rw [h1,bs_size ⟨((bs b).dropWhile isD).toArray⟩,bs_mk]
 have h2:=congrArg List.length (List.takeWhile_append_dropWhile (p:=isD) (l:=bs b))
 rw [List.length_append] at h2
 have h3 : (nd (bs b) : Nat)=((bs b).takeWhile isD).length:=rfl
 rw [wrap64_of (by omega) (by omega)]
 congr 1
 omega
def nv (v : Int) : List UInt8→Int
|[]=>v
|c :: l=>nv (v * 10+((c.toNat : Int) - 48)) l
theorem nv_append (v : Int) (l m : List UInt8) : nv v (l++m)=nv (nv v l) m:=by
 induction l generalizing v with
|nil=>rfl
|cons c l ih=>exact ih _
theorem nv_ahead (v : Int) (l : List UInt8) : nv v l=v * 10 ^ l.length+nv 0 l:=by
 induction l generalizing v with
|nil=>simp [nv]
|cons c l ih =>
  show nv _ l=_ * 10 ^ (l.length+1)+nv (0 * 10+((c.toNat : Int) - 48)) l
  rw [ih,ih (0 * 10+((c.toNat : Int) - 48)),Int.pow_succ,Int.add_mul,Int.add_mul,Int.mul_assoc v 10,Int.mul_comm 10]
  omega
theorem nv_bound {l : List UInt8} (hd : ∀ c∈l,isD c=true) {v : Int} {n : Nat} (h0 : 0≤v) (h : v < 10 ^ n) : 0≤nv v l∧nv v l < 10 ^ (n+l.length):=by
 induction l generalizing v n with
|nil=>exact ⟨h0,h⟩
|cons c l ih =>
  have hc:=isD_iff.mp (hd c (List.mem_cons_self ..))
  have e : n+(c :: l).length=(n+1)+l.length:=by simp;omega
  rw [e]
  refine ih (fun x hx=>hd x (List.mem_cons_of_mem _ hx)) (by omega) ?_
  rw [Int.pow_succ]
  omega
theorem ten_P (n : Nat) : (10 : Int) ^ n≤P n:=by
 induction n with
|zero=>rw [P_zero,Int.pow_zero];exact Int.le_refl _
|succ n ih =>
  rw [P_succ,Int.pow_succ]
  have:=P_pos n
  omega
theorem ten_pos (n : Nat) : (0 : Int) < 10 ^ n:=Int.pow_pos (by decide)
end Go.Proofs.YtncdiodnbkhacaaDoor.N
end
section
namespace Go.Proofs.YtncdiodnbkhacaaDoor.N
set_option linter.unusedVariables false
set_option linter.unusedSimpArgs false
open Go Go.RowKit Go.Proofs.YtncdiodnbkhacaaDoorW.PrintWords Go.Proofs.YtncdiodnbkhacaaDoorW.PrintLast Go.Proofs.YtncdiodnbkhacaaDoorW.PrintMore Go.Proofs.YtncdiodnbkhacaaDoor.Pq
theorem pow9 : ∀ n : Fin 10,(10 : Int) ^ n.val≤1000000000:=by decide +kernel
theorem u64_of {x : Int} (h0 : 0≤x) (h1 : x < 18446744073709551616) : IntKind.u64.wrap x=x:=wrap_u64_of h0 h1
theorem number_l1 {b : ByteArray} (hb : b.size≤1000000) (hd : ∀ c∈bs b,isD c=true) {n : Nat} (hn : n≤9) (hnl : n≤(bs b).length) {v : Int} {m : Nat} (hx : Nm (L v) m v) (hm : m < 10000000) {R : List Int}
  (fin : Ev (fun k=>decimal_number.l0 k (b.extract n b.size) (L (v * 10 ^ n+nv 0 ((bs b).take n)))) R) : ∀ (d i : Nat),n - i=d→i≤n →
  Ev (fun k=>decimal_number.l1 k b (L v) (n : Int) (nv 0 ((bs b).take i)) (10 ^ i) (n : Int) (i : Int)) R
|0,i,he,hi=>by
  have hin : i=n:=by omega
  subst hin
  have hp:=pow9 ⟨i,by omega⟩
  simp only at hp
  have hp0:=ten_pos i
  have hb2:=nv_bound (v:=0) (n:=0) (fun c hc=>hd c (List.mem_of_mem_take hc)) (l:=(bs b).take i) (by decide) (by decide)
  rw [List.length_take,Nat.min_eq_left hnl,Nat.zero_add] at hb2
  have hs:=bs_size b
  refine Ev_up ?_
  unfold decimal_number.l1
  refine Ev_neg (by omega) ?_
  have n1 : Nm (L (10 ^ i)) 1 (10 ^ i):=Nm.L (by omega) (by rw [show P 1=4294967296 by decide +kernel];omega)
  have n2 : Nm (L (nv 0 ((bs b).take i))) 1 (nv 0 ((bs b).take i)):=Nm.L hb2.1 (by rw [show P 1=4294967296 by decide +kernel];omega)
  refine Ev_some (nof_f (by omega) (by omega)) ?_
  refine Ev.bind (hx.mul n1 (by omega) (by omega)) ?_
  refine Ev_some (nof_f hb2.1 (by omega)) ?_
  refine Ev.bind ((hx.mulL n1).add n2 (by omega) (by omega)) ?_
  refine Ev_pos (by omega) ?_
  refine Ev_pos (by omega) ?_
  rw [Int.toNat_natCast]
  exact fin
|d+1,i,he,hi=>by
  have hs:=bs_size b
  have hlt : i < (bs b).length:=by omega
  have hc:=isD_iff.mp (hd (bs b)[i] (List.getElem_mem hlt))
  have hp:=pow9 ⟨i,by omega⟩
  simp only at hp
  have hp0:=ten_pos i
  have hb2:=nv_bound (v:=0) (n:=0) (fun c hc=>hd c (List.mem_of_mem_take hc)) (l:=(bs b).take i) (by decide) (by decide)
  rw [List.length_take,Nat.min_eq_left (by omega),Nat.zero_add] at hb2
  refine Ev_up ?_
  unfold decimal_number.l1
  refine Ev_pos (by omega) ?_
  refine Ev_pos (by omega) ?_
  refine Ev_pos (by omega) ?_
  have hnx : nv 0 ((bs b).take (i+1))=nv 0 ((bs b).take i) * 10+(((bs b)[i].toNat : Int) - 48):=by
   rw [List.take_succ_eq_append_getElem hlt,nv_append]
   rfl
  rw [bs_bt,List.getD_eq_getElem?_getD,List.getElem?_eq_getElem hlt,Option.getD_some]
  have ih:=number_l1 hb hd hn hnl hx hm fin d (i+1) (by omega) (by omega)
  rw [hnx,Int.pow_succ] at ih
  generalize (bs b)[i].toNat=c at hc ih
  generalize nv 0 ((bs b).take i)=y at hb2 ih
  generalize (10 : Int) ^ i=p at hp hp0 hb2 ih
  rw [u64_of (x:=10 * y) (by omega) (by omega),show (((c : Int) - 48) % 256)=(c : Int) - 48 by omega,u64_of (x:=10 * y+((c : Int) - 48)) (by omega) (by omega),u64_of (x:=p * 10) (by omega) (by omega),wrap64_of (by omega) (by omega),
   show 10 * y=y * 10 by omega]
  exact ih
theorem number_l0 : ∀ (M : Nat) (b : ByteArray) (v : Int) (m : Nat),(bs b).length < M→b.size≤1000000→(∀ c∈bs b,isD c=true)→Nm (L v) m v→m+(bs b).length < 10000000 →
  Ev (fun k=>decimal_number.l0 k b (L v)) (L (nv v (bs b)))
|0,b,v,m,h,_,_,_,_=>by omega
|M+1,b,v,m,h,hb,hd,hx,hm=>by
  have hs:=bs_size b
  refine Ev_up ?_
  unfold decimal_number.l0
  by_cases h0 : (bs b).length=0
  ·refine Ev_neg (by omega) ?_
   rw [List.eq_nil_of_length_eq_zero h0]
   exact Ev.now _
  ·refine Ev_pos (by omega) ?_
   obtain ⟨n,en,hn,hnl,hn0⟩ : ∃ n : Nat,mn 9 (b.size : Int)=(n : Int)∧n≤9∧n≤(bs b).length∧0 < n:=by
    refine ⟨min 9 (bs b).length,?_,by omega,by omega,by omega⟩
    unfold mn
    split <;> omega
   rw [en]
   have hp:=pow9 ⟨n,by omega⟩
   simp only at hp
   have hp0:=ten_pos n
   have n1 : Nm (L (10 ^ n)) 1 (10 ^ n):=Nm.L (by omega) (by rw [show P 1=4294967296 by decide +kernel];omega)
   have hb2:=nv_bound (v:=0) (n:=0) (fun c hc=>hd c (List.mem_of_mem_take hc)) (l:=(bs b).take n) (by decide) (by decide)
   rw [List.length_take,Nat.min_eq_left hnl,Nat.zero_add] at hb2
   have n2 : Nm (L (nv 0 ((bs b).take n))) 1 (nv 0 ((bs b).take n)):=Nm.L hb2.1 (by rw [show P 1=4294967296 by decide +kernel];omega)
   have hlen : (bs (b.extract n b.size)).length=(bs b).length - n:=by rw [bs_rest,List.length_drop]
   have nx : Nm (L (v * 10 ^ n+nv 0 ((bs b).take n))) (m+n) (v * 10 ^ n+nv 0 ((bs b).take n)):=by
    refine Nm.L (Int.add_nonneg (Int.mul_nonneg hx.pos (by omega)) hb2.1) ?_
    have h1 : v+1≤P m:=hx.lt
    have h2 : (v+1) * 10 ^ n≤P m * P n:=Int.mul_le_mul h1 (ten_P n) (by omega) (Int.le_of_lt (P_pos m))
    rw [P_add]
    rw [Int.add_mul] at h2
    omega
   have ih:=number_l0 M (b.extract n b.size) (v * 10 ^ n+nv 0 ((bs b).take n)) (m+n) (by omega) (by rw [bs_size];omega) (by rw [bs_rest];exact fun c hc=>hd c (List.mem_of_mem_drop hc)) nx (by omega)
   have e : nv (v * 10 ^ n+nv 0 ((bs b).take n)) (bs (b.extract n b.size))=nv v (bs b):=by
    rw [bs_rest]
    have e1:=nv_append v ((bs b).take n) ((bs b).drop n)
    rw [List.take_append_drop] at e1
    rw [e1,nv_ahead v ((bs b).take n),List.length_take,Nat.min_eq_left hnl]
   rw [e] at ih
   have h9:=number_l1 hb hd hn hnl hx (by omega) ih _ 0 rfl (Nat.zero_le _)
   rw [List.take_zero,Int.pow_zero] at h9
   exact h9
theorem number_f {b : ByteArray} (hb : b.size≤1000000) (hd : ∀ c∈bs b,isD c=true) : Ev (fun k=>decimal_number.f k b) (L (nv 0 (bs b))):=by
 have h:=number_l0 _ b 0 0 (Nat.lt_succ_self _) hb hd Nm.zero (by rw [← bs_size];omega)
 rw [L_zero] at h
 exact h
theorem Nm.number {l : List UInt8} (hd : ∀ c∈l,isD c=true) : Nm (N.L (nv 0 l)) l.length (nv 0 l):=by
 have h:=nv_bound hd (v:=0) (n:=0) (by decide) (by decide)
 rw [Nat.zero_add] at h
 exact Nm.L h.1 (Int.lt_of_lt_of_le h.2 (ten_P _))
end Go.Proofs.YtncdiodnbkhacaaDoor.N
end
section
namespace Go.Proofs.YtncdiodnbkhacaaDoor.N
set_option linter.unusedVariables false
set_option linter.unusedSimpArgs false
open Go Go.RowKit Go.Proofs.YtncdiodnbkhacaaDoorW.PrintWords Go.Proofs.YtncdiodnbkhacaaDoorW.PrintLast Go.Proofs.YtncdiodnbkhacaaDoorW.PrintMore Go.Proofs.YtncdiodnbkhacaaDoor.Pq
def finS (neg : Bool) (x y : Int) : Bool × List Int × List Int × Int:=if y=0 then (false,[],[1],42) else ((ratS neg x y).1,(ratS neg x y).2.1,(ratS neg x y).2.2,0)
def restS (neg : Bool) (d : List UInt8) : List UInt8→Bool × List Int × List Int × Int
|[]=>finS neg (nv 0 d) 1
|c :: m=>if nd m=0∨nd m < m.length∨(c.toNat≠46∧c.toNat≠47) then (false,[],[1],40) else if c.toNat=46 then finS neg (nv 0 (d++m)) (10 ^ m.length) else finS neg (nv 0 d) (nv 0 m)
theorem restS_cons (neg : Bool) (d : List UInt8) (c : UInt8) (m : List UInt8) : restS neg d (c :: m)=if nd m=0∨nd m < m.length∨(c.toNat≠46∧c.toNat≠47) then (false,[],[1],40) else if c.toNat=46 then finS neg (nv 0 (d++m)) (10 ^ m.length) else finS neg (nv 0 d) (nv 0 m):=rfl
def bodyS (neg : Bool) (l : List UInt8) : Bool × List Int × List Int × Int:=if nd l=0 then (false,[],[1],40) else restS neg (l.take (nd l)) (l.drop (nd l))
def cutS (l : List UInt8) : List UInt8 × Bool:=if l.head? = some 45 then (l.drop 1,true) else (l,false)
def parseS (l : List UInt8) : Bool × List Int × List Int × Int:=if l.length > 20000 then (false,[],[1],41) else bodyS (cutS l).2 (cutS l).1
def cutB (b : ByteArray) : ByteArray × Bool:=if (bs b).head? = some 45 then (b.extract 1 b.size,true) else (b,false)
theorem rat_of01 : Ev (fun k=>rat_Of.f k 0 1) (false,[],[1]):=by
 have h0 : rat_size.f 0=some (L 0):=by
  unfold rat_size.f
  rw [if_neg (by decide),show IntKind.u64.wrap 0=0 by decide,nof_f (by decide) (by decide)]
  rfl
 have h1 : rat_size.f 1=some (L 1):=by
  unfold rat_size.f
  rw [if_neg (by decide),show IntKind.u64.wrap 1=1 by decide,nof_f (by decide) (by decide)]
  rfl
 unfold rat_Of.f
 refine Ev_some h0 ?_
 refine Ev_some h1 ?_
 refine Ev.bind (made_f (m:=1) (n:=1) (Nm.zero.up (by omega)) (Nm.L (by decide) (by decide +kernel)) (by omega) (by omega) _) ?_
 rw [ratS_zero (.inl rfl)]
 exact Ev.now _
theorem cut_f (b : ByteArray) : strings_CutPrefix.f b ⟨#[45]⟩=some (cutB b):=by
 have hs:=bs_size b
 have h1 : (⟨#[45]⟩ : ByteArray).size=1:=rfl
 unfold strings_CutPrefix.f stringslite_CutPrefix.f stringslite_HasPrefix.f cutB
 rw [h1]
 by_cases h0 : (bs b).length=0
 ·rw [if_neg (by omega),List.eq_nil_of_length_eq_zero h0]
  rfl
 ·rw [if_pos (by omega),if_pos (by omega),if_pos (by omega)]
  obtain ⟨c,m,e⟩ : ∃ c m,bs b=c :: m:=by
   cases hb : bs b with
  |nil=>rw [hb] at h0;exact absurd rfl h0
  |cons c m=>exact ⟨c,m,rfl⟩
  have h2 : (b.extract 0 (((1 : Nat) : Int)).toNat).toList=[c]:=by
   rw [bs_list,show (((1 : Nat) : Int)).toNat=1 from rfl,bs_first,e]
   rfl
  rw [h2,e,show (⟨#[45]⟩ : ByteArray).toList=[45] by decide +kernel,Option.bind_some]
  by_cases hc : c=45
  ·subst hc
   rw [if_pos (by rfl),if_pos (by omega),if_pos (by omega),if_pos (show (45 :: m).head? = some 45 from rfl)]
   rfl
  ·rw [if_neg (by simpa using hc),if_neg (by simpa using hc)]
   rfl
theorem cutB_bs (b : ByteArray) : bs (cutB b).1=(cutS (bs b)).1∧(cutB b).2=(cutS (bs b)).2:=by
 unfold cutB cutS
 by_cases h : (bs b).head? = some 45
 ·rw [if_pos h,if_pos h]
  exact ⟨bs_rest b 1,rfl⟩
 ·rw [if_neg h,if_neg h]
  exact ⟨rfl,rfl⟩
theorem cutS_len (l : List UInt8) : (cutS l).1.length≤l.length:=by
 unfold cutS
 split
 ·simp
 ·exact Nat.le_refl _
theorem parse_j1 {neg : Bool} {n : Nat} {f d : ByteArray} (hf : f.size≤1000000) (hd : d.size≤1000000) (df : ∀ c∈bs f,isD c=true) (dd : ∀ c∈bs d,isD c=true) :
  Ev (fun k=>decimal_Parse.j1 k neg (n : Int) f d false [] [1]) (if n=0 then (false,[],[1],40) else finS neg (nv 0 (bs f)) (nv 0 (bs d))):=by
 have sf:=bs_size f
 have sd:=bs_size d
 refine Ev_up ?_
 unfold decimal_Parse.j1
 by_cases hn : n=0
 ·rw [if_pos hn]
  exact Ev_pos (by omega) (Ev.now _)
 ·rw [if_neg hn]
  refine Ev_neg (by omega) ?_
  have nf:=Nm.number df
  have nd':=Nm.number dd
  refine Ev.bind (number_f hd dd) ?_
  unfold finS
  by_cases h0 : nv 0 (bs d)=0
  ·rw [if_pos h0]
   exact Ev_pos ((L_len0 nd'.pos).mpr h0) (Ev.now _)
  ·rw [if_neg h0]
   refine Ev_neg (fun h=>h0 ((L_len0 nd'.pos).mp h)) ?_
   refine Ev.bind (number_f hf df) ?_
   refine Ev.bind (read_f nf nd' (by omega) (by omega) neg) ?_
   exact Ev.now _
theorem repeat_n (n : Nat) : strings_Repeat.n [48] n=List.replicate n 48:=by
 induction n with
|zero=>rfl
|succ n ih =>
  show [48]++strings_Repeat.n [48] n=_
  rw [ih]
  rfl
theorem nv_zeros (v : Int) (n : Nat) : nv v (List.replicate n 48)=v * 10 ^ n:=by
 induction n generalizing v with
|zero=>simp [nv]
|succ n ih =>
  show nv (v * 10+(((48 : UInt8).toNat : Int) - 48)) (List.replicate n 48)=_
  rw [show v * 10+(((48 : UInt8).toNat : Int) - 48)=v * 10 by have : ((48 : UInt8).toNat : Int)=48:=rfl;omega,ih,Int.pow_succ,Int.mul_assoc,Int.mul_comm 10]
theorem parse_j0 {neg bad : Bool} {n : Nat} {f r s : ByteArray} {c : UInt8} {m : List UInt8} (hf : f.size≤20000) (hr : r.size≤20000) (er : bs r=c :: m) (es : bs s=m) (df : ∀ x∈bs f,isD x=true)
  (hbad : bad=true↔(nd m=0∨nd m < m.length∨(c.toNat≠46∧c.toNat≠47))) :
  Ev (fun k=>decimal_Parse.j0 k neg (n : Int) f r s bad false [] [1]) (if n=0 then (false,[],[1],40) else restS neg (bs f) (c :: m)):=by
 have sf:=bs_size f
 have sr:=bs_size r
 have ss:=bs_size s
 rw [er] at sr
 rw [es] at ss
 simp only [List.length_cons] at sr
 refine Ev_up ?_
 unfold decimal_Parse.j0
 rw [restS_cons]
 by_cases hb : bad=true
 ·rw [if_pos (hbad.mp hb)]
  refine Ev_pos hb ?_
  rw [ite_self]
  exact Ev.now _
 ·have hb' : ¬ (nd m=0∨nd m < m.length∨(c.toNat≠46∧c.toNat≠47)):=fun h=>hb (hbad.mpr h)
  rw [if_neg hb']
  have hm : nd m=m.length:=by have:=nd_le m;omega
  have dm : ∀ x∈m,isD x=true:=by
   have:=nd_all (l:=m)
   rw [hm,List.take_length] at this
   exact this
  refine Ev_neg hb ?_
  refine Ev_pos (by omega) ?_
  have hbt : bt r 0=(c.toNat : Int):=by
   have:=bs_bt r 0
   rw [er] at this
   exact this
  rw [hbt]
  by_cases h46 : c.toNat=46
  ·rw [if_pos h46]
   refine Ev_pos (by omega) ?_
   refine Ev_pos (by omega) ?_
   have hrep : strings_Repeat.f ⟨#[48]⟩ (s.size : Int)=some ⟨(List.replicate m.length 48).toArray⟩:=by
    unfold strings_Repeat.f
    rw [if_pos ⟨by omega,by omega,by rw [show (⟨#[48]⟩ : ByteArray).size=1 from rfl];omega⟩,Int.toNat_natCast,ss]
    show some (⟨(strings_Repeat.n [48] m.length).toArray⟩ : ByteArray)=_
    rw [repeat_n]
   refine Ev_some hrep ?_
   have sz : (⟨(List.replicate m.length 48).toArray⟩ : ByteArray).size=m.length:=by rw [bs_size,bs_mk,List.length_replicate]
   refine Ev_pos (by rw [sz];omega) ?_
   have e1 : bs (f++s)=bs f++m:=by rw [bs_append,es]
   have e2 : bs ((⟨#[49]⟩ : ByteArray)++⟨(List.replicate m.length 48).toArray⟩)=49 :: List.replicate m.length 48:=by rw [bs_append,bs_mk];rfl
   have h:=parse_j1 (neg:=neg) (n:=n) (f:=f++s) (d:=(⟨#[49]⟩ : ByteArray)++⟨(List.replicate m.length 48).toArray⟩)
    (by rw [bs_size,e1,List.length_append];omega) (by rw [bs_size,e2,List.length_cons,List.length_replicate];omega)
    (by rw [e1];intro x hx;rcases List.mem_append.mp hx with h|h;exact df x h;exact dm x h)
    (by rw [e2];intro x hx;rcases List.mem_cons.mp hx with h|h;rw [h];rfl;rw [List.eq_of_mem_replicate h];rfl)
   rw [e1,e2] at h
   have e3 : nv 0 (49 :: List.replicate m.length 48)=10 ^ m.length:=by
    show nv (0 * 10+(((49 : UInt8).toNat : Int) - 48)) _=_
    rw [show (0 : Int) * 10+(((49 : UInt8).toNat : Int) - 48)=1 from rfl,nv_zeros,Int.one_mul]
   rw [e3] at h
   exact h
  ·rw [if_neg h46]
   refine Ev_neg (by omega) ?_
   have h:=parse_j1 (neg:=neg) (n:=n) (f:=f) (d:=s) (by omega) (by omega) df (by rw [es];exact dm)
   rw [es] at h
   exact h
theorem bs_one : bs (⟨#[49]⟩ : ByteArray)=[49]:=rfl
theorem parse_f {b : ByteArray} (hb : b.size≤140737488351232) : Ev (fun k=>decimal_Parse.f k b) (parseS (bs b)):=by
 have hbs:=bs_size b
 unfold decimal_Parse.f parseS
 refine Ev.bind rat_of01 ?_
 dsimp only
 by_cases hl : (b.size : Int) > 20000
 ·rw [if_pos (by omega)]
  exact Ev_pos hl (Ev.now _)
 ·rw [if_neg (by omega)]
  refine Ev_neg hl ?_
  refine Ev_some (cut_f b) ?_
  have hc:=cutB_bs b
  have hcl:=cutS_len (bs b)
  generalize cutB b=yb at hc
  obtain ⟨y,neg⟩:=yb
  obtain ⟨hc1,hc2⟩:=hc
  simp only at hc1 hc2
  rw [← hc1] at hcl
  rw [← hc1,← hc2]
  dsimp only
  have hys:=bs_size y
  refine Ev_some (digits_f (by omega)) ?_
  have hn:=nd_le (bs y)
  have hall:=nd_all (l:=bs y)
  unfold bodyS
  generalize nd (bs y)=n at hn hall
  refine Ev_pos (by omega) ?_
  refine Ev_pos (by omega) ?_
  rw [Int.toNat_natCast]
  have hf : bs (y.extract 0 n)=(bs y).take n:=bs_first y n
  have hr : bs (y.extract n y.size)=(bs y).drop n:=bs_rest y n
  generalize y.extract 0 n=f at hf
  generalize y.extract n y.size=r at hr
  rw [← hf,← hr]
  rw [← hf] at hall
  have hfs : f.size≤20000:=by rw [bs_size,hf,List.length_take];omega
  have hrs : r.size≤20000:=by rw [bs_size,hr,List.length_drop];omega
  cases er : bs r with
 |nil =>
   refine Ev_pos (by rw [bs_list,er]) ?_
   have h:=parse_j1 (neg:=neg) (n:=n) (f:=f) (d:=(⟨#[49]⟩ : ByteArray)) (by omega) (by decide) hall (by rw [bs_one];intro x hx;rw [List.mem_singleton.mp hx];rfl)
   exact h
 |cons c m =>
   have hrl:=bs_size r
   rw [er,List.length_cons] at hrl
   refine Ev_neg (by rw [bs_list,er];simp) ?_
   refine Ev_pos (by omega) ?_
   have es : bs (r.extract 1 r.size)=m:=by rw [bs_rest,er];rfl
   generalize r.extract 1 r.size=s at es
   have hss:=bs_size s
   rw [es] at hss
   refine Ev_some (digits_f (by omega)) ?_
   rw [es]
   have hbt : bt r 0=(c.toNat : Int):=by
    have:=bs_bt r 0
    rw [er] at this
    exact this
   have hj:=fun (bad : Bool) h=>parse_j0 (neg:=neg) (bad:=bad) (n:=n) (f:=f) (r:=r) (s:=s) hfs hrs er es hall h
   have hnm:=nd_le m
   by_cases h0 : nd m=0
   ·exact Ev_pos (by omega) (hj true ⟨fun _=>.inl h0,fun _=>rfl⟩)
   ·refine Ev_neg (by omega) ?_
    by_cases h1 : nd m < m.length
    ·exact Ev_pos (by omega) (hj true ⟨fun _=>.inr (.inl h1),fun _=>rfl⟩)
    ·refine Ev_neg (by omega) ?_
     refine Ev_pos (by omega) ?_
     rw [hbt]
     by_cases h46 : c.toNat=46
     ·exact Ev_pos (by omega) (hj false ⟨fun h=>(by cases h),fun h=>(by omega)⟩)
     ·refine Ev_neg (by omega) ?_
      refine hj _ ⟨fun h=>?_,fun h=>?_⟩
      ·have h2 : ¬ ((c.toNat : Int)=47):=bne_iff_ne.mp h
       exact .inr (.inr ⟨h46,by omega⟩)
      ·exact bne_iff_ne.mpr (by omega)
end Go.Proofs.YtncdiodnbkhacaaDoor.N
end
section
namespace Go.Proofs.YtncdiodnbkhacaaDoor.N
set_option linter.unusedVariables false
set_option linter.unusedSimpArgs false
open Go Go.RowKit Go.Proofs.YtncdiodnbkhacaaDoorW.PrintWords Go.Proofs.YtncdiodnbkhacaaDoorW.PrintLast Go.Proofs.YtncdiodnbkhacaaDoor.Pq
theorem is_same {neg : Bool} {a b : List Int} (ha : a.length < 4611686018427387904) (hb : b.length < 4611686018427387904) : Ev (fun k=>penumbraref03_Is.f k neg a b neg a b) true:=by
 unfold penumbraref03_Is.f
 refine Ev_pos (by simp) ?_
 refine Ev.bind (same_f ha) ?_
 refine Ev_pos rfl ?_
 refine Ev.bind (same_f hb) ?_
 exact Ev.now _
end Go.Proofs.YtncdiodnbkhacaaDoor.N
end
section
namespace Go.Proofs.YtncdiodnbkhacaaDoor.N
set_option linter.unusedVariables false
set_option linter.unusedSimpArgs false
open Go Go.RowKit Go.Proofs.YtncdiodnbkhacaaDoorW.PrintWords Go.Proofs.YtncdiodnbkhacaaDoorW.PrintLast Go.Proofs.YtncdiodnbkhacaaDoorW.PrintMore Go.Proofs.YtncdiodnbkhacaaDoor.Pq
def db (n : Nat) : UInt8:=UInt8.ofNat (48+n % 10)
def dg (n : Nat) : List UInt8:=if h : n=0 then [] else dg (n / 10)++[db n]
termination_by n
decreasing_by omega
theorem dg_zero : dg 0=[]:=by unfold dg;rfl
theorem dg_pos {n : Nat} (h : n≠0) : dg n=dg (n / 10)++[db n]:=by
 rw [dg]
 exact dif_neg h
theorem db_toNat (n : Nat) : (db n).toNat=48+n % 10:=by
 unfold db
 rw [UInt8.toNat_ofNat']
 omega
theorem db_ne {n : Nat} (h : n % 10≠0) : db n≠48:=by
 intro hc
 have:=congrArg UInt8.toNat hc
 rw [db_toNat] at this
 have : (48 : UInt8).toNat=48:=rfl
 omega
theorem dg_head : ∀ (m n : Nat),n < m→n≠0 → ∃ c t,dg n=c :: t∧c≠48
|0,_,h,_=>by omega
|m+1,n,h,h0=>by
  rw [dg_pos h0]
  by_cases hs : n / 10=0
  ·rw [hs,dg_zero]
   exact ⟨db n,[],rfl,db_ne (by omega)⟩
  ·obtain ⟨c,t,e,hc⟩:=dg_head m (n / 10) (by omega) hs
   exact ⟨c,t++[db n],by rw [e];rfl,hc⟩
theorem dg_cons {n : Nat} (h : n≠0) : ∃ c t,dg n=c :: t∧c≠48:=dg_head (n+1) n (by omega) h
theorem dg_length : ∀ (e n : Nat),n < 10 ^ e→(dg n).length≤e
|0,n,h=>by
  rw [Nat.pow_zero] at h
  rw [show n=0 by omega,dg_zero]
  exact Nat.le_refl 0
|e+1,n,h=>by
  by_cases h0 : n=0
  ·rw [h0,dg_zero]
   exact Nat.zero_le _
  ·rw [dg_pos h0,List.length_append]
   have:=dg_length e (n / 10) (by rw [Nat.pow_succ] at h;omega)
   simp only [List.length_cons,List.length_nil]
   omega
def pad : Nat→Nat→List UInt8
|0,_=>[]
|k+1,n=>pad k (n / 10)++[db n]
theorem pad_dg : ∀ (k z n : Nat),∃ z',List.replicate z 48++dg (n / 10 ^ k)++pad k n=List.replicate z' 48++dg n
|0,z,n=>⟨z,by simp [pad]⟩
|k+1,z,n=>by
  obtain ⟨z',e⟩:=pad_dg k z (n / 10)
  rw [show n / 10 ^ (k+1)=n / 10 / 10 ^ k by rw [Nat.div_div_eq_div_mul,Nat.pow_succ,Nat.mul_comm]]
  show ∃ z',_++(pad k (n / 10)++[db n])=_
  rw [← List.append_assoc,e]
  by_cases h : n=0
  ·refine ⟨z'+1,?_⟩
   subst h
   rw [show 0 / 10=0 from rfl,dg_zero,show db 0=48 from rfl,List.append_nil,List.append_nil,List.replicate_succ']
  ·exact ⟨z',by rw [dg_pos h,List.append_assoc]⟩
theorem drop_zeros (z n : Nat) : (List.replicate z 48++dg n).dropWhile (fun x=>x == 48)=dg n:=by
 induction z with
|zero =>
  rw [List.replicate_zero,List.nil_append]
  by_cases h : n=0
  ·rw [h,dg_zero,List.dropWhile_nil]
  ·obtain ⟨c,t,e,hc⟩:=dg_cons h
   rw [e,List.dropWhile_cons_of_neg (by simpa using hc)]
|succ z ih=>rw [List.replicate_succ,List.cons_append,List.dropWhile_cons_of_pos (by rfl),ih]
theorem natural_n (n : Nat) : (decimal_Natural.n (((n % 1000000000 : Nat)) : Int)).data.toList=pad 9 n:=by
 unfold decimal_Natural.n strOfNums
 simp only [pad,List.range,List.range.loop,List.map_cons,List.map_nil,List.nil_append,List.cons_append]
 simp only [List.cons.injEq,and_true,db]
 refine ⟨?_,?_,?_,?_,?_,?_,?_,?_,?_⟩ <;> (congr 1;simp only [Nat.reduceSub,Int.reducePow];omega)
theorem natural_at {y : Int} (h0 : 0≤y) (h1 : y < 4294967296) : decimal_Natural.at (L y)=y:=by
 unfold decimal_Natural.at
 by_cases h : y=0
 ·subst h
  rw [L_zero]
  rfl
 ·rw [L_pos (by omega),if_pos (by simp)]
  show y % 4294967296=y
  omega
theorem natural_l0 {N : Nat} (hN : N < 35184360000000) : ∀ (n : Nat) (x : Int) (ps : List ByteArray),0≤x→x < 1000000000 ^ n→x < P N→ps.length+n < 8796093021952 →
  ∃ qs,Ev (fun k=>decimal_Natural.l0 k (L x) (L 1000000000) ps) qs∧qs.length≤ps.length+n ∧ ∃ z,decimal_Natural.b qs=List.replicate z 48++dg x.toNat++decimal_Natural.b ps:=by
 intro n
 induction n with
|zero =>
  intro x ps h0 h1 h2 h3
  have hx : x=0:=by rw [Int.pow_zero] at h1;omega
  subst hx
  refine ⟨ps,?_,by omega,0,?_⟩
  ·refine Ev_up ?_
   simp only [decimal_Natural.l0]
   rw [L_zero]
   exact Ev_neg (by simp) (Ev.now _)
  ·rw [show (0 : Int).toNat=0 from rfl,dg_zero];rfl
|succ n ih =>
  intro x ps h0 h1 h2 h3
  by_cases hx : x=0
  ·subst hx
   refine ⟨ps,?_,by omega,0,?_⟩
   ·refine Ev_up ?_
    simp only [decimal_Natural.l0]
    rw [L_zero]
    exact Ev_neg (by simp) (Ev.now _)
   ·rw [show (0 : Int).toNat=0 from rfl,dg_zero];rfl
  ·have hr0 : 0≤x % 1000000000:=by omega
   have hr1 : x % 1000000000 < 4294967296:=by omega
   have hq : x / 1000000000 < 1000000000 ^ n:=by
    rw [Int.pow_succ] at h1
    exact Int.ediv_lt_of_lt_mul (by decide) h1
   obtain ⟨qs,e1,e2,z,e3⟩:=ih (x / 1000000000) (ps++[decimal_Natural.n (x % 1000000000)]) (by omega) hq (by omega) (by simp;omega)
   have hpad : (decimal_Natural.n (x % 1000000000)).data.toList=pad 9 x.toNat:=by
    rw [← natural_n,show ((x.toNat % 1000000000 : Nat) : Int)=x % 1000000000 by omega]
   obtain ⟨z',e4⟩:=pad_dg 9 z x.toNat
   refine ⟨qs,?_,by simp at e2;omega,z',?_⟩
   ·refine Ev_up ?_
    simp only [decimal_Natural.l0]
    have hl : 0 < (L x).length:=L_length_lt (m:=0) (by rw [P_zero];omega)
    refine Ev_pos (by omega) ?_
    refine Ev.bind ((Nm.L h0 h2).dm (Nm.L (n:=1) (x:=1000000000) (by decide) (by decide +kernel)) hN (by decide)) ?_
    rw [dmS_pos (by decide)]
    show Ev (fun k=>if 0≤decimal_Natural.at (L (x % 1000000000))∧decimal_Natural.at (L (x % 1000000000)) < 4294967296∧ps.length < 8796093022208 then decimal_Natural.l0 k (L (x / 1000000000)) (L 1000000000) (ps++[decimal_Natural.n (decimal_Natural.at (L (x % 1000000000)))]) else none) qs
    rw [natural_at hr0 hr1]
    exact Ev_pos ⟨hr0,hr1,by omega⟩ e1
   ·rw [e3,← e4]
    unfold decimal_Natural.b
    rw [List.reverse_append,List.reverse_singleton,List.singleton_append,List.map_cons,List.flatten_cons,hpad,show (x / 1000000000).toNat=x.toNat / 10 ^ 9 by omega]
    simp only [List.append_assoc]
def natS (x : Int) : ByteArray:=if x=0 then ⟨#[48]⟩ else ⟨(dg x.toNat).toArray⟩
theorem P_ten (N : Nat) : P N≤(1000000000 : Int) ^ (2 * N):=by
 induction N with
|zero=>rw [P_zero,Nat.mul_zero,Int.pow_zero];exact Int.le_refl _
|succ N ih =>
  rw [P_succ,show 2 * (N+1)=2 * N+1+1 by omega,Int.pow_succ,Int.pow_succ]
  have:=P_pos N
  omega
theorem Nm.natural {a : List Int} {n : Nat} {x : Int} (h : Nm a n x) (hn : n < 4398046510000) : Ev (fun k=>decimal_Natural.f k a) (natS x):=by
 have h0:=h.pos
 obtain ⟨qs,e1,e2,z,e3⟩:=natural_l0 (N:=n) (by omega) (2 * n) x [] h0 (Int.lt_of_lt_of_le h.lt (P_ten n)) h.lt (by simp;omega)
 unfold decimal_Natural.f
 refine Ev_some (h.nrm (by omega)) ?_
 refine Ev_some (nof_f (by decide) (by decide)) ?_
 refine Ev.bind e1 ?_
 rw [show decimal_Natural.b []=[] from rfl,List.append_nil] at e3
 refine Ev_pos (by simp at e2;omega) ?_
 rw [e3,drop_zeros]
 refine Ev_now ?_
 unfold natS
 by_cases hx : x=0
 ·subst hx
  rw [show (0 : Int).toNat=0 from rfl,dg_zero]
  rfl
 ·obtain ⟨c,t,e,hc⟩:=dg_cons (n:=x.toNat) (by omega)
  rw [if_neg hx,e]
  rfl
end Go.Proofs.YtncdiodnbkhacaaDoor.N
end
section
namespace Go.Proofs.YtncdiodnbkhacaaDoor.N
set_option linter.unusedVariables false
set_option linter.unusedSimpArgs false
open Go Go.RowKit Go.Proofs.YtncdiodnbkhacaaDoorW.PrintWords Go.Proofs.YtncdiodnbkhacaaDoorW.PrintLast Go.Proofs.YtncdiodnbkhacaaDoorW.PrintMore Go.Proofs.YtncdiodnbkhacaaDoor.Pq
theorem dg_length_P {n : Nat} {x : Int} (h0 : 0≤x) (h : x < P n) : (dg x.toNat).length≤18 * n:=by
 have h1:=Int.lt_of_lt_of_le h (P_ten n)
 have h2 : (1000000000 : Int) ^ (2 * n)=((10 ^ (18 * n) : Nat) : Int):=by
  rw [show 18 * n=9 * (2 * n) by omega,Nat.pow_mul]
  simp
 exact dg_length _ _ (by rw [h2] at h1;omega)
end Go.Proofs.YtncdiodnbkhacaaDoor.N
end
section
namespace Go.Proofs.YtncdiodnbkhacaaDoor.N
set_option linter.unusedVariables false
set_option linter.unusedSimpArgs false
open Go Go.RowKit Go.Proofs.YtncdiodnbkhacaaDoorW.PrintWords Go.Proofs.YtncdiodnbkhacaaDoorW.PrintLast Go.Proofs.YtncdiodnbkhacaaDoorW.PrintMore Go.Proofs.YtncdiodnbkhacaaDoor.Pq
theorem bs_natS {x : Int} : bs (natS x)=if x=0 then [48] else dg x.toNat:=by
 unfold natS
 split
 ·rfl
 ·exact bs_mk _
theorem natS_small {n : Nat} {x : Int} (h0 : 0≤x) (h : x < P n) : (natS x).size≤18 * n+1:=by
 have:=dg_length_P h0 h
 rw [bs_size,bs_natS]
 split
 ·simp
 ·omega
theorem dg_one {n : Nat} (h : dg n=[49]) : n=1:=by
 by_cases h0 : n=0
 ·rw [h0,dg_zero] at h
  cases h
 ·rw [dg_pos h0] at h
  by_cases h1 : n / 10=0
  ·rw [h1,dg_zero,List.nil_append] at h
   have h2:=congrArg UInt8.toNat (List.cons.inj h).1
   rw [db_toNat] at h2
   have : (49 : UInt8).toNat=49:=rfl
   omega
  ·obtain ⟨c,t,e,_⟩:=dg_cons h1
   rw [e] at h
   have:=congrArg List.length h
   simp at this
theorem natS_one {q : Int} (hq : 0 < q) : (natS q).toList=[49]↔q=1:=by
 rw [bs_list,bs_natS,if_neg (by omega)]
 constructor
 ·intro h
  have:=dg_one h
  omega
 ·intro h
  rw [h]
  decide +kernel
def headB (s : Bool) (p : Int) : ByteArray:=if s=true then (⟨#[45]⟩ : ByteArray)++natS p else natS p
def printB (s : Bool) (p q : Int) : ByteArray:=if q=1 then headB s p else headB s p++((⟨#[47]⟩ : ByteArray)++natS q)
theorem size_append (a b : ByteArray) : (a++b).size=a.size+b.size:=by rw [bs_size,bs_append,List.length_append,← bs_size,← bs_size]
theorem print_f {neg s : Bool} {a b : List Int} {m n m' n' : Nat} {x y p q : Int} (h : Nm a m x) (k : Nm b n y) (hm : m < 100000) (hn : n < 100000) (e : ratS neg x y=(s,L p,L q)) (hp : Nm (L p) m' p) (hq : Nm (L q) n' q) (hm' : m' < 1000000) (hn' : n' < 1000000) (q0 : 0 < q) :
  Ev (fun r=>decimal_Print.f r neg a b) (printB s p q):=by
 have sp:=natS_small hp.pos hp.lt
 have sq:=natS_small hq.pos hq.lt
 have s45 : (⟨#[45]⟩ : ByteArray).size=1:=rfl
 have s47 : (⟨#[47]⟩ : ByteArray).size=1:=rfl
 unfold decimal_Print.f
 refine Ev.bind (read_f h k (by omega) (by omega) neg) ?_
 rw [e]
 dsimp only
 refine Ev.bind (hp.natural (by omega)) ?_
 unfold printB headB
 cases s with
|true =>
  refine Ev_pos rfl ?_
  refine Ev_pos (by omega) ?_
  refine Ev.bind (hq.natural (by omega)) ?_
  rw [if_pos rfl]
  by_cases h1 : q=1
  ·rw [if_pos h1]
   exact Ev_pos ((natS_one q0).mpr h1) (Ev.now _)
  ·rw [if_neg h1]
   refine Ev_neg (fun hh=>h1 ((natS_one q0).mp hh)) ?_
   refine Ev_pos (by omega) ?_
   exact Ev_pos (by rw [size_append,size_append];omega) (Ev.now _)
|false =>
  refine Ev_neg (by simp) ?_
  refine Ev.bind (hq.natural (by omega)) ?_
  rw [if_neg (show ¬ (false=true) by decide)]
  by_cases h1 : q=1
  ·rw [if_pos h1]
   exact Ev_pos ((natS_one q0).mpr h1) (Ev.now _)
  ·rw [if_neg h1]
   refine Ev_neg (fun hh=>h1 ((natS_one q0).mp hh)) ?_
   refine Ev_pos (by omega) ?_
   exact Ev_pos (by rw [size_append];omega) (Ev.now _)
end Go.Proofs.YtncdiodnbkhacaaDoor.N
end
section
namespace Go.Proofs.YtncdiodnbkhacaaDoor.N
set_option linter.unusedVariables false
set_option linter.unusedSimpArgs false
open Go Go.RowKit Go.Proofs.YtncdiodnbkhacaaDoorW.PrintWords Go.Proofs.YtncdiodnbkhacaaDoorW.PrintLast Go.Proofs.YtncdiodnbkhacaaDoorW.PrintMore Go.Proofs.YtncdiodnbkhacaaDoor.Pq
theorem nd_append {l r : List UInt8} (hl : ∀ c∈l,isD c=true) (hr : ∀ c∈r.head?,¬ isD c=true) : nd (l++r)=l.length:=by
 induction l with
|nil =>
  cases r with
 |nil=>rfl
 |cons c m=>exact nd_cons_neg (hr c (by simp))
|cons c l ih =>
  rw [List.cons_append,nd_cons_pos (hl c (List.mem_cons_self ..)),ih (fun x hx=>hl x (List.mem_cons_of_mem _ hx))]
  rfl
theorem db_digit (n : Nat) : isD (db n)=true:=by
 rw [isD_iff,db_toNat]
 omega
theorem dg_digits : ∀ (m n : Nat),n < m → ∀ c∈dg n,isD c=true
|0,_,h=>by omega
|m+1,n,h=>by
  intro c hc
  by_cases h0 : n=0
  ·rw [h0,dg_zero] at hc
   cases hc
  ·rw [dg_pos h0] at hc
   rcases List.mem_append.mp hc with h1|h1
   ·exact dg_digits m (n / 10) (by omega) c h1
   ·rw [List.mem_singleton.mp h1]
    exact db_digit n
theorem nv_dg : ∀ (m n : Nat),n < m→nv 0 (dg n)=(n : Int)
|0,_,h=>by omega
|m+1,n,h=>by
  by_cases h0 : n=0
  ·rw [h0,dg_zero]
   rfl
  ·rw [dg_pos h0,nv_append,nv_dg m (n / 10) (by omega)]
   show ((n / 10 : Nat) : Int) * 10+(((db n).toNat : Int) - 48)=n
   rw [db_toNat]
   omega
theorem natL_digits {x : Int} : ∀ c∈bs (natS x),isD c=true:=by
 rw [bs_natS]
 split
 ·intro c hc
  rw [List.mem_singleton.mp hc]
  rfl
 ·exact dg_digits _ _ (Nat.lt_succ_self _)
theorem natL_value {x : Int} (h0 : 0≤x) : nv 0 (bs (natS x))=x:=by
 rw [bs_natS]
 split
 ·rename_i h
  rw [h]
  rfl
 ·rw [nv_dg _ _ (Nat.lt_succ_self _)]
  omega
theorem natL_cons (x : Int) (h0 : 0≤x) : ∃ c t,bs (natS x)=c :: t∧isD c=true:=by
 have hd:=natL_digits (x:=x)
 cases e : bs (natS x) with
|nil =>
  rw [bs_natS] at e
  split at e
  ·cases e
  ·obtain ⟨c,t,e2,_⟩:=dg_cons (n:=x.toNat) (by omega)
   rw [e2] at e
   cases e
|cons c t =>
  rw [e] at hd
  exact ⟨c,t,rfl,hd c (List.mem_cons_self ..)⟩
def prL (s : Bool) (p q : Int) : List UInt8:=(if s=true then [45] else [])++(bs (natS p)++if q=1 then [] else 47 :: bs (natS q))
theorem bs_printB (s : Bool) (p q : Int) : bs (printB s p q)=prL s p q:=by
 unfold printB prL headB
 have e45 : bs (⟨#[45]⟩ : ByteArray)=[45]:=rfl
 have e47 : bs (⟨#[47]⟩ : ByteArray)=[47]:=rfl
 cases s <;> by_cases h : q=1 <;> simp [h,bs_append,e45,e47]
theorem body_print {s : Bool} {p q : Int} (hp : 0≤p) (hq : 0 < q) : bodyS s (bs (natS p)++if q=1 then [] else 47 :: bs (natS q))=finS s p q:=by
 have hd:=natL_digits (x:=p)
 have hn : nd (bs (natS p)++if q=1 then [] else 47 :: bs (natS q))=(bs (natS p)).length:=by
  refine nd_append hd ?_
  intro c hc
  split at hc
  ·cases hc
  ·have : c=47:=by simpa using hc.symm
   rw [this]
   decide
 obtain ⟨c,t,e,_⟩:=natL_cons p hp
 unfold bodyS
 rw [hn,if_neg (by rw [e];simp),List.take_left,List.drop_left]
 by_cases h : q=1
 ·rw [if_pos h,h]
  show finS s (nv 0 (bs (natS p))) 1=_
  rw [natL_value hp]
 ·rw [if_neg h,restS_cons]
  have hdq:=natL_digits (x:=q)
  have hnq : nd (bs (natS q))=(bs (natS q)).length:=by
   have:=nd_append (r:=[]) hdq (by intro c hc;cases hc)
   rw [List.append_nil] at this
   exact this
  obtain ⟨c',t',e',_⟩:=natL_cons q (by omega)
  have h47 : (47 : UInt8).toNat=47:=rfl
  rw [if_neg (by rw [hnq,h47,e'];simp),if_neg (by rw [h47];decide),natL_value hp,natL_value (by omega)]
theorem cut_print {s : Bool} {p q : Int} (hp : 0≤p) : cutS (prL s p q)=(bs (natS p)++(if q=1 then [] else 47 :: bs (natS q)),s):=by
 unfold cutS prL
 cases s with
|true=>rfl
|false =>
  obtain ⟨c,t,e,hc⟩:=natL_cons p hp
  rw [e]
  have : c≠45:=by
   intro h
   rw [h] at hc
   exact absurd hc (by decide)
  simp [this]
theorem parse_print {s : Bool} {p q : Int} {m n : Nat} (hp : 0≤p) (hq : 0 < q) (hpm : p < P m) (hqn : q < P n) (hm : m≤400) (hn : n≤400) : parseS (prL s p q)=finS s p q:=by
 have sp:=natS_small hp hpm
 have sq:=natS_small (Int.le_of_lt hq) hqn
 rw [bs_size] at sp sq
 have hlen : ¬ (prL s p q).length > 20000:=by
  unfold prL
  have h1 : (if s=true then [(45 : UInt8)] else []).length≤1:=by split <;> simp
  have h2 : (if q=1 then [] else 47 :: bs (natS q)).length≤18 * n+2:=by
   split
   ·simp
   ·simp;omega
  rw [List.length_append,List.length_append]
  omega
 unfold parseS
 rw [if_neg hlen,cut_print hp]
 exact body_print hp hq
end Go.Proofs.YtncdiodnbkhacaaDoor.N
end
section
namespace Go.Proofs.YtncdiodnbkhacaaDoor.N
set_option linter.unusedVariables false
set_option linter.unusedSimpArgs false
open Go Go.RowKit Go.Proofs.YtncdiodnbkhacaaDoorW.PrintWords Go.Proofs.YtncdiodnbkhacaaDoorW.PrintLast Go.Proofs.YtncdiodnbkhacaaDoorW.PrintMore Go.Proofs.YtncdiodnbkhacaaDoor.Pq
theorem ratS_again {neg s : Bool} {x y p q : Int} (hx : 0≤x) (hy : 0≤y) (hp : 0≤p) (hq : 0 < q) (e : ratS neg x y=(s,L p,L q)) : ratS s p q=(s,L p,L q):=by
 by_cases h : x=0∨y=0
 ·rw [ratS_zero h] at e
  obtain ⟨e1,e2⟩:=Prod.mk.inj e
  obtain ⟨e2,e3⟩:=Prod.mk.inj e2
  have p0 : p=0:=(L_nil_iff hp).mp e2.symm
  subst p0
  subst e1
  rw [ratS_zero (.inl rfl),← e2,← e3]
 ·have hg:=gz_pos h
  rw [ratS_pos h] at e
  obtain ⟨e1,e2⟩:=Prod.mk.inj e
  obtain ⟨e2,e3⟩:=Prod.mk.inj e2
  have h1 : x / gz x y=p:=L_inj (Int.ediv_nonneg hx (Int.le_of_lt hg)) hp e2
  have h2 : y / gz x y=q:=L_inj (Int.ediv_nonneg hy (Int.le_of_lt hg)) (Int.le_of_lt hq) e3
  have h3:=gz_div hx hy hg
  rw [h1,h2] at h3
  have p0 : ¬ (p=0∨q=0):=by
   intro hh
   rcases hh with hh|hh
   ·have h4:=gz_dvd_left x y
    have h5:=Int.ediv_mul_cancel h4
    rw [h1,hh,Int.zero_mul] at h5
    exact h (.inl h5.symm)
   ·omega
  rw [ratS_pos p0,h3,Int.ediv_one,Int.ediv_one]
theorem finS_again {neg s : Bool} {x y p q : Int} (hx : 0≤x) (hy : 0≤y) (hp : 0≤p) (hq : 0 < q) (e : ratS neg x y=(s,L p,L q)) : finS s p q=(s,L p,L q,0):=by
 unfold finS
 rw [if_neg (by omega),ratS_again hx hy hp hq e]
end Go.Proofs.YtncdiodnbkhacaaDoor.N
end
section
namespace Go.Proofs.YtncdiodnbkhacaaDoor.N
set_option linter.unusedVariables false
set_option linter.unusedSimpArgs false
open Go Go.RowKit Go.Proofs.YtncdiodnbkhacaaDoorW.PrintWords Go.Proofs.YtncdiodnbkhacaaDoorW.PrintLast Go.Proofs.YtncdiodnbkhacaaDoorW.PrintMore Go.Proofs.YtncdiodnbkhacaaDoor.Pq
theorem ratS_scale {neg : Bool} {x y z : Int} (hx : 0≤x) (hy : 0≤y) (hz : 0 < z) : ratS neg (x * z) (y * z)=ratS neg x y:=by
 by_cases h : x=0∨y=0
 ·rw [ratS_zero h,ratS_zero]
  rcases h with h|h
  ·exact .inl (by rw [h,Int.zero_mul])
  ·exact .inr (by rw [h,Int.zero_mul])
 ·have h2 : ¬ (x * z=0∨y * z=0):=by
   intro hh
   rcases hh with hh|hh <;> rcases Int.mul_eq_zero.mp hh with h3|h3 <;> omega
  rw [ratS_pos h,ratS_pos h2,gz_mul hx hy (Int.le_of_lt hz),Int.mul_ediv_mul_of_pos_left _ _ hz,Int.mul_ediv_mul_of_pos_left _ _ hz]
theorem ratS_cross {neg : Bool} {x y u v : Int} (hx : 0≤x) (hy : 0 < y) (hu : 0≤u) (hv : 0 < v) (h : x * v=u * y) : ratS neg x y=ratS neg u v:=by
 rw [← ratS_scale hx (Int.le_of_lt hy) hv,h,Int.mul_comm y v,ratS_scale hu (Int.le_of_lt hv) hy]
theorem cross_of {n m : Bool} {x y u v : Int} (hx : 0≤x) (hy : 0≤y) (hu : 0≤u) (hv : 0≤v) (h1 : ¬ (x=0∨y=0)) (h2 : ¬ (u=0∨v=0)) (h : ratS n x y=ratS m u v) : n=m∧x * v=u * y:=by
 rw [ratS_pos h1,ratS_pos h2] at h
 obtain ⟨e1,e2⟩:=Prod.mk.inj h
 obtain ⟨e2,e3⟩:=Prod.mk.inj e2
 have g1:=gz_pos h1
 have g2:=gz_pos h2
 have f1:=L_inj (Int.ediv_nonneg hx (Int.le_of_lt g1)) (Int.ediv_nonneg hu (Int.le_of_lt g2)) e2
 have f2:=L_inj (Int.ediv_nonneg hy (Int.le_of_lt g1)) (Int.ediv_nonneg hv (Int.le_of_lt g2)) e3
 refine ⟨e1,?_⟩
 have a1:=Int.ediv_mul_cancel (gz_dvd_left x y)
 have a2:=Int.ediv_mul_cancel (gz_dvd_right x y)
 have a3:=Int.ediv_mul_cancel (gz_dvd_left u v)
 have a4:=Int.ediv_mul_cancel (gz_dvd_right u v)
 rw [← f1] at a3
 rw [← f2] at a4
 generalize gz x y=g at *
 generalize gz u v=k at *
 generalize x / g=p at *
 generalize y / g=q at *
 rw [← a1,← a2,← a3,← a4]
 simp only [Int.mul_comm,Int.mul_left_comm,Int.mul_assoc]
def sgn (neg : Bool) (x y : Int) : Int:=if x=0∨y=0 then 0 else if neg=true then -1 else 1
theorem bl_eq_zero {x : Int} (h : 0≤x) : bl x=0↔x=0:=by
 constructor
 ·intro hb
  by_cases h0 : x=0
  ·exact h0
  ·have:=bl_pos (n:=x) (by omega)
   omega
 ·intro hb
  rw [hb,bl_zero]
theorem sign_f {a b : List Int} {m n : Nat} {x y : Int} (h : Nm a m x) (k : Nm b n y) (hm : m < 1000000) (hn : n < 1000000) (neg : Bool) : Ev (fun r=>rat_Sign.f r neg a b) (sgn neg x y):=by
 have jj : ∀ z,Ev (fun r=>rat_Sign.j0 r z neg a b) (if z=true then 0 else if neg=true then -1 else 1):=fun z=>by
  refine Ev_up ?_
  unfold rat_Sign.j0
  cases z with
 |true=>exact Ev_pos rfl (Ev.now _)
 |false =>
   refine Ev_neg (by simp) ?_
   cases neg with
  |true=>exact Ev_pos rfl (Ev.now _)
  |false=>exact Ev_neg (by simp) (Ev.now _)
 unfold rat_Sign.f sgn
 refine Ev_some (h.bits (by omega)) ?_
 by_cases hx : x=0
 ·rw [if_pos (.inl hx)]
  exact Ev_pos ((bl_eq_zero h.pos).mpr hx) (jj true)
 ·refine Ev_neg (fun hh=>hx ((bl_eq_zero h.pos).mp hh)) ?_
  refine Ev_some (k.bits (by omega)) ?_
  by_cases hy : y=0
  ·rw [if_pos (.inr hy),show (bl y == 0)=true from beq_iff_eq.mpr ((bl_eq_zero k.pos).mpr hy)]
   exact jj true
  ·rw [if_neg (by omega),show (bl y == 0)=false from beq_eq_false_iff_ne.mpr (fun hh=>hy ((bl_eq_zero k.pos).mp hh))]
   exact jj false
theorem sgn_ends (neg : Bool) (x y : Int) : sgn neg x y=0∨sgn neg x y = -1∨sgn neg x y=1:=by
 unfold sgn
 split
 ·exact .inl rfl
 ·split
  ·exact .inr (.inl rfl)
  ·exact .inr (.inr rfl)
theorem sgn_zero {neg : Bool} {x y : Int} : sgn neg x y=0↔(x=0∨y=0):=by
 unfold sgn
 constructor
 ·intro h
  split at h
  ·assumption
  ·split at h <;> omega
 ·intro h
  exact if_pos h
theorem ratS_ne {n m : Bool} {x y u v : Int} (h1 : ¬ (x=0∨y=0)) (h : u=0∨v=0) (hx : 0≤x) (hy : 0≤y) : ratS n x y≠ratS m u v:=by
 intro e
 rw [ratS_pos h1,ratS_zero h] at e
 have e2:=(Prod.mk.inj (Prod.mk.inj e).2).1
 have hg:=gz_pos h1
 have h3:=(L_nil_iff (Int.ediv_nonneg hx (Int.le_of_lt hg))).mp e2
 have h4:=Int.ediv_mul_cancel (gz_dvd_left x y)
 rw [h3,Int.zero_mul] at h4
 exact h1 (.inl h4.symm)
theorem ratS_iff {n m : Bool} {x y u v : Int} (hx : 0≤x) (hy : 0≤y) (hu : 0≤u) (hv : 0≤v) : ratS n x y=ratS m u v↔(sgn n x y=sgn m u v∧(sgn n x y=0∨x * v=u * y)):=by
 by_cases h1 : x=0∨y=0
 ·by_cases h2 : u=0∨v=0
  ·rw [ratS_zero h1,ratS_zero h2,sgn_zero.mpr h1,sgn_zero.mpr h2]
   exact ⟨fun _=>⟨rfl,.inl rfl⟩,fun _=>rfl⟩
  ·constructor
   ·intro e
    exact absurd e.symm (ratS_ne h2 h1 hu hv)
   ·intro e
    rw [sgn_zero.mpr h1] at e
    exact absurd (sgn_zero.mp e.1.symm) h2
 ·by_cases h2 : u=0∨v=0
  ·constructor
   ·intro e
    exact absurd e (ratS_ne h1 h2 hx hy)
   ·intro e
    rw [sgn_zero.mpr h2] at e
    exact absurd (sgn_zero.mp e.1) h1
  ·constructor
   ·intro e
    obtain ⟨e1,e2⟩:=cross_of hx hy hu hv h1 h2 e
    refine ⟨?_,.inr e2⟩
    unfold sgn
    rw [if_neg h1,if_neg h2,e1]
   ·intro e
    have hnm : n=m:=by
     have h3:=e.1
     unfold sgn at h3
     rw [if_neg h1,if_neg h2] at h3
     cases n <;> cases m <;> simp at h3 ⊢
    rw [hnm]
    have hne : ¬ sgn n x y=0:=fun h3=>h1 (sgn_zero.mp h3)
    exact ratS_cross hx (by omega) hu (by omega) (e.2.resolve_left hne)
theorem rsame_f {n m : Bool} {a b c d : List Int} {i j k l : Nat} {x y u v : Int} (ha : Nm a i x) (hb : Nm b j y) (hc : Nm c k u) (hd : Nm d l v) (hi : i < 100000) (hj : j < 100000) (hk : k < 100000) (hl : l < 100000) :
  Ev (fun r=>rat_Same.f r n a b m c d) (decide (ratS n x y=ratS m u v)):=by
 have iff:=ratS_iff (n:=n) (m:=m) ha.pos hb.pos hc.pos hd.pos
 unfold rat_Same.f rat_Cmp.f
 have s1:=sgn_ends n x y
 have s2:=sgn_ends m u v
 by_cases he : sgn n x y=sgn m u v
 ·refine Ev.bind (a:=sgn n x y * cm (x * v) (u * y)) ?_ ?_
  ·refine Ev.bind (sign_f ha hb (by omega) (by omega) n) ?_
   refine Ev.bind (sign_f hc hd (by omega) (by omega) m) ?_
   refine Ev_pos he ?_
   refine Ev.bind (ha.mul hd (by omega) (by omega)) ?_
   refine Ev.bind (hc.mul hb (by omega) (by omega)) ?_
   refine Ev.bind ((ha.mulL hd).cmp (hc.mulL hb) (by omega) (by omega)) ?_
   have hcm : cm (x * v) (u * y)=0∨cm (x * v) (u * y) = -1∨cm (x * v) (u * y)=1:=by
    unfold cm
    split
    ·exact .inr (.inl rfl)
    ·split
     ·exact .inr (.inr rfl)
     ·exact .inl rfl
   refine Ev_now ?_
   rcases s1 with h|h|h <;> rcases hcm with h3|h3|h3 <;> rw [h,h3] <;> decide +kernel
  ·refine Ev_now ?_
   congr 1
   have e2 : (sgn n x y * cm (x * v) (u * y)=0)↔(sgn n x y=0∨x * v=u * y):=by
    rw [Int.mul_eq_zero,cm_zero_iff]
   by_cases hz : sgn n x y * cm (x * v) (u * y)=0
   ·rw [decide_eq_true (iff.mpr ⟨he,e2.mp hz⟩)]
    exact beq_iff_eq.mpr hz
   ·rw [decide_eq_false (fun h=>hz (e2.mpr (iff.mp h).2))]
    exact beq_eq_false_iff_ne.mpr hz
 ·refine Ev.bind (a:=if sgn n x y < sgn m u v then -1 else 1) ?_ ?_
  ·refine Ev.bind (sign_f ha hb (by omega) (by omega) n) ?_
   refine Ev.bind (sign_f hc hd (by omega) (by omega) m) ?_
   refine Ev_neg he ?_
   refine Ev_now ?_
   split <;> rfl
  ·refine Ev_now ?_
   rw [decide_eq_false (fun h=>he (iff.mp h).1)]
   split <;> rfl
end Go.Proofs.YtncdiodnbkhacaaDoor.N
end
section
namespace Go.Proofs.YtncdiodnbkhacaaDoor.Pure
open Go Go.RowKit Go.Proofs.YtncdiodnbkhacaaDoor.Pq Go.Proofs.YtncdiodnbkhacaaDoorW.PrintWords Go.Proofs.YtncdiodnbkhacaaDoorW.PrintLast Go.Proofs.YtncdiodnbkhacaaDoor.N
set_option maxHeartbeats 2000000 in
theorem DecimalBack (n1 : Bool) (a b : List Int) (n2 : Bool) (c d : List Int) (wa : ∀ x∈a,(Lit.int .u32 x).wf=true) (wb : ∀ x∈b,(Lit.int .u32 x).wf=true) (wc : ∀ x∈c,(Lit.int .u32 x).wf=true) (wd : ∀ x∈d,(Lit.int .u32 x).wf=true) :
  ∃ k,penumbralaw04_DecimalBack.f k n1 a b n2 c d=some true:=by
 apply Ev.rounds
 have hT : Ev (fun k=>penumbralaw04_DecimalBack.j0 k true n1 a b n2 c d) true:=by
  refine Ev_up ?_
  unfold penumbralaw04_DecimalBack.j0
  refine Ev_pos rfl ?_
  exact Ev.bind fixed4 (Ev.now _)
 unfold penumbralaw04_DecimalBack.f
 by_cases h1 : (a.length : Int) > 100
 ·exact Ev_pos h1 hT
 refine Ev_neg h1 ?_
 by_cases h2 : (b.length : Int) > 100
 ·exact Ev_pos h2 hT
 refine Ev_neg h2 ?_
 by_cases h3 : (c.length : Int) > 100
 ·exact Ev_pos h3 hT
 refine Ev_neg h3 ?_
 by_cases h4 : (d.length : Int) > 100
 ·rw [decide_eq_true h4]
  exact hT
 rw [decide_eq_false h4]
 have na:=Nm.of wa (n:=100) (by omega)
 have nb:=Nm.of wb (n:=100) (by omega)
 have nc:=Nm.of wc (n:=100) (by omega)
 have nd':=Nm.of wd (n:=100) (by omega)
 generalize V a=x at na
 generalize V b=y at nb
 generalize V c=u at nc
 generalize V d=v at nd'
 obtain ⟨s,p,q,e,np,nq,q0⟩:=ratS_parts na.pos nb.pos na.lt nb.lt n1
 obtain ⟨s',p',q',e',np',nq',q0'⟩:=ratS_parts nc.pos nd'.pos nc.lt nd'.lt n2
 have hsz : (printB s p q).size≤140737488351232:=by
  have sp:=natS_small np.pos np.lt
  have sq:=natS_small nq.pos nq.lt
  rw [bs_size] at sp sq
  rw [bs_size,bs_printB]
  unfold prL
  have k1 : (if s=true then [(45 : UInt8)] else []).length≤1:=by split <;> simp
  have k2 : (if q=1 then [] else 47 :: bs (natS q)).length≤18 * 101+2:=by
   split
   ·simp
   ·simp;omega
  rw [List.length_append,List.length_append]
  omega
 have hps : parseS (bs (printB s p q))=(s,L p,L q,0):=by rw [bs_printB,parse_print np.pos q0 np.lt nq.lt (by omega) (by omega),finS_again na.pos nb.pos np.pos q0 e]
 have hps' : parseS (bs (printB s' p' q'))=(s',L p',L q',0):=by rw [bs_printB,parse_print np'.pos q0' np'.lt nq'.lt (by omega) (by omega),finS_again nc.pos nd'.pos np'.pos q0' e']
 refine Ev_up ?_
 unfold penumbralaw04_DecimalBack.j0
 refine Ev_neg (by simp) ?_
 refine Ev.bind (print_f na nb (by omega) (by omega) e np nq (by omega) (by omega) q0) ?_
 refine Ev.bind (print_f nc nd' (by omega) (by omega) e' np' nq' (by omega) (by omega) q0') ?_
 refine Ev.bind (parse_f hsz) ?_
 refine Ev.bind fixed4 ?_
 refine Ev_pos rfl ?_
 rw [hps]
 refine Ev_pos rfl ?_
 refine Ev.bind (read_f na nb (by omega) (by omega) n1) ?_
 rw [e]
 have lp:=np.le
 have lq:=nq.le
 dsimp only
 refine Ev.bind (is_same (by omega) (by omega)) ?_
 refine Ev_pos rfl ?_
 refine Ev.bind (rsame_f na nb nc nd' (by omega) (by omega) (by omega) (by omega)) ?_
 refine Ev_now ?_
 congr 1
 rw [e,e',bs_list,bs_list]
 by_cases hh : (s,L p,L q)=(s',L p',L q')
 ·rw [decide_eq_true hh]
  obtain ⟨f1,f2⟩:=Prod.mk.inj hh
  obtain ⟨f2,f3⟩:=Prod.mk.inj f2
  have g2:=L_inj np.pos np'.pos f2
  have g3:=L_inj nq.pos nq'.pos f3
  rw [f1,g2,g3]
  simp
 ·rw [decide_eq_false hh]
  have : bs (printB s p q)≠bs (printB s' p' q'):=by
   intro hb
   have h9:=congrArg parseS hb
   rw [hps,hps'] at h9
   obtain ⟨f1,f2⟩:=Prod.mk.inj h9
   obtain ⟨f2,f3⟩:=Prod.mk.inj f2
   obtain ⟨f3,_⟩:=Prod.mk.inj f3
   exact hh (by rw [f1,f2,f3])
  rw [beq_eq_false_iff_ne.mpr this]
  rfl
end Go.Proofs.YtncdiodnbkhacaaDoor.Pure
end
section
namespace Go.Proofs.YtncdiodnbkhacaaDoor.decimalBack
open Go.ChangeShapes Go.WideShapes Go.ChangeAt Go.RowKit
open Go.ChangeMaps (open_string shut_string)
open Go.Proofs.YtncdiodnbkhacaaDoorW.PrintWords Go.Proofs.YtncdiodnbkhacaaDoorW.PrintLast Go.Proofs.YtncdiodnbkhacaaDoorW.PrintMore
set_option linter.unusedVariables false
theorem own : ownKnob Tryd.prog.godebug=none:=by kernel_rfl
theorem laidOut : laidOutB Tryd.prog=true:=by kernel_rfl
def IsRow (k : IntKind) (w : World) (a : Option Addr) (len cap : Nat) (zs : List Int) : Prop :=
 (a=none∧len=0∧cap=0∧zs=[]) ∨
 ∃ x,a=some x∧len≤cap∧cap≤maxLen∧zs.length=cap∧(∀ i,i < zs.length→w.cell? (x.add i)=some (.int k (zs.getD i 0))) ∧ ∀ n∈zs,(Lit.int k n).wf=true
theorem isBool {H : Type} {enc : TypeId × Value→H} {W : World} {c : Value} {n : Nat} {y : DataW H × List MemPlace} (h : DataW.trod enc Tryd.prog W 0 (fun _=>true) true n 4 [c]=some y) : ∃ b,c=.bool b:=by
 cases n with
|zero=>simp [DataW.trod] at h
|succ n=>cases c <;> simp [DataW.trod,Tryd.underlying4] at h ⊢
theorem isRow {H : Type} {enc : TypeId × Value→H} {W : World} {c : Value} {n : Nat} {y : DataW H × List MemPlace} (h : DataW.trod enc Tryd.prog W 0 (fun _=>true) true n 23 [c]=some y) : ∃ a len cap zs,c=.slice a len cap∧IsRow .u32 W a len cap zs:=by
 rcases open_ints Tryd.underlying23 Tryd.underlying35 (by kernel_rfl) h with ⟨hcs,_⟩|⟨x,l,c',zs,hcs,_,hl,hm,hz,_,hcell,hwz⟩
 ·exact ⟨none,0,0,[],(List.cons.inj hcs).1,.inl ⟨rfl,rfl,rfl,rfl⟩⟩
 ·exact ⟨some x,l,c',zs,(List.cons.inj hcs).1,.inr ⟨x,rfl,hl,hm,by simpa using hz,hcell,hwz⟩⟩
set_option maxHeartbeats 4000000 in
set_option maxRecDepth 100000 in
theorem isRat {H : Type} {enc : TypeId × Value→H} {W : World} {base : Nat} {v : Value} {d : DataW H} {ps : List MemPlace} (ho : Value.okWide Tryd.prog W .any base 25 v) (h : DataW.Trod enc Tryd.prog W 0 (fun _=>true) true 25 v d ps) :
  ∃ neg a0 len0 cap0 z0 a1 len1 cap1 z1,v=.agg #[.bool neg,.slice a0 len0 cap0,.slice a1 len1 cap1]∧IsRow .u32 W a0 len0 cap0 z0∧IsRow .u32 W a1 len1 cap1 z1:=by
 obtain ⟨cs,rfl,hcs⟩:=okWide_struct Tryd.underlying25 ho
 rw [show Tryd.prog.cellsOf 25=3 by kernel_rfl] at hcs
 obtain ⟨c0,c1,c2,rfl⟩ : ∃ c0 c1 c2,cs=#[c0,c1,c2]:=by
  obtain ⟨l⟩:=cs
  have hl : l.length=3:=by simpa using hcs
  clear hcs ho h
  rcases l with _|⟨c0,_|⟨c1,_|⟨c2,_|⟨c3,l⟩⟩⟩⟩
  ·cases hl
  ·cases hl
  ·cases hl
  ·exact ⟨c0,c1,c2,rfl⟩
  ·simp at hl
 obtain ⟨fuel,hf⟩:=h
 obtain ⟨y0,y1,y2,n,hx,_,hb,hs1,hs2⟩:=Go.Deep.trod_struct3 Tryd.underlying25 hf
 have e4 : Tryd.prog.cellsOf 4=1:=by kernel_rfl
 have e23 : Tryd.prog.cellsOf 23=1:=by kernel_rfl
 obtain ⟨neg,rfl⟩:=isBool (y:=y0) (n:=n) (by simpa [e4,Value.cells] using hb)
 obtain ⟨a0,len0,cap0,z0,rfl,w0⟩:=isRow (y:=y1) (n:=n) (by simpa [e23,Value.cells] using hs1)
 obtain ⟨a1,len1,cap1,z1,rfl,w1⟩:=isRow (y:=y2) (n:=n) (by simpa [e23,Value.cells] using hs2)
 exact ⟨neg,a0,len0,cap0,z0,a1,len1,cap1,z1,rfl,w0,w1⟩
theorem reads (os : Os) {H : Type} (enc : TypeId × Value→H) : ∃ places,DataW.whole enc Tryd.prog ((Lb.world os).forCall (fun _ _=>0) ⟨#[],#[.agg #[.bool false,.slice none 0 0,.slice none 0 0],.agg #[.bool false,.slice none 0 0,.slice none 0 0]],[]⟩).memory Tryd.f6.params.toList Rows.decimalBackSpec.vars false (#[.agg #[.bool false,.slice none 0 0,.slice none 0 0],.agg #[.bool false,.slice none 0 0,.slice none 0 0]] : Array Value).toList 8=some ([.agg [.lit (.bool false),.nil,.nil],.agg [.lit (.bool false),.nil,.nil]],[],places) :=
 ⟨[],by kernel_rfl⟩
set_option maxHeartbeats 4000000 in
set_option maxRecDepth 100000 in
theorem lifted (os : Os) (started : os.Started) (H : Type) (enc : TypeId × Value→H) (F : Stop.Interp) :
  ReturnsInHanded {} Tryd.checked os 6 .any ((OpenSpec.ofChange Rows.decimalBackSpec).preRow enc Tryd.prog Tryd.f6 Rows.decimalBackRow.domain false Rows.decimalBackRow.laid) (((OpenSpec.ofChange Rows.decimalBackSpec).at F).post enc Tryd.prog Tryd.f6 false true false false):=by
 obtain ⟨x,hx⟩:=reads os enc
 refine returnsInHanded_of_row (C:=Tryd.checked) (s:=(OpenSpec.ofChange Rows.decimalBackSpec)) own started (by kernel_rfl) Tryd.func6
  (witness_row_at (enc:=enc) (C:=Tryd.checked) false (Lb.world os) #[.agg #[.bool false,.slice none 0 0,.slice none 0 0],.agg #[.bool false,.slice none 0 0,.slice none 0 0]] rfl (Lb.vars os _) (Lb.rest os _) (by kernel_rfl)
   (OpenSpec.preRow_of_cond 8 hx (by kernel_rfl) (fun k hk=>by cases hk) (by kernel_rfl) (Lb.met os _))) ?_
 intro W base args ds gs before hval0 hW hcnd _ hsz0 _ _ _
 have hsz : (DataW.weightsEach Tryd.prog (Tryd.f6.params.toList++Rows.decimalBackSpec.plain.varTypes Tryd.prog) (ds++gs)).all (· ≤ reachBytes)=true:=hsz0
 have hval : ∀ (j : Nat) t v,Tryd.f6.params[j]? = some t→args[j]? = some v→Value.okWide Tryd.prog W .any base t v:=hval0
 have hW':=hW
 obtain ⟨p,q,hA0,hV,rfl,hfz,hnd⟩:=hW
 have hA : DataW.TrodAll enc Tryd.prog W 0 (fun _=>true) true Tryd.f6.params.toList args.toList ds p:=hA0
 rw [Tryd.params6] at hA hval hsz
 obtain ⟨v0,vs0,d0,ds0,p0,q0,hargs,rfl,rfl,h0,r0⟩:=trodAll_cons hA
 obtain ⟨v1,vs1,d1,ds1,p1,q1,rfl,rfl,rfl,h1,r1⟩:=trodAll_cons r0
 obtain ⟨rfl,rfl,rfl⟩:=trodAll_nil r1
 obtain rfl : args=#[v0,v1]:=by cases args;simp_all
 obtain ⟨rfl,rfl⟩:=trodVars_none hV
 have k0:=h0
 have k1:=h1
 have lt0 : ∀ x∈p0,x.block < W.heap.size:=by obtain ⟨m,hm⟩:=k0;exact DataW.trod_lt m _ _ _ hm
 have lt1 : ∀ x∈p1,x.block < W.heap.size:=by obtain ⟨m,hm⟩:=k1;exact DataW.trod_lt m _ _ _ hm
 obtain ⟨neg,a0,len0,cap0,z0,a1,len1,cap1,z1,rfl,w0,w1⟩:=isRat (hval 0 25 v0 rfl rfl) h0
 obtain ⟨neg',a2,len2,cap2,z2,a3,len3,cap3,z3,rfl,w2,w3⟩:=isRat (hval 1 25 v1 rfl rfl) h1
 clear hA0 hval0 hsz0 hsz
 obtain ⟨l0,rfl,hr0,hm0,hw0,hc0⟩:=ReadsInt.ofRowC w0
 obtain ⟨l1,rfl,hr1,hm1,hw1,hc1⟩:=ReadsInt.ofRowC w1
 obtain ⟨l2,rfl,hr2,hm2,hw2,hc2⟩:=ReadsInt.ofRowC w2
 obtain ⟨l3,rfl,hr3,hm3,hw3,hc3⟩:=ReadsInt.ofRowC w3
 obtain ⟨k,hk⟩:=Pure.DecimalBack neg l0 l1 neg' l2 l3 hw0 hw1 hw2 hw3
 refine (Pq.penumbralaw04_DecimalBack.calls k neg _ _ l0 _ _ l1 neg' _ _ l2 _ _ l3 true W (Kd.C_of_reads (d:=(0 : Int)) (h1:=fun _=>rfl) hr0) hc0 (Kd.C_of_reads (d:=(0 : Int)) (h1:=fun _=>rfl) hr1) hc1 (Kd.C_of_reads (d:=(0 : Int)) (h1:=fun _=>rfl) hr2) hc2 (Kd.C_of_reads (d:=(0 : Int)) (h1:=fun _=>rfl) hr3) hc3 hk).mono fun e W' ⟨he,bel⟩=>?_
 subst he
 exact ⟨_,rfl,_,_,_,[],_,[],hW',trodAll_mk1 (shut_bool Tryd.underlying4 _),(trodAll_cons_mk (Below.trod laidOut (by kernel_rfl) (of_decide_eq_true (by kernel_rfl)) k0 bel lt0) (trodAll_cons_mk (Below.trod laidOut (by kernel_rfl) (of_decide_eq_true (by kernel_rfl)) k1 bel lt1) trodAll_mk0)),rfl,bel.frame _,fun h=>by cases h⟩
theorem over : Rows.decimalBackRow.holds Tryd.pinned (OpenSpec.ofChange Rows.decimalBackSpec) :=
 OpenClaim.holds_of_cond 6 Tryd.f6 rfl rfl rfl rfl rfl rfl rfl ⟨rfl,rfl,rfl,rfl,rfl⟩ rfl rfl rfl rfl rfl (by kernel_rfl) Tryd.func6 (by kernel_rfl)
  (of_decide_eq_true (by kernel_rfl)) (by unfold Func.isWrapper;first|(rw [if_pos (by decide +kernel)];kernel_rfl)|(rw [if_neg (by decide +kernel)];exact ⟨rfl,rfl⟩))
  (fun os started H enc _ F=>by rw [OpenClaim.pre_eq_preRow];exact lifted os started H enc F)
theorem proved : Rows.DecimalBackSaid:=over
theorem plain (f : FuncId) (fn : Func) (hf : Tryd.pinned.checked.prog.funcNamed "penumbra/penumbralaw04.DecimalBack" = some f) (hfn : Tryd.pinned.checked.prog.funcs[f]? = some fn) :
  false=Tryd.pinned.checked.prog.looks [] ∧ ∀ (j : Nat) t,fn.params[j]? = some t→Tryd.pinned.checked.prog.wantsStandIn t=false:=by
 obtain rfl : f=6:=Option.some.inj ((show Tryd.prog.funcNamed "penumbra/penumbralaw04.DecimalBack" = some 6 by kernel_rfl).symm.trans hf) |>.symm
 obtain rfl : fn=Tryd.f6:=(Option.some.inj (Tryd.func6.symm.trans hfn)).symm
 refine ⟨by kernel_rfl,fun j t ht=>?_⟩
 rw [Tryd.params6] at ht
 have hm:=Array.mem_of_getElem? ht
 simp only [List.mem_toArray,List.mem_cons,List.not_mem_nil,or_false] at hm
 rcases hm with rfl|rfl
 ·exact (show Tryd.prog.wantsStandIn 25=false by kernel_rfl)
 ·exact (show Tryd.prog.wantsStandIn 25=false by kernel_rfl)
theorem card : Rows.DecimalBackCardSaid :=
 Claim7.holds_tied_plain_at .later [] _ _ _ _ proved (fun _ h=>by cases h) (by kernel_rfl) (fun _ h=>by cases h) decimalBack_row_tie rfl ⟨rfl,rfl⟩ (by kernel_rfl) rfl plain (by kernel_rfl)
#print axioms card
end Go.Proofs.YtncdiodnbkhacaaDoor.decimalBack
namespace Go.Proofs.YtncdiodnbkhacaaDoor
theorem decimalBack_holds : Rows.DecimalBackCardSaid:=decimalBack.card
end Go.Proofs.YtncdiodnbkhacaaDoor
end
