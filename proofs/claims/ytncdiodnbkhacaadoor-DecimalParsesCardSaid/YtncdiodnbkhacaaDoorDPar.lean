import Derived.Test.YtncdiodnbkhacaaDoorDPar5
import Derived.Test.YtncdiodnbkhacaaDoorCards
import Derived.Test.YtncdiodnbkhacaaDoorProg
import Derived.Test.YtncdiodnbkhacaaDoorRows
import Derived.Test.YtncdiodnbkhacaaDoorTie
set_option linter.unusedVariables false
set_option linter.unusedSimpArgs false
section
namespace Go.Proofs.YtncdiodnbkhacaaDoor.N
set_option linter.unusedVariables false
set_option linter.unusedSimpArgs false
open Go Go.RowKit Go.Proofs.YtncdiodnbkhacaaDoorW.PrintWords Go.Proofs.YtncdiodnbkhacaaDoorW.PrintLast Go.Proofs.YtncdiodnbkhacaaDoorW.PrintMore Go.Proofs.YtncdiodnbkhacaaDoor.Pq
def gz (x y : Int) : Int:=(Int.gcd x y : Int)
theorem gz_nonneg (x y : Int) : 0 ≤ gz x y:=Int.natCast_nonneg _
theorem gz_nat (m n : Nat) : gz (m : Int) (n : Int) = (Nat.gcd m n : Int):=by
 unfold gz
 rw [Int.gcd_natCast_natCast]
theorem gz_zero {x : Int} (h : 0 ≤ x) : gz x 0 = x:=by
 obtain ⟨m,rfl⟩:=Int.eq_ofNat_of_zero_le h
 have:=gz_nat m 0
 rw [Nat.gcd_zero_right] at this
 exact this
theorem gz_step {x y : Int} (hx : 0 ≤ x) (hy : 0 ≤ y) : gz y (x % y) = gz x y:=by
 obtain ⟨m,rfl⟩:=Int.eq_ofNat_of_zero_le hx
 obtain ⟨n,rfl⟩:=Int.eq_ofNat_of_zero_le hy
 have e : ((m : Int) % (n : Int)) = ((m % n : Nat) : Int):=rfl
 rw [e,gz_nat,gz_nat,Nat.gcd_comm n,← Nat.gcd_rec,Nat.gcd_comm]
theorem gz_comm (x y : Int) : gz x y = gz y x:=by unfold gz;rw [Int.gcd_comm]
theorem gz_dvd_left (x y : Int) : gz x y ∣ x:=Int.gcd_dvd_left ..
theorem gz_dvd_right (x y : Int) : gz x y ∣ y:=Int.gcd_dvd_right ..
theorem gz_lt {x y B : Int} (hx : 0 ≤ x) (hy : 0 ≤ y) (hxB : x < B) (hyB : y < B) : gz x y < B:=by
 rcases Int.lt_or_eq_of_le hx with h|h
 ·have:=Int.le_of_dvd h (gz_dvd_left x y)
  omega
 ·subst h
  rw [gz_comm,gz_zero hy]
  exact hyB
theorem L_len0 {x : Int} (h : 0 ≤ x) : ((L x).length : Int) = 0 ↔ x = 0:=by
 rw [← L_nil_iff h]
 constructor
 ·intro e;exact List.eq_nil_of_length_eq_zero (by omega)
 ·intro e;rw [e];rfl
theorem dmS_pos {x y : Int} (h : 0 < y) : dmS x y = (L (x / y),L (x % y),true):=if_neg (by omega)
theorem gcd_l0 {N : Nat} (hN : N < 35184360000000) : ∀ (M : Nat) (x y : Int),y.toNat < M → 0 ≤ x → 0 ≤ y → x < P N → y < P N → Ev (fun k=>root_Gcd.l0 k (L x) (L y)) (L (gz x y)):=by
 intro M
 induction M with
|zero=>intro x y h;omega
|succ M ih =>
  intro x y hM hx hy hxN hyN
  have hl:=L_len0 hy
  refine Ev_up ?_
  unfold root_Gcd.l0
  by_cases h0 : y = 0
  ·have h1 : ¬ ((L y).length : Int) > 0:=by rw [hl.2 h0];decide
   refine Ev_neg h1 ?_
   refine Ev_now ?_
   rw [h0,gz_zero hx]
  ·have hp : 0 < y:=by omega
   have h1 : ((L y).length : Int) > 0:=by
    have : ((L y).length : Int) ≠ 0:=fun e=>h0 (hl.1 e)
    omega
   have m0:=Int.emod_nonneg x h0
   have m1:=Int.emod_lt_of_pos x hp
   refine Ev_pos h1 ?_
   refine Ev.bind ((Nm.L hx hxN).dm (Nm.L hy hyN) hN hN) ?_
   rw [dmS_pos hp,← gz_step hx hy]
   exact ih y (x % y) (by omega) hy m0 hyN (by omega)
theorem Nm.gcd {a b : List Int} {m n : Nat} {x y : Int} (h : Nm a m x) (k : Nm b n y) (hm : m < 17592180000000) (hn : n < 17592180000000) : Ev (fun r=>root_Gcd.f r a b) (N.L (gz x y)):=by
 refine Ev_some (h.nrm (by omega)) ?_
 refine Ev_some (k.nrm (by omega)) ?_
 exact gcd_l0 (N:=m + n) (by omega) _ x y (Nat.lt_succ_self _) h.pos k.pos (Int.lt_of_lt_of_le h.lt (P_le (by omega))) (Int.lt_of_lt_of_le k.lt (P_le (by omega)))
theorem Nm.gcdL {a b : List Int} {m n : Nat} {x y : Int} (h : Nm a m x) (k : Nm b n y) : Nm (N.L (gz x y)) (m + n) (gz x y) :=
 Nm.L (gz_nonneg x y) (gz_lt h.pos k.pos (Int.lt_of_lt_of_le h.lt (P_le (by omega))) (Int.lt_of_lt_of_le k.lt (P_le (by omega))))
theorem rgcd_l0 {N : Nat} (hN : N < 8796093000000) : ∀ (M : Nat) (a b : List Int) (x y : Int),y.toNat < M → Nm a N x → Nm b N y → Ev (fun k=>penumbraref02_Gcd.l0 k a b) (L (gz x y)):=by
 intro M
 induction M with
|zero=>intro a b x y h;omega
|succ M ih =>
  intro a b x y hM hx hy
  have px:=hx.pos
  have py:=hy.pos
  refine Ev_up ?_
  unfold penumbraref02_Gcd.l0
  refine Ev.bind (hy.rzero (by omega)) ?_
  by_cases h0 : y = 0
  ·refine Ev_pos (decide_eq_true h0) ?_
   refine Ev.bind (hx.rnrm (by omega)) ?_
   refine Ev_now ?_
   rw [h0,gz_zero px]
  ·have hp : 0 < y:=by omega
   have m0:=Int.emod_nonneg x h0
   have m1:=Int.emod_lt_of_pos x hp
   refine Ev_neg (by rw [decide_eq_true_iff];exact h0) ?_
   refine Ev.bind (hx.rdm hy hN hN) ?_
   rw [dmS_pos hp,← gz_step px py]
   exact ih b (L (x % y)) y (x % y) (by omega) hy (Nm.L m0 (Int.lt_trans m1 hy.lt))
theorem Nm.rgcd {a b : List Int} {m n : Nat} {x y : Int} (h : Nm a m x) (k : Nm b n y) (hm : m < 4398040000000) (hn : n < 4398040000000) : Ev (fun r=>penumbraref02_Gcd.f r a b) (N.L (gz x y)) :=
 rgcd_l0 (N:=m + n) (by omega) _ a b x y (Nat.lt_succ_self _) (h.up (by omega)) (k.up (by omega))
end Go.Proofs.YtncdiodnbkhacaaDoor.N
end
section
namespace Go.Proofs.YtncdiodnbkhacaaDoor.N
set_option linter.unusedVariables false
set_option linter.unusedSimpArgs false
open Go Go.RowKit Go.Proofs.YtncdiodnbkhacaaDoorW.PrintWords Go.Proofs.YtncdiodnbkhacaaDoorW.PrintLast Go.Proofs.YtncdiodnbkhacaaDoorW.PrintMore Go.Proofs.YtncdiodnbkhacaaDoor.Pq
def ratS (neg : Bool) (x y : Int) : Bool × List Int × List Int:=if x = 0 ∨ y = 0 then (false,[],[1]) else (neg,L (x / gz x y),L (y / gz x y))
theorem ratS_zero {neg : Bool} {x y : Int} (h : x = 0 ∨ y = 0) : ratS neg x y = (false,[],[1]):=if_pos h
theorem ratS_pos {neg : Bool} {x y : Int} (h : ¬ (x = 0 ∨ y = 0)) : ratS neg x y = (neg,L (x / gz x y),L (y / gz x y)):=if_neg h
theorem gz_pos {x y : Int} (h : ¬ (x = 0 ∨ y = 0)) : 0 < gz x y:=by
 have h1:=gz_nonneg x y
 by_cases h2 : gz x y = 0
 ·exfalso
  have h3:=gz_dvd_left x y
  rw [h2] at h3
  exact h (.inl (Int.zero_dvd.mp h3))
 ·omega
theorem gz_le {x y : Int} (hx : 0 ≤ x) (h : ¬ (x = 0 ∨ y = 0)) : gz x y ≤ x:=Int.le_of_dvd (by omega) (gz_dvd_left x y)
theorem made_f {a b : List Int} {m n : Nat} {x y : Int} (h : Nm a m x) (k : Nm b n y) (hm : m < 1000000000) (hn : n < 1000000000) (neg : Bool) : Ev (fun r=>rat_made.f r neg a b) (ratS neg x y):=by
 have hx:=h.pos
 have hy:=k.pos
 have jT : ∀ (l : List Int) (l' : List Int),Ev (fun r=>rat_made.j0 r neg l l' true) (false,[],[1]):=fun l l'=>by
  refine Ev_up ?_
  unfold rat_made.j0
  exact Ev_pos rfl (Ev.now _)
 unfold rat_made.f
 refine Ev_some (h.nrm (by omega)) ?_
 refine Ev_some (k.nrm (by omega)) ?_
 by_cases hx0 : x = 0
 ·refine Ev_pos ((L_len0 hx).mpr hx0) ?_
  rw [ratS_zero (.inl hx0)]
  exact jT _ _
 ·refine Ev_neg (fun hh=>hx0 ((L_len0 hx).mp hh)) ?_
  by_cases hy0 : y = 0
  ·rw [ratS_zero (.inr hy0),show (((N.L y).length : Int) == 0) = true from beq_iff_eq.mpr ((L_len0 hy).mpr hy0)]
   exact jT _ _
  ·have h0 : ¬ (x = 0 ∨ y = 0):=by omega
   have hg:=gz_pos h0
   have hgx:=gz_le hx h0
   rw [ratS_pos h0,show (((N.L y).length : Int) == 0) = false from beq_eq_false_iff_ne.mpr (fun hh=>hy0 ((L_len0 hy).mp hh))]
   have jj : Ev (fun r=>rat_made.j1 r neg (L x) (L y) (L (gz x y)) true) (neg,L (x / gz x y),L (y / gz x y)):=by
    refine Ev_up ?_
    unfold rat_made.j1
    refine Ev_pos rfl ?_
    refine Ev.bind (h.norm.dm (h.norm.gcdL k.norm) (by omega) (by omega)) ?_
    refine Ev.bind (k.norm.dm (h.norm.gcdL k.norm) (by omega) (by omega)) ?_
    rw [dmS_pos hg,dmS_pos hg]
    exact Ev.now _
   refine Ev_up ?_
   simp only [rat_made.j0]
   refine Ev_neg (by simp) ?_
   refine Ev.bind (h.norm.gcd k.norm (by omega) (by omega)) ?_
   by_cases hl : ((L (gz x y)).length : Int) > 1
   ·exact Ev_pos hl jj
   ·have hl0 : 0 < (L (gz x y)).length:=L_length_lt (m:=0) (by rw [P_zero];omega)
    refine Ev_neg hl ?_
    refine Ev_pos (by omega) ?_
    by_cases h1 : rd (L (gz x y)) 0 > 1
    ·rw [decide_eq_true h1]
     exact jj
    ·rw [decide_eq_false h1]
     have hb : gz x y < 4294967296:=by
      have h9:=V_lt (W_L (gz x y))
      have e1 : (L (gz x y)).length = 1:=by omega
      rw [V_L (Int.le_of_lt hg),e1,show P 1 = 4294967296 by decide +kernel] at h9
      exact h9
     have hgg : gz x y = 1:=by
      rw [L_pos hg] at h1
      have e2 : rd (gz x y % 4294967296 :: L (gz x y / 4294967296)) 0 = gz x y % 4294967296:=rfl
      rw [e2] at h1
      generalize gz x y = g at *
      omega
     refine Ev_up ?_
     simp only [rat_made.j1]
     refine Ev_neg (by simp) ?_
     rw [hgg,Int.ediv_one,Int.ediv_one]
     exact Ev.now _
theorem rread_f {a b : List Int} {m n : Nat} {x y : Int} (h : Nm a m x) (k : Nm b n y) (hm : m < 1000000000) (hn : n < 1000000000) (neg : Bool) : Ev (fun r=>penumbraref03_Read.f r neg a b) (ratS neg x y):=by
 have hx:=h.pos
 have hy:=k.pos
 have jT : ∀ (l : List Int) (l' : List Int),Ev (fun r=>penumbraref03_Read.j0 r true neg l l') (false,[],[1]):=fun l l'=>by
  refine Ev_up ?_
  unfold penumbraref03_Read.j0
  refine Ev_pos rfl ?_
  exact Ev.now _
 unfold penumbraref03_Read.f
 refine Ev.bind (k.rzero (by omega)) ?_
 by_cases hy0 : y = 0
 ·rw [ratS_zero (.inr hy0),decide_eq_true hy0]
  exact Ev_pos rfl (jT _ _)
 ·rw [decide_eq_false hy0]
  refine Ev_neg (by simp) ?_
  refine Ev.bind (h.rzero (by omega)) ?_
  by_cases hx0 : x = 0
  ·rw [ratS_zero (.inl hx0),decide_eq_true hx0]
   exact jT _ _
  ·have h0 : ¬ (x = 0 ∨ y = 0):=by omega
   have hg:=gz_pos h0
   rw [ratS_pos h0,decide_eq_false hx0]
   refine Ev_up ?_
   simp only [penumbraref03_Read.j0]
   refine Ev_neg (by simp) ?_
   refine Ev.bind (h.rgcd k (by omega) (by omega)) ?_
   refine Ev.bind (h.rdm (h.gcdL k) (by omega) (by omega)) ?_
   refine Ev.bind (k.rdm (h.gcdL k) (by omega) (by omega)) ?_
   rw [dmS_pos hg,dmS_pos hg]
   exact Ev.now _
theorem read_f {a b : List Int} {m n : Nat} {x y : Int} (h : Nm a m x) (k : Nm b n y) (hm : m < 1000000000) (hn : n < 1000000000) (neg : Bool) : Ev (fun r=>rat_Read.f r neg a b) (ratS neg x y):=by
 unfold rat_Read.f
 refine Ev.bind (made_f h k hm hn neg) ?_
 exact Ev.now _
theorem ratS_parts {m n : Nat} {x y : Int} (hx : 0 ≤ x) (hy : 0 ≤ y) (hxm : x < P m) (hyn : y < P n) (neg : Bool) :
  ∃ s p q,ratS neg x y = (s,L p,L q) ∧ Nm (L p) m p ∧ Nm (L q) (n + 1) q ∧ 0 < q:=by
 by_cases h : x = 0 ∨ y = 0
 ·refine ⟨false,0,1,by rw [ratS_zero h,L_zero,show L 1 = [1] by rw [L_pos (by decide),show (1 : Int) / 4294967296 = 0 from rfl,L_zero];rfl],?_,?_,by decide⟩
  ·exact Nm.zero.up (Nat.zero_le _)
  ·rw [show L 1 = [1] by rw [L_pos (by decide),show (1 : Int) / 4294967296 = 0 from rfl,L_zero];rfl]
   exact Nm.one.up (by omega)
 ·have hg:=gz_pos h
  refine ⟨neg,x / gz x y,y / gz x y,ratS_pos h,?_,?_,?_⟩
  ·exact Nm.L (Int.ediv_nonneg hx (by omega)) (Int.lt_of_le_of_lt (Int.ediv_le_self _ hx) hxm)
  ·exact (Nm.L (n:=n) (Int.ediv_nonneg hy (by omega)) (Int.lt_of_le_of_lt (Int.ediv_le_self _ hy) hyn)).up (by omega)
  ·exact Int.ediv_pos_of_pos_of_dvd (by omega) (by omega) (gz_dvd_right x y)
end Go.Proofs.YtncdiodnbkhacaaDoor.N
end
section
namespace Go.Proofs.YtncdiodnbkhacaaDoor.N
set_option linter.unusedVariables false
set_option linter.unusedSimpArgs false
open Go Go.RowKit Go.Proofs.YtncdiodnbkhacaaDoorW.PrintWords Go.Proofs.YtncdiodnbkhacaaDoorW.PrintLast Go.Proofs.YtncdiodnbkhacaaDoorW.PrintMore Go.Proofs.YtncdiodnbkhacaaDoor.Pq
def bs (b : ByteArray) : List UInt8:=b.data.toList
theorem bs_mk (l : List UInt8) : bs ⟨l.toArray⟩ = l:=rfl
theorem bs_size (b : ByteArray) : b.size = (bs b).length:=by
 unfold bs
 rw [Array.length_toList]
 rfl
theorem bs_list (b : ByteArray) : b.toList = bs b:=ByteArray.toList_eq b
theorem bs_append (a b : ByteArray) : bs (a ++ b) = bs a ++ bs b:=by
 unfold bs
 rw [ByteArray.data_append,Array.toList_append]
theorem bs_extract (b : ByteArray) (i j : Nat) : bs (b.extract i j) = ((bs b).take j).drop i:=by
 unfold bs
 rw [ByteArray.data_extract,Array.toList_extract,List.extract_eq_take_drop,List.drop_take]
theorem bs_first (b : ByteArray) (i : Nat) : bs (b.extract 0 i) = (bs b).take i:=by rw [bs_extract,List.drop_zero]
theorem bs_rest (b : ByteArray) (i : Nat) : bs (b.extract i b.size) = (bs b).drop i:=by rw [bs_extract,bs_size,List.take_length]
theorem bs_bt (b : ByteArray) (i : Nat) : bt b (i : Int) = (((bs b).getD i 0).toNat : Int):=by
 unfold bt
 rw [Int.toNat_natCast]
 by_cases h : i < b.size
 ·rw [dif_pos h]
  have h2 : i < (bs b).length:=by rw [← bs_size];exact h
  rw [List.getD_eq_getElem?_getD,List.getElem?_eq_getElem h2,Option.getD_some]
  rfl
 ·rw [dif_neg h]
  have h2 : ¬ i < (bs b).length:=by rw [← bs_size];exact h
  rw [List.getD_eq_getElem?_getD,List.getElem?_eq_none (by omega)]
  rfl
def isD (c : UInt8) : Bool:=decide (48 ≤ c.toNat) && decide (c.toNat ≤ 57)
theorem isD_iff {c : UInt8} : isD c = true ↔ 48 ≤ c.toNat ∧ c.toNat ≤ 57:=by
 unfold isD
 simp
def nd (l : List UInt8) : Nat:=(l.takeWhile isD).length
theorem nd_le (l : List UInt8) : nd l ≤ l.length:=List.Sublist.length_le (List.takeWhile_sublist _)
theorem nd_nil : nd [] = 0:=rfl
theorem nd_cons_pos {c : UInt8} {l : List UInt8} (h : isD c = true) : nd (c :: l) = nd l + 1:=by
 unfold nd
 rw [List.takeWhile_cons_of_pos h]
 rfl
theorem nd_cons_neg {c : UInt8} {l : List UInt8} (h : ¬ isD c = true) : nd (c :: l) = 0:=by
 unfold nd
 rw [List.takeWhile_cons_of_neg h]
 rfl
theorem nd_all {l : List UInt8} : ∀ c ∈ l.take (nd l),isD c = true:=by
 intro c hc
 have h1 : l.take (nd l) = l.takeWhile isD:=by
  have h2:=List.takeWhile_append_dropWhile (p:=isD) (l:=l)
  have h3 : (l.takeWhile isD ++ l.dropWhile isD).take (nd l) = l.takeWhile isD:=by
   unfold nd
   rw [List.take_left]
  rw [h2] at h3
  exact h3
 rw [h1] at hc
 exact (List.all_eq_true.mp (List.all_takeWhile (p:=isD) (l:=l))) c hc
theorem tenth : ∀ n : Fin 256,([48,49,50,51,52,53,54,55,56,57] : List UInt8).contains (UInt8.ofNat n.val) = isD (UInt8.ofNat n.val):=by decide +kernel
theorem digit_set (c : UInt8) : ([48,49,50,51,52,53,54,55,56,57] : List UInt8).contains c = isD c:=by
 have h:=tenth ⟨c.toNat,c.toNat_lt⟩
 rw [show UInt8.ofNat (Fin.val (⟨c.toNat,c.toNat_lt⟩ : Fin 256)) = c from UInt8.ofNat_toNat] at h
 exact h
theorem digits_f {b : ByteArray} (hb : b.size ≤ 140737488351232) : decimal_digits.f b = some ((nd (bs b) : Nat) : Int):=by
 have hs:=bs_size b
 unfold decimal_digits.f strings_TrimLeft.f
 rw [if_pos ⟨by decide,by decide +kernel⟩,Option.bind_some]
 have h1 : (b.data.toList.dropWhile fun x=>(⟨#[48,49,50,51,52,53,54,55,56,57]⟩ : ByteArray).data.toList.contains x) = (bs b).dropWhile isD:=by
  show (bs b).dropWhile _ = _
  congr 1
  funext c
  exact digit_set c
 rw [h1,bs_size ⟨((bs b).dropWhile isD).toArray⟩,bs_mk]
 have h2:=congrArg List.length (List.takeWhile_append_dropWhile (p:=isD) (l:=bs b))
 rw [List.length_append] at h2
 have h3 : (nd (bs b) : Nat) = ((bs b).takeWhile isD).length:=rfl
 rw [wrap64_of (by omega) (by omega)]
 congr 1
 omega
theorem rdigits_l0 {b : ByteArray} (hb : b.size ≤ 140737488351232) : ∀ (d i : Nat),(bs b).length - i = d → i ≤ (bs b).length → Ev (fun k=>penumbraref04_Digits.l0 k b (i : Int)) ((i + nd ((bs b).drop i) : Nat) : Int)
|0,i,hd,hi=>by
  have hs:=bs_size b
  refine Ev_up ?_
  unfold penumbraref04_Digits.l0
  refine Ev_neg (by omega) ?_
  rw [List.drop_of_length_le (by omega),nd_nil]
  exact Ev.now _
|d + 1,i,hd,hi=>by
  have hs:=bs_size b
  have hlt : i < (bs b).length:=by omega
  refine Ev_up ?_
  unfold penumbraref04_Digits.l0
  refine Ev_pos (by omega) ?_
  refine Ev_pos (by omega) ?_
  rw [bs_bt,List.getD_eq_getElem?_getD,List.getElem?_eq_getElem hlt,Option.getD_some,List.drop_eq_getElem_cons hlt]
  by_cases h : isD (bs b)[i] = true
  ·have hh:=isD_iff.mp h
   refine Ev_pos (by omega) ?_
   refine Ev_pos (by omega) ?_
   rw [wrap64_of (by omega) (by omega),nd_cons_pos h,show i + (nd ((bs b).drop (i + 1)) + 1) = (i + 1) + nd ((bs b).drop (i + 1)) by omega]
   exact rdigits_l0 hb d (i + 1) (by omega) (by omega)
  ·rw [nd_cons_neg h]
   by_cases h1 : ((bs b)[i].toNat : Int) ≥ 48
   ·refine Ev_pos h1 ?_
    refine Ev_neg (fun h2=>h (isD_iff.mpr (by omega))) ?_
    exact Ev.now _
   ·exact Ev_neg h1 (Ev.now _)
theorem rdigits_f {b : ByteArray} (hb : b.size ≤ 140737488351232) : Ev (fun k=>penumbraref04_Digits.f k b) ((nd (bs b) : Nat) : Int):=by
 have h:=rdigits_l0 hb _ 0 rfl (Nat.zero_le _)
 rw [List.drop_zero,Nat.zero_add] at h
 exact h
def nv (v : Int) : List UInt8 → Int
|[]=>v
|c :: l=>nv (v * 10 + ((c.toNat : Int) - 48)) l
theorem nv_append (v : Int) (l m : List UInt8) : nv v (l ++ m) = nv (nv v l) m:=by
 induction l generalizing v with
|nil=>rfl
|cons c l ih=>exact ih _
theorem nv_ahead (v : Int) (l : List UInt8) : nv v l = v * 10 ^ l.length + nv 0 l:=by
 induction l generalizing v with
|nil=>simp [nv]
|cons c l ih =>
  show nv _ l = _ * 10 ^ (l.length + 1) + nv (0 * 10 + ((c.toNat : Int) - 48)) l
  rw [ih,ih (0 * 10 + ((c.toNat : Int) - 48)),Int.pow_succ,Int.add_mul,Int.add_mul,Int.mul_assoc v 10,Int.mul_comm 10]
  omega
theorem nv_bound {l : List UInt8} (hd : ∀ c ∈ l,isD c = true) {v : Int} {n : Nat} (h0 : 0 ≤ v) (h : v < 10 ^ n) : 0 ≤ nv v l ∧ nv v l < 10 ^ (n + l.length):=by
 induction l generalizing v n with
|nil=>exact ⟨h0,h⟩
|cons c l ih =>
  have hc:=isD_iff.mp (hd c (List.mem_cons_self ..))
  have e : n + (c :: l).length = (n + 1) + l.length:=by simp;omega
  rw [e]
  refine ih (fun x hx=>hd x (List.mem_cons_of_mem _ hx)) (by omega) ?_
  rw [Int.pow_succ]
  omega
theorem ten_P (n : Nat) : (10 : Int) ^ n ≤ P n:=by
 induction n with
|zero=>rw [P_zero,Int.pow_zero];exact Int.le_refl _
|succ n ih =>
  rw [P_succ,Int.pow_succ]
  have:=P_pos n
  omega
theorem ten_pos (n : Nat) : (0 : Int) < 10 ^ n:=Int.pow_pos (by decide)
end Go.Proofs.YtncdiodnbkhacaaDoor.N
end
section
namespace Go.Proofs.YtncdiodnbkhacaaDoor.N
set_option linter.unusedVariables false
set_option linter.unusedSimpArgs false
open Go Go.RowKit Go.Proofs.YtncdiodnbkhacaaDoorW.PrintWords Go.Proofs.YtncdiodnbkhacaaDoorW.PrintLast Go.Proofs.YtncdiodnbkhacaaDoorW.PrintMore Go.Proofs.YtncdiodnbkhacaaDoor.Pq
theorem Nm.ten : Nm [10] 1 10:=⟨W_one (by decide) (by decide),V_one 10,Nat.le_refl _⟩
theorem rnumber_l0 {b : ByteArray} (hb : b.size ≤ 1000000) (hd : ∀ c ∈ bs b,isD c = true) : ∀ (d i : Nat) (x : List Int) (v : Int),(bs b).length - i = d → i ≤ (bs b).length → Nm x i v → v < 10 ^ i →
  Ev (fun k=>penumbraref04_Number.l0 k b x [10] (i : Int)) (L (nv v ((bs b).drop i)))
|0,i,x,v,he,hi,hx,hv=>by
  have hs:=bs_size b
  refine Ev_up ?_
  unfold penumbraref04_Number.l0
  refine Ev_neg (by omega) ?_
  rw [List.drop_of_length_le (by omega)]
  refine Ev.bind (hx.rnrm (by omega)) ?_
  exact Ev.now _
|d + 1,i,x,v,he,hi,hx,hv=>by
  have hs:=bs_size b
  have hlt : i < (bs b).length:=by omega
  have hc:=isD_iff.mp (hd (bs b)[i] (List.getElem_mem hlt))
  have h0:=hx.pos
  refine Ev_up ?_
  unfold penumbraref04_Number.l0
  refine Ev_pos (by omega) ?_
  refine Ev.bind (hx.rmul Nm.ten (by omega)) ?_
  refine Ev_pos (by omega) ?_
  rw [bs_bt,List.getD_eq_getElem?_getD,List.getElem?_eq_getElem hlt,Option.getD_some,List.drop_eq_getElem_cons hlt]
  show Ev _ (L (nv (v * 10 + (((bs b)[i].toNat : Int) - 48)) ((bs b).drop (i + 1))))
  generalize (bs b)[i].toNat = c at hc
  rw [show (((c : Int) % 4294967296 - 48) % 4294967296) = (c : Int) - 48 by omega]
  have nc : Nm [(c : Int) - 48] 1 ((c : Int) - 48):=⟨W_one (by omega) (by omega),V_one _,Nat.le_refl _⟩
  refine Ev.bind ((hx.mulL Nm.ten).radd nc (by omega) (by omega)) ?_
  rw [wrap64_of (by omega) (by omega)]
  have hv2 : v * 10 + ((c : Int) - 48) < 10 ^ (i + 1):=by
   rw [Int.pow_succ]
   omega
  have hlt2 : v * 10 + ((c : Int) - 48) < P (i + 1):=Int.lt_of_lt_of_le hv2 (ten_P _)
  exact rnumber_l0 hb hd d (i + 1) _ _ (by omega) (by omega) (Nm.L (by omega) hlt2) hv2
theorem rnumber_f {b : ByteArray} (hb : b.size ≤ 1000000) (hd : ∀ c ∈ bs b,isD c = true) : Ev (fun k=>penumbraref04_Number.f k b) (L (nv 0 (bs b))):=by
 have h:=rnumber_l0 hb hd _ 0 [] 0 rfl (Nat.zero_le _) Nm.nil (by decide)
 rw [List.drop_zero] at h
 exact h
theorem pow9 : ∀ n : Fin 10,(10 : Int) ^ n.val ≤ 1000000000:=by decide +kernel
theorem u64_of {x : Int} (h0 : 0 ≤ x) (h1 : x < 18446744073709551616) : IntKind.u64.wrap x = x:=wrap_u64_of h0 h1
theorem number_l1 {b : ByteArray} (hb : b.size ≤ 1000000) (hd : ∀ c ∈ bs b,isD c = true) {n : Nat} (hn : n ≤ 9) (hnl : n ≤ (bs b).length) {v : Int} {m : Nat} (hx : Nm (L v) m v) (hm : m < 10000000) {R : List Int}
  (fin : Ev (fun k=>decimal_number.l0 k (b.extract n b.size) (L (v * 10 ^ n + nv 0 ((bs b).take n)))) R) : ∀ (d i : Nat),n - i = d → i ≤ n →
  Ev (fun k=>decimal_number.l1 k b (L v) (n : Int) (nv 0 ((bs b).take i)) (10 ^ i) (n : Int) (i : Int)) R
|0,i,he,hi=>by
  have hin : i = n:=by omega
  subst hin
  have hp:=pow9 ⟨i,by omega⟩
  simp only at hp
  have hp0:=ten_pos i
  have hb2:=nv_bound (v:=0) (n:=0) (fun c hc=>hd c (List.mem_of_mem_take hc)) (l:=(bs b).take i) (by decide) (by decide)
  rw [List.length_take,Nat.min_eq_left hnl,Nat.zero_add] at hb2
  have hs:=bs_size b
  refine Ev_up ?_
  unfold decimal_number.l1
  refine Ev_neg (by omega) ?_
  have n1 : Nm (L (10 ^ i)) 1 (10 ^ i):=Nm.L (by omega) (by rw [show P 1 = 4294967296 by decide +kernel];omega)
  have n2 : Nm (L (nv 0 ((bs b).take i))) 1 (nv 0 ((bs b).take i)):=Nm.L hb2.1 (by rw [show P 1 = 4294967296 by decide +kernel];omega)
  refine Ev_some (nof_f (by omega) (by omega)) ?_
  refine Ev.bind (hx.mul n1 (by omega) (by omega)) ?_
  refine Ev_some (nof_f hb2.1 (by omega)) ?_
  refine Ev.bind ((hx.mulL n1).add n2 (by omega) (by omega)) ?_
  refine Ev_pos (by omega) ?_
  refine Ev_pos (by omega) ?_
  rw [Int.toNat_natCast]
  exact fin
|d + 1,i,he,hi=>by
  have hs:=bs_size b
  have hlt : i < (bs b).length:=by omega
  have hc:=isD_iff.mp (hd (bs b)[i] (List.getElem_mem hlt))
  have hp:=pow9 ⟨i,by omega⟩
  simp only at hp
  have hp0:=ten_pos i
  have hb2:=nv_bound (v:=0) (n:=0) (fun c hc=>hd c (List.mem_of_mem_take hc)) (l:=(bs b).take i) (by decide) (by decide)
  rw [List.length_take,Nat.min_eq_left (by omega),Nat.zero_add] at hb2
  refine Ev_up ?_
  unfold decimal_number.l1
  refine Ev_pos (by omega) ?_
  refine Ev_pos (by omega) ?_
  refine Ev_pos (by omega) ?_
  have hnx : nv 0 ((bs b).take (i + 1)) = nv 0 ((bs b).take i) * 10 + (((bs b)[i].toNat : Int) - 48):=by
   rw [List.take_succ_eq_append_getElem hlt,nv_append]
   rfl
  rw [bs_bt,List.getD_eq_getElem?_getD,List.getElem?_eq_getElem hlt,Option.getD_some]
  have ih:=number_l1 hb hd hn hnl hx hm fin d (i + 1) (by omega) (by omega)
  rw [hnx,Int.pow_succ] at ih
  generalize (bs b)[i].toNat = c at hc ih
  generalize nv 0 ((bs b).take i) = y at hb2 ih
  generalize (10 : Int) ^ i = p at hp hp0 hb2 ih
  rw [u64_of (x:=10 * y) (by omega) (by omega),show (((c : Int) - 48) % 256) = (c : Int) - 48 by omega,u64_of (x:=10 * y + ((c : Int) - 48)) (by omega) (by omega),u64_of (x:=p * 10) (by omega) (by omega),wrap64_of (by omega) (by omega),
   show 10 * y = y * 10 by omega]
  exact ih
theorem number_l0 : ∀ (M : Nat) (b : ByteArray) (v : Int) (m : Nat),(bs b).length < M → b.size ≤ 1000000 → (∀ c ∈ bs b,isD c = true) → Nm (L v) m v → m + (bs b).length < 10000000 →
  Ev (fun k=>decimal_number.l0 k b (L v)) (L (nv v (bs b)))
|0,b,v,m,h,_,_,_,_=>by omega
|M + 1,b,v,m,h,hb,hd,hx,hm=>by
  have hs:=bs_size b
  refine Ev_up ?_
  unfold decimal_number.l0
  by_cases h0 : (bs b).length = 0
  ·refine Ev_neg (by omega) ?_
   rw [List.eq_nil_of_length_eq_zero h0]
   exact Ev.now _
  ·refine Ev_pos (by omega) ?_
   obtain ⟨n,en,hn,hnl,hn0⟩ : ∃ n : Nat,mn 9 (b.size : Int) = (n : Int) ∧ n ≤ 9 ∧ n ≤ (bs b).length ∧ 0 < n:=by
    refine ⟨min 9 (bs b).length,?_,by omega,by omega,by omega⟩
    unfold mn
    split <;> omega
   rw [en]
   have hp:=pow9 ⟨n,by omega⟩
   simp only at hp
   have hp0:=ten_pos n
   have n1 : Nm (L (10 ^ n)) 1 (10 ^ n):=Nm.L (by omega) (by rw [show P 1 = 4294967296 by decide +kernel];omega)
   have hb2:=nv_bound (v:=0) (n:=0) (fun c hc=>hd c (List.mem_of_mem_take hc)) (l:=(bs b).take n) (by decide) (by decide)
   rw [List.length_take,Nat.min_eq_left hnl,Nat.zero_add] at hb2
   have n2 : Nm (L (nv 0 ((bs b).take n))) 1 (nv 0 ((bs b).take n)):=Nm.L hb2.1 (by rw [show P 1 = 4294967296 by decide +kernel];omega)
   have hlen : (bs (b.extract n b.size)).length = (bs b).length - n:=by rw [bs_rest,List.length_drop]
   have nx : Nm (L (v * 10 ^ n + nv 0 ((bs b).take n))) (m + n) (v * 10 ^ n + nv 0 ((bs b).take n)):=by
    refine Nm.L (Int.add_nonneg (Int.mul_nonneg hx.pos (by omega)) hb2.1) ?_
    have h1 : v + 1 ≤ P m:=hx.lt
    have h2 : (v + 1) * 10 ^ n ≤ P m * P n:=Int.mul_le_mul h1 (ten_P n) (by omega) (Int.le_of_lt (P_pos m))
    rw [P_add]
    rw [Int.add_mul] at h2
    omega
   have ih:=number_l0 M (b.extract n b.size) (v * 10 ^ n + nv 0 ((bs b).take n)) (m + n) (by omega) (by rw [bs_size];omega) (by rw [bs_rest];exact fun c hc=>hd c (List.mem_of_mem_drop hc)) nx (by omega)
   have e : nv (v * 10 ^ n + nv 0 ((bs b).take n)) (bs (b.extract n b.size)) = nv v (bs b):=by
    rw [bs_rest]
    have e1:=nv_append v ((bs b).take n) ((bs b).drop n)
    rw [List.take_append_drop] at e1
    rw [e1,nv_ahead v ((bs b).take n),List.length_take,Nat.min_eq_left hnl]
   rw [e] at ih
   have h9:=number_l1 hb hd hn hnl hx (by omega) ih _ 0 rfl (Nat.zero_le _)
   rw [List.take_zero,Int.pow_zero] at h9
   exact h9
theorem number_f {b : ByteArray} (hb : b.size ≤ 1000000) (hd : ∀ c ∈ bs b,isD c = true) : Ev (fun k=>decimal_number.f k b) (L (nv 0 (bs b))):=by
 have h:=number_l0 _ b 0 0 (Nat.lt_succ_self _) hb hd Nm.zero (by rw [← bs_size];omega)
 rw [L_zero] at h
 exact h
theorem Nm.number {l : List UInt8} (hd : ∀ c ∈ l,isD c = true) : Nm (N.L (nv 0 l)) l.length (nv 0 l):=by
 have h:=nv_bound hd (v:=0) (n:=0) (by decide) (by decide)
 rw [Nat.zero_add] at h
 exact Nm.L h.1 (Int.lt_of_lt_of_le h.2 (ten_P _))
end Go.Proofs.YtncdiodnbkhacaaDoor.N
end
section
namespace Go.Proofs.YtncdiodnbkhacaaDoor.N
set_option linter.unusedVariables false
set_option linter.unusedSimpArgs false
open Go Go.RowKit Go.Proofs.YtncdiodnbkhacaaDoorW.PrintWords Go.Proofs.YtncdiodnbkhacaaDoorW.PrintLast Go.Proofs.YtncdiodnbkhacaaDoorW.PrintMore Go.Proofs.YtncdiodnbkhacaaDoor.Pq
def finS (neg : Bool) (x y : Int) : Bool × List Int × List Int × Int:=if y = 0 then (false,[],[1],42) else ((ratS neg x y).1,(ratS neg x y).2.1,(ratS neg x y).2.2,0)
def restS (neg : Bool) (d : List UInt8) : List UInt8 → Bool × List Int × List Int × Int
|[]=>finS neg (nv 0 d) 1
|c :: m=>if nd m = 0 ∨ nd m < m.length ∨ (c.toNat ≠ 46 ∧ c.toNat ≠ 47) then (false,[],[1],40) else if c.toNat = 46 then finS neg (nv 0 (d ++ m)) (10 ^ m.length) else finS neg (nv 0 d) (nv 0 m)
theorem restS_cons (neg : Bool) (d : List UInt8) (c : UInt8) (m : List UInt8) : restS neg d (c :: m) = if nd m = 0 ∨ nd m < m.length ∨ (c.toNat ≠ 46 ∧ c.toNat ≠ 47) then (false,[],[1],40) else if c.toNat = 46 then finS neg (nv 0 (d ++ m)) (10 ^ m.length) else finS neg (nv 0 d) (nv 0 m):=rfl
def bodyS (neg : Bool) (l : List UInt8) : Bool × List Int × List Int × Int:=if nd l = 0 then (false,[],[1],40) else restS neg (l.take (nd l)) (l.drop (nd l))
def cutS (l : List UInt8) : List UInt8 × Bool:=if l.head? = some 45 then (l.drop 1,true) else (l,false)
def parseS (l : List UInt8) : Bool × List Int × List Int × Int:=if l.length > 20000 then (false,[],[1],41) else bodyS (cutS l).2 (cutS l).1
def cutB (b : ByteArray) : ByteArray × Bool:=if (bs b).head? = some 45 then (b.extract 1 b.size,true) else (b,false)
theorem L_one : L 1 = [1]:=by rw [L_pos (by decide),show (1 : Int) / 4294967296 = 0 from rfl,L_zero];rfl
theorem rat_of01 : Ev (fun k=>rat_Of.f k 0 1) (false,[],[1]):=by
 have h0 : rat_size.f 0 = some (L 0):=by
  unfold rat_size.f
  rw [if_neg (by decide),show IntKind.u64.wrap 0 = 0 by decide,nof_f (by decide) (by decide)]
  rfl
 have h1 : rat_size.f 1 = some (L 1):=by
  unfold rat_size.f
  rw [if_neg (by decide),show IntKind.u64.wrap 1 = 1 by decide,nof_f (by decide) (by decide)]
  rfl
 unfold rat_Of.f
 refine Ev_some h0 ?_
 refine Ev_some h1 ?_
 refine Ev.bind (made_f (m:=1) (n:=1) (Nm.zero.up (by omega)) (Nm.L (by decide) (by decide +kernel)) (by omega) (by omega) _) ?_
 rw [ratS_zero (.inl rfl)]
 exact Ev.now _
theorem cut_f (b : ByteArray) : strings_CutPrefix.f b ⟨#[45]⟩ = some (cutB b):=by
 have hs:=bs_size b
 have h1 : (⟨#[45]⟩ : ByteArray).size = 1:=rfl
 unfold strings_CutPrefix.f stringslite_CutPrefix.f stringslite_HasPrefix.f cutB
 rw [h1]
 by_cases h0 : (bs b).length = 0
 ·rw [if_neg (by omega),List.eq_nil_of_length_eq_zero h0]
  rfl
 ·rw [if_pos (by omega),if_pos (by omega),if_pos (by omega)]
  obtain ⟨c,m,e⟩ : ∃ c m,bs b = c :: m:=by
   cases hb : bs b with
  |nil=>rw [hb] at h0;exact absurd rfl h0
  |cons c m=>exact ⟨c,m,rfl⟩
  have h2 : (b.extract 0 (((1 : Nat) : Int)).toNat).toList = [c]:=by
   rw [bs_list,show (((1 : Nat) : Int)).toNat = 1 from rfl,bs_first,e]
   rfl
  rw [h2,e,show (⟨#[45]⟩ : ByteArray).toList = [45] by decide +kernel,Option.bind_some]
  by_cases hc : c = 45
  ·subst hc
   rw [if_pos (by rfl),if_pos (by omega),if_pos (by omega),if_pos (show (45 :: m).head? = some 45 from rfl)]
   rfl
  ·rw [if_neg (by simpa using hc),if_neg (by simpa using hc)]
   rfl
theorem cutB_bs (b : ByteArray) : bs (cutB b).1 = (cutS (bs b)).1 ∧ (cutB b).2 = (cutS (bs b)).2:=by
 unfold cutB cutS
 by_cases h : (bs b).head? = some 45
 ·rw [if_pos h,if_pos h]
  exact ⟨bs_rest b 1,rfl⟩
 ·rw [if_neg h,if_neg h]
  exact ⟨rfl,rfl⟩
theorem cutS_len (l : List UInt8) : (cutS l).1.length ≤ l.length:=by
 unfold cutS
 split
 ·simp
 ·exact Nat.le_refl _
theorem parse_j1 {neg : Bool} {n : Nat} {f d : ByteArray} (hf : f.size ≤ 1000000) (hd : d.size ≤ 1000000) (df : ∀ c ∈ bs f,isD c = true) (dd : ∀ c ∈ bs d,isD c = true) :
  Ev (fun k=>decimal_Parse.j1 k neg (n : Int) f d false [] [1]) (if n = 0 then (false,[],[1],40) else finS neg (nv 0 (bs f)) (nv 0 (bs d))):=by
 have sf:=bs_size f
 have sd:=bs_size d
 refine Ev_up ?_
 unfold decimal_Parse.j1
 by_cases hn : n = 0
 ·rw [if_pos hn]
  exact Ev_pos (by omega) (Ev.now _)
 ·rw [if_neg hn]
  refine Ev_neg (by omega) ?_
  have nf:=Nm.number df
  have nd':=Nm.number dd
  refine Ev.bind (number_f hd dd) ?_
  unfold finS
  by_cases h0 : nv 0 (bs d) = 0
  ·rw [if_pos h0]
   exact Ev_pos ((L_len0 nd'.pos).mpr h0) (Ev.now _)
  ·rw [if_neg h0]
   refine Ev_neg (fun h=>h0 ((L_len0 nd'.pos).mp h)) ?_
   refine Ev.bind (number_f hf df) ?_
   refine Ev.bind (read_f nf nd' (by omega) (by omega) neg) ?_
   exact Ev.now _
theorem repeat_n (n : Nat) : strings_Repeat.n [48] n = List.replicate n 48:=by
 induction n with
|zero=>rfl
|succ n ih =>
  show [48] ++ strings_Repeat.n [48] n = _
  rw [ih]
  rfl
theorem nv_zeros (v : Int) (n : Nat) : nv v (List.replicate n 48) = v * 10 ^ n:=by
 induction n generalizing v with
|zero=>simp [nv]
|succ n ih =>
  show nv (v * 10 + (((48 : UInt8).toNat : Int) - 48)) (List.replicate n 48) = _
  rw [show v * 10 + (((48 : UInt8).toNat : Int) - 48) = v * 10 by have : ((48 : UInt8).toNat : Int) = 48:=rfl;omega,ih,Int.pow_succ,Int.mul_assoc,Int.mul_comm 10]
theorem parse_j0 {neg bad : Bool} {n : Nat} {f r s : ByteArray} {c : UInt8} {m : List UInt8} (hf : f.size ≤ 20000) (hr : r.size ≤ 20000) (er : bs r = c :: m) (es : bs s = m) (df : ∀ x ∈ bs f,isD x = true)
  (hbad : bad = true ↔ (nd m = 0 ∨ nd m < m.length ∨ (c.toNat ≠ 46 ∧ c.toNat ≠ 47))) :
  Ev (fun k=>decimal_Parse.j0 k neg (n : Int) f r s bad false [] [1]) (if n = 0 then (false,[],[1],40) else restS neg (bs f) (c :: m)):=by
 have sf:=bs_size f
 have sr:=bs_size r
 have ss:=bs_size s
 rw [er] at sr
 rw [es] at ss
 simp only [List.length_cons] at sr
 refine Ev_up ?_
 unfold decimal_Parse.j0
 rw [restS_cons]
 by_cases hb : bad = true
 ·rw [if_pos (hbad.mp hb)]
  refine Ev_pos hb ?_
  rw [ite_self]
  exact Ev.now _
 ·have hb' : ¬ (nd m = 0 ∨ nd m < m.length ∨ (c.toNat ≠ 46 ∧ c.toNat ≠ 47)):=fun h=>hb (hbad.mpr h)
  rw [if_neg hb']
  have hm : nd m = m.length:=by have:=nd_le m;omega
  have dm : ∀ x ∈ m,isD x = true:=by
   have:=nd_all (l:=m)
   rw [hm,List.take_length] at this
   exact this
  refine Ev_neg hb ?_
  refine Ev_pos (by omega) ?_
  have hbt : bt r 0 = (c.toNat : Int):=by
   have:=bs_bt r 0
   rw [er] at this
   exact this
  rw [hbt]
  by_cases h46 : c.toNat = 46
  ·rw [if_pos h46]
   refine Ev_pos (by omega) ?_
   refine Ev_pos (by omega) ?_
   have hrep : strings_Repeat.f ⟨#[48]⟩ (s.size : Int) = some ⟨(List.replicate m.length 48).toArray⟩:=by
    unfold strings_Repeat.f
    rw [if_pos ⟨by omega,by omega,by rw [show (⟨#[48]⟩ : ByteArray).size = 1 from rfl];omega⟩,Int.toNat_natCast,ss]
    show some (⟨(strings_Repeat.n [48] m.length).toArray⟩ : ByteArray) = _
    rw [repeat_n]
   refine Ev_some hrep ?_
   have sz : (⟨(List.replicate m.length 48).toArray⟩ : ByteArray).size = m.length:=by rw [bs_size,bs_mk,List.length_replicate]
   refine Ev_pos (by rw [sz];omega) ?_
   have e1 : bs (f ++ s) = bs f ++ m:=by rw [bs_append,es]
   have e2 : bs ((⟨#[49]⟩ : ByteArray) ++ ⟨(List.replicate m.length 48).toArray⟩) = 49 :: List.replicate m.length 48:=by rw [bs_append,bs_mk];rfl
   have h:=parse_j1 (neg:=neg) (n:=n) (f:=f ++ s) (d:=(⟨#[49]⟩ : ByteArray) ++ ⟨(List.replicate m.length 48).toArray⟩)
    (by rw [bs_size,e1,List.length_append];omega) (by rw [bs_size,e2,List.length_cons,List.length_replicate];omega)
    (by rw [e1];intro x hx;rcases List.mem_append.mp hx with h|h;exact df x h;exact dm x h)
    (by rw [e2];intro x hx;rcases List.mem_cons.mp hx with h|h;rw [h];rfl;rw [List.eq_of_mem_replicate h];rfl)
   rw [e1,e2] at h
   have e3 : nv 0 (49 :: List.replicate m.length 48) = 10 ^ m.length:=by
    show nv (0 * 10 + (((49 : UInt8).toNat : Int) - 48)) _ = _
    rw [show (0 : Int) * 10 + (((49 : UInt8).toNat : Int) - 48) = 1 from rfl,nv_zeros,Int.one_mul]
   rw [e3] at h
   exact h
  ·rw [if_neg h46]
   refine Ev_neg (by omega) ?_
   have h:=parse_j1 (neg:=neg) (n:=n) (f:=f) (d:=s) (by omega) (by omega) df (by rw [es];exact dm)
   rw [es] at h
   exact h
theorem bs_one : bs (⟨#[49]⟩ : ByteArray) = [49]:=rfl
theorem parse_f {b : ByteArray} (hb : b.size ≤ 140737488351232) : Ev (fun k=>decimal_Parse.f k b) (parseS (bs b)):=by
 have hbs:=bs_size b
 unfold decimal_Parse.f parseS
 refine Ev.bind rat_of01 ?_
 dsimp only
 by_cases hl : (b.size : Int) > 20000
 ·rw [if_pos (by omega)]
  exact Ev_pos hl (Ev.now _)
 ·rw [if_neg (by omega)]
  refine Ev_neg hl ?_
  refine Ev_some (cut_f b) ?_
  have hc:=cutB_bs b
  have hcl:=cutS_len (bs b)
  generalize cutB b = yb at hc
  obtain ⟨y,neg⟩:=yb
  obtain ⟨hc1,hc2⟩:=hc
  simp only at hc1 hc2
  rw [← hc1] at hcl
  rw [← hc1,← hc2]
  dsimp only
  have hys:=bs_size y
  refine Ev_some (digits_f (by omega)) ?_
  have hn:=nd_le (bs y)
  have hall:=nd_all (l:=bs y)
  unfold bodyS
  generalize nd (bs y) = n at hn hall
  refine Ev_pos (by omega) ?_
  refine Ev_pos (by omega) ?_
  rw [Int.toNat_natCast]
  have hf : bs (y.extract 0 n) = (bs y).take n:=bs_first y n
  have hr : bs (y.extract n y.size) = (bs y).drop n:=bs_rest y n
  generalize y.extract 0 n = f at hf
  generalize y.extract n y.size = r at hr
  rw [← hf,← hr]
  rw [← hf] at hall
  have hfs : f.size ≤ 20000:=by rw [bs_size,hf,List.length_take];omega
  have hrs : r.size ≤ 20000:=by rw [bs_size,hr,List.length_drop];omega
  cases er : bs r with
 |nil =>
   refine Ev_pos (by rw [bs_list,er]) ?_
   have h:=parse_j1 (neg:=neg) (n:=n) (f:=f) (d:=(⟨#[49]⟩ : ByteArray)) (by omega) (by decide) hall (by rw [bs_one];intro x hx;rw [List.mem_singleton.mp hx];rfl)
   exact h
 |cons c m =>
   have hrl:=bs_size r
   rw [er,List.length_cons] at hrl
   refine Ev_neg (by rw [bs_list,er];simp) ?_
   refine Ev_pos (by omega) ?_
   have es : bs (r.extract 1 r.size) = m:=by rw [bs_rest,er];rfl
   generalize r.extract 1 r.size = s at es
   have hss:=bs_size s
   rw [es] at hss
   refine Ev_some (digits_f (by omega)) ?_
   rw [es]
   have hbt : bt r 0 = (c.toNat : Int):=by
    have:=bs_bt r 0
    rw [er] at this
    exact this
   have hj:=fun (bad : Bool) h=>parse_j0 (neg:=neg) (bad:=bad) (n:=n) (f:=f) (r:=r) (s:=s) hfs hrs er es hall h
   have hnm:=nd_le m
   by_cases h0 : nd m = 0
   ·exact Ev_pos (by omega) (hj true ⟨fun _=>.inl h0,fun _=>rfl⟩)
   ·refine Ev_neg (by omega) ?_
    by_cases h1 : nd m < m.length
    ·exact Ev_pos (by omega) (hj true ⟨fun _=>.inr (.inl h1),fun _=>rfl⟩)
    ·refine Ev_neg (by omega) ?_
     refine Ev_pos (by omega) ?_
     rw [hbt]
     by_cases h46 : c.toNat = 46
     ·exact Ev_pos (by omega) (hj false ⟨fun h=>(by cases h),fun h=>(by omega)⟩)
     ·refine Ev_neg (by omega) ?_
      refine hj _ ⟨fun h=>?_,fun h=>?_⟩
      ·have h2 : ¬ ((c.toNat : Int) = 47):=bne_iff_ne.mp h
       exact .inr (.inr ⟨h46,by omega⟩)
      ·exact bne_iff_ne.mpr (by omega)
end Go.Proofs.YtncdiodnbkhacaaDoor.N
end
section
namespace Go.Proofs.YtncdiodnbkhacaaDoor.N
set_option linter.unusedVariables false
set_option linter.unusedSimpArgs false
open Go Go.RowKit Go.Proofs.YtncdiodnbkhacaaDoorW.PrintWords Go.Proofs.YtncdiodnbkhacaaDoorW.PrintLast Go.Proofs.YtncdiodnbkhacaaDoorW.PrintMore Go.Proofs.YtncdiodnbkhacaaDoor.Pq
theorem ten_nm (i : Nat) : Nm (L (10 ^ i)) (i + 1) (10 ^ i):=Nm.L (Int.le_of_lt (ten_pos i)) (Int.lt_of_le_of_lt (ten_P i) (P_lt (Nat.lt_succ_self i)))
theorem rparse_j4 {neg : Bool} {x y : List Int} {m n : Nat} {v w : Int} (hx : Nm x m v) (hy : Nm y n w) (hm : m < 1000000) (hn : n < 1000000) : Ev (fun k=>penumbraref04_Parse.j4 k neg x y) (finS neg v w):=by
 refine Ev_up ?_
 unfold penumbraref04_Parse.j4 finS
 refine Ev.bind (hy.rzero (by omega)) ?_
 by_cases h : w = 0
 ·rw [if_pos h,decide_eq_true h]
  refine Ev_pos rfl ?_
  exact Ev.now _
 ·rw [if_neg h,decide_eq_false h]
  refine Ev_neg (by simp) ?_
  refine Ev.bind (rread_f hx hy (by omega) (by omega) neg) ?_
  exact Ev.now _
theorem rparse_l0 {neg : Bool} {x : List Int} {m : Nat} {v : Int} (hx : Nm x m v) (hm : m < 1000000) {c : Nat} (hc : c < 100000) : ∀ (d i : Nat),c - i = d → i ≤ c →
  Ev (fun k=>penumbraref04_Parse.l0 k neg x (L (10 ^ i)) (c : Int) (i : Int)) (finS neg v (10 ^ c))
|0,i,he,hi=>by
  have hic : i = c:=by omega
  subst hic
  refine Ev_up ?_
  unfold penumbraref04_Parse.l0
  refine Ev_neg (by omega) ?_
  have hp:=ten_pos i
  exact rparse_j4 hx (ten_nm i) hm (by omega)
|d + 1,i,he,hi=>by
  refine Ev_up ?_
  unfold penumbraref04_Parse.l0
  have hp:=ten_pos i
  refine Ev_pos (by omega) ?_
  refine Ev.bind ((ten_nm i).rmul Nm.ten (by omega)) ?_
  rw [wrap64_of (by omega) (by omega)]
  have h:=rparse_l0 (neg:=neg) hx hm hc d (i + 1) (by omega) (by omega)
  rw [Int.pow_succ] at h
  exact h
theorem rparse_j2 {neg bad : Bool} {b : ByteArray} {n : Nat} {c : UInt8} {m : List UInt8} {kk : Int} (hb : b.size ≤ 20000) (hn : n ≤ (bs b).length) (er : (bs b).drop n = c :: m) (hk : kk = (nd m : Nat))
  (df : ∀ x ∈ (bs b).take n,isD x = true) (hbad : bad = true ↔ (nd m = 0 ∨ nd m < m.length ∨ (c.toNat ≠ 46 ∧ c.toNat ≠ 47))) :
  Ev (fun k=>penumbraref04_Parse.j2 k b neg (n : Int) (L (nv 0 ((bs b).take n))) [1] kk bad) (restS neg ((bs b).take n) (c :: m)):=by
 have hs:=bs_size b
 have hlen:=congrArg List.length er
 rw [List.length_drop,List.length_cons] at hlen
 refine Ev_up ?_
 unfold penumbraref04_Parse.j2
 rw [restS_cons]
 by_cases hb1 : bad = true
 ·rw [if_pos (hbad.mp hb1)]
  refine Ev_pos hb1 ?_
  exact Ev.now _
 ·have hb' : ¬ (nd m = 0 ∨ nd m < m.length ∨ (c.toNat ≠ 46 ∧ c.toNat ≠ 47)):=fun h=>hb1 (hbad.mpr h)
  rw [if_neg hb']
  have hm : nd m = m.length:=by have:=nd_le m;omega
  have dm : ∀ x ∈ m,isD x = true:=by
   have:=nd_all (l:=m)
   rw [hm,List.take_length] at this
   exact this
  refine Ev_neg hb1 ?_
  refine Ev_pos (by omega) ?_
  refine Ev_pos (by omega) ?_
  have hbt : bt b (n : Int) = (c.toNat : Int):=by
   rw [bs_bt]
   have : (bs b)[n]? = some c:=by
    have h1:=congrArg List.head? er
    rw [List.head?_drop] at h1
    exact h1
   rw [List.getD_eq_getElem?_getD,this]
   rfl
  rw [hbt]
  have hw : wrap64 ((n : Int) + 1) = ((n + 1 : Nat) : Int):=by rw [wrap64_of (by omega) (by omega)];omega
  rw [hw,Int.toNat_natCast]
  clear hw
  have es : bs (b.extract (n + 1) b.size) = m:=by
   rw [bs_rest,← List.drop_drop,er]
   rfl
  have ef : bs (b.extract 0 n) = (bs b).take n:=bs_first b n
  have ft : ((bs b).take n).length = n:=by rw [List.length_take];omega
  by_cases h46 : c.toNat = 46
  ·rw [if_pos h46]
   refine Ev_neg (by omega) ?_
   refine Ev_pos (by omega) ?_
   refine Ev_pos (by omega) ?_
   refine Ev_pos (by omega) ?_
   refine Ev_pos (by rw [bs_size,bs_size,Int.toNat_natCast,ef,es];omega) ?_
   rw [Int.toNat_natCast]
   have e1 : bs (b.extract 0 n ++ b.extract (n + 1) b.size) = (bs b).take n ++ m:=by rw [bs_append,ef,es]
   have dj : ∀ x ∈ (bs b).take n ++ m,isD x = true:=fun x hx=>by
    rcases List.mem_append.mp hx with h|h
    ·exact df x h
    ·exact dm x h
   refine Ev.bind (rnumber_f (by rw [bs_size,e1,List.length_append];omega) (by rw [e1];exact dj)) ?_
   rw [e1,hk,hm]
   have h:=rparse_l0 (neg:=neg) (Nm.number dj) (by rw [List.length_append];omega) (c:=m.length) (by omega) _ 0 rfl (Nat.zero_le _)
   rw [Int.pow_zero,L_one] at h
   exact h
  ·rw [if_neg h46]
   refine Ev_pos (by omega) ?_
   refine Ev_pos (by omega) ?_
   refine Ev_pos (by omega) ?_
   refine Ev.bind (rnumber_f (by rw [bs_size,es];omega) (by rw [es];exact dm)) ?_
   rw [es]
   exact rparse_j4 (Nm.number df) (Nm.number dm) (by omega) (by omega)
theorem rparse_j1 {neg : Bool} {b : ByteArray} (hb : b.size ≤ 20000) : Ev (fun k=>penumbraref04_Parse.j1 k b neg) (bodyS neg (bs b)):=by
 have hs:=bs_size b
 refine Ev_up ?_
 unfold penumbraref04_Parse.j1
 refine Ev.bind (rdigits_f (by omega)) ?_
 have hn:=nd_le (bs b)
 have hall:=nd_all (l:=bs b)
 unfold bodyS
 generalize nd (bs b) = n at hn hall
 by_cases h0 : n = 0
 ·rw [if_pos h0]
  refine Ev_pos (by omega) ?_
  exact Ev.now _
 ·rw [if_neg h0]
  refine Ev_neg (by omega) ?_
  refine Ev_pos (by omega) ?_
  refine Ev_pos (by omega) ?_
  rw [Int.toNat_natCast]
  have ef : bs (b.extract 0 n) = (bs b).take n:=bs_first b n
  have ft : ((bs b).take n).length = n:=by rw [List.length_take];omega
  refine Ev.bind (rnumber_f (by rw [bs_size,ef];omega) (by rw [ef];exact hall)) ?_
  rw [ef]
  refine Ev_some rfl ?_
  cases er : (bs b).drop n with
 |nil =>
   have hlen:=congrArg List.length er
   rw [List.length_drop,List.length_nil] at hlen
   refine Ev_neg (by omega) ?_
   exact rparse_j4 (Nm.number hall) Nm.one (by omega) (by omega)
 |cons c m =>
   have hlen:=congrArg List.length er
   rw [List.length_drop,List.length_cons] at hlen
   have hw : wrap64 ((n : Int) + 1) = ((n + 1 : Nat) : Int):=by rw [wrap64_of (by omega) (by omega)];omega
   have es : bs (b.extract (n + 1) b.size) = m:=by
    rw [bs_rest,← List.drop_drop,er]
    rfl
   have hbt : bt b (n : Int) = (c.toNat : Int):=by
    rw [bs_bt]
    have : (bs b)[n]? = some c:=by
     have h1:=congrArg List.head? er
     rw [List.head?_drop] at h1
     exact h1
    rw [List.getD_eq_getElem?_getD,this]
    rfl
   refine Ev_pos (by omega) ?_
   rw [hw,Int.toNat_natCast]
   clear hw
   refine Ev_pos (by omega) ?_
   refine Ev_pos (by omega) ?_
   refine Ev.bind (rdigits_f (by rw [bs_size,es];omega)) ?_
   rw [es,hbt]
   have hj:=fun (bad : Bool) h=>rparse_j2 (neg:=neg) (bad:=bad) (b:=b) (n:=n) hb hn er rfl hall h
   have hnm:=nd_le m
   by_cases h1 : nd m = 0
   ·exact Ev_pos (by omega) (hj true ⟨fun _=>.inl h1,fun _=>rfl⟩)
   ·refine Ev_neg (by omega) ?_
    rw [wrap64_of (by omega) (by omega)]
    by_cases h2 : nd m < m.length
    ·exact Ev_pos (by omega) (hj true ⟨fun _=>.inr (.inl h2),fun _=>rfl⟩)
    ·refine Ev_neg (by omega) ?_
     by_cases h46 : c.toNat = 46
     ·exact Ev_pos (by omega) (hj false ⟨fun h=>(by cases h),fun h=>(by omega)⟩)
     ·refine Ev_neg (by omega) ?_
      refine hj _ ⟨fun h=>?_,fun h=>?_⟩
      ·have h2 : ¬ ((c.toNat : Int) = 47):=bne_iff_ne.mp h
       exact .inr (.inr ⟨h46,by omega⟩)
      ·exact bne_iff_ne.mpr (by omega)
theorem rparse_j0 {neg : Bool} {b : ByteArray} (hb : b.size ≤ 20000) (h : neg = ((bs b).head? == some 45)) : Ev (fun k=>penumbraref04_Parse.j0 k b neg) (bodyS (cutS (bs b)).2 (cutS (bs b)).1):=by
 have hs:=bs_size b
 refine Ev_up ?_
 unfold penumbraref04_Parse.j0 cutS
 by_cases h0 : (bs b).head? = some 45
 ·have hn : neg = true:=by rw [h,h0];rfl
  have hp : 0 < (bs b).length:=by
   cases e : bs b with
  |nil=>rw [e] at h0;cases h0
  |cons c m=>simp
  rw [if_pos h0,hn]
  refine Ev_pos rfl ?_
  refine Ev_pos (by omega) ?_
  have hr:=bs_rest b 1
  have h9:=rparse_j1 (neg:=true) (b:=b.extract 1 b.size) (by rw [bs_size,hr,List.length_drop];omega)
  rw [hr] at h9
  exact h9
 ·have hn : neg = false:=by rw [h];exact beq_eq_false_iff_ne.mpr h0
  rw [if_neg h0,hn]
  refine Ev_neg (by simp) ?_
  exact rparse_j1 hb
theorem rparse_f {b : ByteArray} (hb : b.size ≤ 140737488351232) : Ev (fun k=>penumbraref04_Parse.f k b) (parseS (bs b)):=by
 have hs:=bs_size b
 unfold penumbraref04_Parse.f parseS
 by_cases hl : (b.size : Int) > 20000
 ·rw [if_pos (by omega)]
  refine Ev_pos hl ?_
  exact Ev.now _
 ·rw [if_neg (by omega)]
  refine Ev_neg hl ?_
  cases e : bs b with
 |nil =>
   refine Ev_neg (by rw [hs,e];decide) ?_
   have h:=rparse_j0 (neg:=false) (b:=b) (by omega) (by rw [e];rfl)
   rw [e] at h
   exact h
 |cons c m =>
   rw [e,List.length_cons] at hs
   refine Ev_pos (by omega) ?_
   refine Ev_pos (by omega) ?_
   have hbt : bt b 0 = (c.toNat : Int):=by
    have:=bs_bt b 0
    rw [e] at this
    exact this
   rw [hbt]
   have h:=rparse_j0 (neg:=((c.toNat : Int) == 45)) (b:=b) (by omega) (by
    rw [e]
    show ((c.toNat : Int) == 45) = (some c == some 45)
    by_cases h1 : c = 45
    ·subst h1;rfl
    ·rw [beq_eq_false_iff_ne.mpr (fun hh=>h1 (UInt8.toNat_inj.mp (by have : (45 : UInt8).toNat = 45:=rfl;omega))),beq_eq_false_iff_ne.mpr (fun hh=>h1 (Option.some.inj hh))])
   rw [e] at h
   exact h
end Go.Proofs.YtncdiodnbkhacaaDoor.N
end
section
namespace Go.Proofs.YtncdiodnbkhacaaDoor.N
set_option linter.unusedVariables false
set_option linter.unusedSimpArgs false
open Go Go.RowKit Go.Proofs.YtncdiodnbkhacaaDoorW.PrintWords Go.Proofs.YtncdiodnbkhacaaDoorW.PrintLast Go.Proofs.YtncdiodnbkhacaaDoor.Pq
theorem is_same {neg : Bool} {a b : List Int} (ha : a.length < 4611686018427387904) (hb : b.length < 4611686018427387904) : Ev (fun k=>penumbraref03_Is.f k neg a b neg a b) true:=by
 unfold penumbraref03_Is.f
 refine Ev_pos (by simp) ?_
 refine Ev.bind (same_f ha) ?_
 refine Ev_pos rfl ?_
 refine Ev.bind (same_f hb) ?_
 exact Ev.now _
abbrev Sh (p : Bool × List Int × List Int × Int) : Prop:=p.2.1.length ≤ 100000 ∧ p.2.2.1.length ≤ 100000
theorem finS_sh {neg : Bool} {x y : Int} {m n : Nat} (hx : 0 ≤ x) (hy : 0 ≤ y) (hxm : x < P m) (hyn : y < P n) (hm : m ≤ 90000) (hn : n ≤ 90000) : Sh (finS neg x y):=by
 unfold finS
 split
 ·exact ⟨by simp,by simp⟩
 ·obtain ⟨s,p,q,e,h1,h2,_⟩:=ratS_parts hx hy hxm hyn neg
  rw [e]
  have:=h1.le
  have:=h2.le
  exact ⟨by show (L p).length ≤ _;omega,by show (L q).length ≤ _;omega⟩
theorem restS_sh {neg : Bool} {d : List UInt8} (hd : ∀ c ∈ d,isD c = true) (hl : d.length ≤ 20000) {l : List UInt8} (h : l.length ≤ 20000) : Sh (restS neg d l):=by
 have nd1:=Nm.number hd
 cases l with
|nil=>exact finS_sh (m:=d.length) (n:=1) nd1.pos (by decide) nd1.lt (by decide +kernel) (by omega) (by omega)
|cons c m =>
  rw [restS_cons]
  rw [List.length_cons] at h
  split
  ·exact ⟨by simp,by simp⟩
  ·rename_i hb
   have hm : nd m = m.length:=by have:=nd_le m;omega
   have dm : ∀ x ∈ m,isD x = true:=by
    have:=nd_all (l:=m)
    rw [hm,List.take_length] at this
    exact this
   split
   ·have dj : ∀ x ∈ d ++ m,isD x = true:=fun x hx=>by
     rcases List.mem_append.mp hx with h|h
     ·exact hd x h
     ·exact dm x h
    have nj:=Nm.number dj
    have hlen : (d ++ m).length ≤ 40000:=by rw [List.length_append];omega
    exact finS_sh (m:=(d ++ m).length) (n:=m.length + 1) nj.pos (Int.le_of_lt (ten_pos _)) nj.lt (Int.lt_of_le_of_lt (ten_P _) (P_lt (Nat.lt_succ_self _))) (by omega) (by omega)
   ·have nm:=Nm.number dm
    exact finS_sh (m:=d.length) (n:=m.length) nd1.pos nm.pos nd1.lt nm.lt (by omega) (by omega)
theorem parseS_sh (l : List UInt8) : Sh (parseS l):=by
 unfold parseS
 split
 ·exact ⟨by simp,by simp⟩
 ·have:=cutS_len l
  unfold bodyS
  split
  ·exact ⟨by simp,by simp⟩
  ·refine restS_sh nd_all ?_ ?_
   ·rw [List.length_take];omega
   ·rw [List.length_drop];omega
end Go.Proofs.YtncdiodnbkhacaaDoor.N
namespace Go.Proofs.YtncdiodnbkhacaaDoor.Pure
open Go Go.RowKit Go.Proofs.YtncdiodnbkhacaaDoor.Pq Go.Proofs.YtncdiodnbkhacaaDoorW.PrintWords Go.Proofs.YtncdiodnbkhacaaDoorW.PrintLast Go.Proofs.YtncdiodnbkhacaaDoor.N
set_option maxHeartbeats 2000000 in
theorem DecimalParses : penumbralaw04_DecimalParses.Pure:=by
 intro b hb
 apply Ev.rounds
 have hj : ∀ x,Ev (fun k=>penumbralaw04_DecimalParses.j0 k b x) true:=fun x=>by
  refine Ev_up ?_
  unfold penumbralaw04_DecimalParses.j0
  cases x with
 |true =>
   refine Ev_pos rfl ?_
   exact Ev.bind fixed4 (Ev.now _)
 |false =>
   refine Ev_neg (by simp) ?_
   refine Ev.bind (parse_f hb) ?_
   refine Ev.bind (rparse_f hb) ?_
   refine Ev.bind fixed4 ?_
   refine Ev_pos rfl ?_
   have hsh:=parseS_sh (bs b)
   generalize parseS (bs b) = p at hsh
   refine Ev.bind (is_same (by omega) (by omega)) ?_
   refine Ev_pos rfl ?_
   refine Ev_now ?_
   simp
 unfold penumbralaw04_DecimalParses.f
 by_cases h : (b.size : Int) > 2000
 ·exact Ev_pos h (hj _)
 ·exact Ev_neg h (hj _)
end Go.Proofs.YtncdiodnbkhacaaDoor.Pure
end
section
namespace Go.Proofs.YtncdiodnbkhacaaDoor.decimalParses
open Go.ChangeShapes Go.WideShapes Go.ChangeAt Go.RowKit
open Go.ChangeMaps (open_string shut_string)
set_option linter.unusedVariables false
theorem own : ownKnob Tryd.prog.godebug = none:=by kernel_rfl
theorem reads (os : Os) {H : Type} (enc : TypeId × Value → H) : ∃ places,DataW.whole enc Tryd.prog ((Lb.world os).forCall (fun _ _=>0) ⟨#[],#[.string ByteArray.empty],[]⟩).memory Tryd.f3.params.toList Rows.decimalParsesSpec.vars false (#[.string ByteArray.empty] : Array Value).toList 8 = some ([.lit (.string [])],[],places) :=
 ⟨[],by kernel_rfl⟩
set_option maxRecDepth 100000 in
theorem lifted (os : Os) (started : os.Started) (H : Type) (enc : TypeId × Value → H) (F : Stop.Interp) :
  ReturnsInHanded {} Tryd.checked os 3 .any ((OpenSpec.ofChange Rows.decimalParsesSpec).preRow enc Tryd.prog Tryd.f3 Rows.decimalParsesRow.domain false Rows.decimalParsesRow.laid) (((OpenSpec.ofChange Rows.decimalParsesSpec).at F).post enc Tryd.prog Tryd.f3 false true false false):=by
 obtain ⟨x,hx⟩:=reads os enc
 refine returnsInHanded_of_row (C:=Tryd.checked) (s:=(OpenSpec.ofChange Rows.decimalParsesSpec)) own started (by kernel_rfl) Tryd.func3
  (witness_row_at (enc:=enc) (C:=Tryd.checked) false (Lb.world os) #[.string ByteArray.empty] rfl (Lb.vars os _) (Lb.rest os _) (by kernel_rfl)
   (OpenSpec.preRow_of_cond 8 hx (by kernel_rfl) (fun k hk=>by cases hk) (by kernel_rfl) (Lb.met os _))) ?_
 intro W base args ds gs before hval0 hW hcnd _ hsz0 _ _ _
 have hsz : (DataW.weightsEach Tryd.prog (Tryd.f3.params.toList ++ Rows.decimalParsesSpec.plain.varTypes Tryd.prog) (ds ++ gs)).all (· ≤ reachBytes) = true:=hsz0
 have hval : ∀ (j : Nat) t v,Tryd.f3.params[j]? = some t → args[j]? = some v → Value.okWide Tryd.prog W .any base t v:=hval0
 have hW':=hW
 obtain ⟨p,q,hA0,hV,rfl,hfz,hnd⟩:=hW
 have hA : DataW.TrodAll enc Tryd.prog W 0 (fun _=>true) true Tryd.f3.params.toList args.toList ds p:=hA0
 rw [Tryd.params3] at hA hval hsz
 obtain ⟨v0,vs0,d0,ds0,p0,q0,hargs,rfl,rfl,h0,r0⟩:=trodAll_cons hA
 obtain ⟨rfl,rfl,rfl⟩:=trodAll_nil r0
 obtain rfl : args = #[v0]:=by cases args;simp_all
 obtain ⟨rfl,rfl⟩:=trodVars_none hV
 obtain ⟨a0,rfl,rfl,rfl,y0⟩:=open_string Tryd.underlying9 (hval 0 9 v0 rfl rfl) h0
 have w0 : a0.size ≤ 140737488351232:=by
  have z:=sized_string hsz (j:=0) (t:=9) rfl rfl
  rw [Array.length_toList] at z
  exact z
 clear hA0 hval0 hsz0 hsz
 refine (Pq.penumbralaw04_DecimalParses.walk Pure.DecimalParses a0 W w0).mono fun e W' ⟨he,bel⟩=>?_
 subst he
 exact ⟨_,rfl,_,_,_,[],_,[],hW',trodAll_mk1 (shut_bool Tryd.underlying4 _),(trodAll_cons_mk (shut_string Tryd.underlying9 y0) trodAll_mk0),rfl,bel.frame _,fun h=>by cases h⟩
theorem over : Rows.decimalParsesRow.holds Tryd.pinned (OpenSpec.ofChange Rows.decimalParsesSpec) :=
 OpenClaim.holds_of_cond 3 Tryd.f3 rfl rfl rfl rfl rfl rfl rfl ⟨rfl,rfl,rfl,rfl,rfl⟩ rfl rfl rfl rfl rfl (by kernel_rfl) Tryd.func3 (by kernel_rfl)
  (of_decide_eq_true (by kernel_rfl)) (by unfold Func.isWrapper;first|(rw [if_pos (by decide +kernel)];kernel_rfl)|(rw [if_neg (by decide +kernel)];exact ⟨rfl,rfl⟩))
  (fun os started H enc _ F=>by rw [OpenClaim.pre_eq_preRow];exact lifted os started H enc F)
theorem proved : Rows.DecimalParsesSaid:=over
theorem plain (f : FuncId) (fn : Func) (hf : Tryd.pinned.checked.prog.funcNamed "penumbra/penumbralaw04.DecimalParses" = some f) (hfn : Tryd.pinned.checked.prog.funcs[f]? = some fn) :
  false = Tryd.pinned.checked.prog.looks [] ∧ ∀ (j : Nat) t,fn.params[j]? = some t → Tryd.pinned.checked.prog.wantsStandIn t = false:=by
 obtain rfl : f = 3:=Option.some.inj ((show Tryd.prog.funcNamed "penumbra/penumbralaw04.DecimalParses" = some 3 by kernel_rfl).symm.trans hf) |>.symm
 obtain rfl : fn = Tryd.f3:=(Option.some.inj (Tryd.func3.symm.trans hfn)).symm
 refine ⟨by kernel_rfl,fun j t ht=>?_⟩
 rw [Tryd.params3] at ht
 have hm:=Array.mem_of_getElem? ht
 simp only [List.mem_toArray,List.mem_cons,List.not_mem_nil,or_false] at hm
 rcases hm with rfl
 ·exact (show Tryd.prog.wantsStandIn 9 = false by kernel_rfl)
theorem card : Rows.DecimalParsesCardSaid :=
 Claim7.holds_tied_plain_at .later [] _ _ _ _ proved (fun _ h=>by cases h) (by kernel_rfl) (fun _ h=>by cases h) decimalParses_row_tie rfl ⟨rfl,rfl⟩ (by kernel_rfl) rfl plain (by kernel_rfl)
#print axioms card
end Go.Proofs.YtncdiodnbkhacaaDoor.decimalParses
namespace Go.Proofs.YtncdiodnbkhacaaDoor
theorem decimalParses_holds : Rows.DecimalParsesCardSaid:=decimalParses.card
end Go.Proofs.YtncdiodnbkhacaaDoor
end
