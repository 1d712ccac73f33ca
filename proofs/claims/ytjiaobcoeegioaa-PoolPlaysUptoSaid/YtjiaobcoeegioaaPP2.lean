import Derived.Test.YtjiaobcoeegioaaPP1
set_option linter.unusedVariables false
set_option linter.unusedSimpArgs false
section
namespace Go.Proofs.Ytjiaobcoeegioaa.Pq
open Go.RowKit Go.Proofs.YtjiaobcoeegioaaW.PrintWords Go.Proofs.YtjiaobcoeegioaaW.PrintLast Go.Proofs.YtjiaobcoeegioaaW.PrintMore
attribute [local go_sem] max2_int min2_int max_two min_two max_three min_three max_four min_four
set_option maxHeartbeats 8000000
set_option maxRecDepth 100000
theorem nat_less.at_le (l lv : List Int) (j : Nat) (t : Int) (i : Nat) : ∀ k,i≤k → ∀ r,nat_less.at l lv j t k=some r → ∃ r',nat_less.at l lv j t i=some r'
 | 0,h,r,hr=>⟨r,by rw [show i=0 by omega];exact hr⟩
 | k+1,h,r,hr=>by
  rcases Nat.lt_or_ge i (k+1) with hlt|hge
  ·obtain ⟨s,hs,_⟩:=Option.bind_eq_some_iff.mp (show (nat_less.at l lv j t k).bind _=some r from hr)
   exact nat_less.at_le l lv j t i k (by omega) s hs
  ·exact ⟨r,by rw [show i=k+1 by omega];exact hr⟩
theorem nat_less.at_length (l lv : List Int) (j : Nat) (t : Int) : ∀ k r,nat_less.at l lv j t k=some r→r.1.length=l.length
 | 0,r,hr=>by cases hr;rfl
 | k+1,r,hr=>by
  obtain ⟨s,hs,h2⟩:=Option.bind_eq_some_iff.mp (show (nat_less.at l lv j t k).bind _=some r from hr)
  split at h2
  ·obtain ⟨d,hd,h3⟩:=Option.bind_eq_some_iff.mp h2
   cases h3;rw [List.length_set];exact nat_less.at_length l lv j t k s hs
  ·cases h2
theorem nat_less.win (l : List Int) (j m cw g n c base : Nat) (ok : Nat→Prop) (Av : Option Addr) (cv : Nat) (lv : List Int) (t : Int) (l' : List Int) (b : Bool) (w : World)
  (ho : Kd.R (Kd.int .u32) 82 w base ok (.slice (some ⟨g,0,none⟩) n c) l) (hv : ∀ W_,Kept w W_ (fun k=>k=g)→Kd.C (Kd.int .u32) W_ Av lv.length lv) (hcv : lv.length≤cv)
  (hm : lv.length < m) (hj : j+m≤l.length) (h : nat_less.f l j lv t=some (b,l')) :
  Calls Try.prog 83 #[.slice (some ⟨g,j,none⟩) m cw,.slice Av lv.length cv,.int .u64 t] w fun e w'=>e=.returned (.bool b)∧Kd.R (Kd.int .u32) 82 w' base ok (.slice (some ⟨g,0,none⟩) n c) l'∧w.grownBy w' (some g):=by
 have hmax : lv.length≤9223372036854775807:=Kd.C_max (hv w (Kept.refl _ _))
 have hmaxl : l.length≤9223372036854775807:=by
  have hr:=Kd.R_reads' ho;have:=Kd.C_max hr.2.2;omega
 have hnl : n=l.length:=(Kd.R_reads' ho).1;have HV:=Aside0.mk hv;have HO:=Aside0.mk ho;obtain ⟨s,hs,h2⟩:=Option.bind_eq_some_iff.mp h;have HS:=Aside0.mk hs;clear hv ho hs h
 by_cases hg : 0≤s.2.1∧s.2.1 < 18446744073709551616
 case neg=>rw [if_neg hg] at h2;cases h2
 rw [if_pos hg] at h2;obtain ⟨d,hd,h3⟩:=Option.bind_eq_some_iff.mp h2;obtain ⟨d1,d2⟩:=d;obtain ⟨sl,sc,sb⟩:=s;simp only [Option.some.injEq,Prod.mk.injEq] at h3;obtain ⟨rfl,rfl⟩:=h3;have HD:=Aside0.mk hd;have HG:=Aside0.mk hg;have HNL:=Aside0.mk hnl;clear h2 hd hg hnl
 go_enter Try.func83,Try.ntmps83
 go_wp2
 go_loopw [7,8,14] (fun cr bw i wr=>∃ (k : Nat) (li : List Int) (cc bb : Int),k≤lv.length∧i=.int .i64 k∧cr=.int .u64 cc∧bw=.int .u32 bb∧Aside0 (nat_less.at l lv j t k=some (li,cc,bb))∧Aside0 (Kd.R (Kd.int .u32) 82 wr base ok (.slice (some ⟨g,0,none⟩) n c) li)∧Aside0 (w.grownBy wr (some g))) (fun _ _ i _=>lv.length - (intOf i).toNat)
 case atStart=>exact ⟨0,l,0,0,Nat.zero_le _,rfl,rfl,rfl,⟨rfl⟩,HO,⟨World.grownBy.refl _ _⟩⟩
 case round =>
  obtain ⟨k,li,cc,bb,hk,rfl,rfl,rfl,HA,HR,HGr⟩:=hrel;have HLen:=Aside0.mk (nat_less.at_length l lv j t k _ HA.out)
  by_cases hlt : k < lv.length
  ·obtain ⟨s',hs'⟩:=nat_less.at_le l lv j t (k+1) lv.length (by omega) _ HS.out
   have hst : (nat_less.at l lv j t k).bind _=some s':=hs';rw [HA.out,Option.bind_some] at hst;have hst:=hst
   by_cases hgk : (0≤t∧t < 18446744073709551616)∧(0≤rd lv k∧rd lv k < 4294967296)∧0≤cc∧0≤t * rd lv k∧t * rd lv k+cc < 18446744073709551616
   case neg=>rw [if_neg hgk] at hst;cases hst
   rw [if_pos hgk] at hst;obtain ⟨d,hd,h3⟩:=Option.bind_eq_some_iff.mp hst;have h3:=Option.some.inj h3;have HN:=Aside0.mk (show nat_less.at l lv j t (k+1)=some (li.set (j+k) d.1,(t * rd lv k+cc) / 4294967296,d.2) from hs'.trans (congrArg some h3.symm));obtain ⟨e1,e2⟩:=d;have HD2:=Aside0.mk hd;clear hs' hst hd h3;have HK:=Aside0.mk (Kept.of_grown HGr.out (Kept.refl w (fun k=>k=g)) (fun k hk=>.inl (by injection hk with hk;exact hk.symm)));obtain ⟨ad,he,hcv1⟩:=Kd.at_int (HV.out wr HK.out) (k : Int) (by omega) (by omega);cases he;rw [Int.toNat_natCast] at hcv1;have hln:=HLen.out;have hnl:=HNL.out;simp only at hln;obtain ⟨hc1,hf1⟩:=Kd.R_celln 0 HR.out ((j+k : Nat) : Int) (by omega) (by omega);rw [Int.toNat_natCast] at hc1 hf1;replace hc1 : wr.cell? ⟨g,j+k,none⟩=some (.int .u32 (rd li ((j+k : Nat) : Int))):=hc1;have HP:=Aside0.mk (Kd.R_putg (enc:=fun x=>.int .u32 x) HR.out ((j+k : Nat) : Int) e1);have HD3:=Aside0.mk HD2.out;clear hln hnl;obtain ⟨y,hy⟩ : ∃ y,rd lv (k : Int)=y:=⟨_,rfl⟩;obtain ⟨x,hx⟩ : ∃ x,rd li ((j+k : Nat) : Int)=x:=⟨_,rfl⟩;rw [hy] at hcv1 hgk;rw [hx] at hc1;have HD4 : Aside0 (bits_Sub32.f x ((t * y+cc) % 4294967296) bb=some (e1,e2)):=⟨by rw [← hx,← hy];exact HD2.out⟩;have HN2 : Aside0 (nat_less.at l lv j t (k+1)=some (li.set (j+k) e1,(t * y+cc) / 4294967296,e2)):=⟨by rw [← hy];exact HN.out⟩;clear hx hy HD2 HD3 HN;obtain ⟨⟨t0,t1⟩,⟨y0,y1⟩,c0,p0,p1⟩:=hgk
   have p2 : t * y < 18446744073709551616:=by omega
   have p3 : 0≤t * y+cc:=by omega
   have hm1 : k < m:=by omega
   have hk1 : 0≤(k : Int):=by omega
   go_wp2_with (first|(go_at_call 73;refine (bits_Sub32.calls _ _ _ e1 e2 _ HD4.out).mono ?_;rintro e w' ⟨rfl,⟨nd,rfl⟩⟩))
   go_roundw
   case rel =>
    have HP:=Kd.R_putg (enc:=fun x=>.int .u32 x) (h1:=fun _=>rfl) (Rn HR.out nd) ((j+k : Nat) : Int) e1;rw [Int.toNat_natCast] at HP;have h0 : wr.grownBy (wr.drewN nd) (some g):=⟨rfl,rfl,rfl,Nat.le_refl _,fun _ _ _=>rfl⟩;exact ⟨k+1,_,_,_,by omega,by go_num,rfl,rfl,HN2,⟨HP.1⟩,⟨World.grownBy.trans (World.grownBy.trans HGr.out h0) HP.2⟩⟩
   case measure=>simp [intOf];omega
  ·obtain rfl : k=lv.length:=by omega
   have hE:=Option.some.inj (HA.out.symm.trans HS.out);simp only [Prod.mk.injEq] at hE;obtain ⟨rfl,rfl,rfl⟩:=hE;have hln:=HLen.out;have hnl:=HNL.out;simp only at hln;obtain ⟨hc1,hf1⟩:=Kd.R_celln 0 HR.out ((j+lv.length : Nat) : Int) (by omega) (by omega);rw [Int.toNat_natCast] at hc1 hf1;replace hc1 : wr.cell? ⟨g,j+lv.length,none⟩=some (.int .u32 (rd li ((j+lv.length : Nat) : Int))):=hc1;clear hln hnl;obtain ⟨x,hx⟩ : ∃ x,rd li ((j+lv.length : Nat) : Int)=x:=⟨_,rfl⟩;rw [hx] at hc1;have HD4 : Aside0 (bits_Sub32.f x (cc % 4294967296) bb=some (d1,d2)):=⟨by rw [← hx];exact HD.out⟩;clear hx;obtain ⟨c0,c1⟩:=HG.out;have hdec : decide (lv.length < lv.length)=false:=decide_eq_false (Nat.lt_irrefl _);have hdec2 : decide ((lv.length : Int) < (lv.length : Int))=false:=decide_eq_false (Int.lt_irrefl _);have hdec3 : decide (lv.length < m)=true:=decide_eq_true hm
   have hk1 : 0≤(lv.length : Int):=by omega
   go_wp2_with (first|(go_at_call 73;refine (bits_Sub32.calls _ _ _ d1 d2 _ HD4.out).mono ?_;rintro e w' ⟨rfl,⟨nd,rfl⟩⟩))
   go_ret
   have HP:=Kd.R_putg (enc:=fun x=>.int .u32 x) (h1:=fun _=>rfl) (Rn HR.out nd) ((j+lv.length : Nat) : Int) d1;rw [Int.toNat_natCast] at HP;have h0 : wr.grownBy (wr.drewN nd) (some g):=⟨rfl,rfl,rfl,Nat.le_refl _,fun _ _ _=>rfl⟩;exact ⟨rfl,HP.1,World.grownBy.trans (World.grownBy.trans HGr.out h0) HP.2⟩
theorem nat_less.calls (P0_ : Nat→Prop) (u : Value) (l0 : List Int) (A1 : Option Addr) (c1 : Nat) (l1 : List Int) (t : Int) (r1 : Bool) (r2 : List Int) (w0 w : World) (hB : Below w0.heap.size w0 w) (ho0 : Kd.R (Kd.int .u32) 82 w w0.heap.size P0_ u l0)
  (hr1 : ∀ W_,Kept w W_ (fun k_=>P0_ k_)→Kd.C (Kd.int .u32) W_ A1 l1.length l1) (hc1 : l1.length≤c1) (A : Option Addr) (n c : Nat) (L H : Int) (hu : u=.slice A n c) (hw : 0≤L∧L+(l1.length : Int) < H∧H≤(n : Int)) (h : nat_less.f l0 L.toNat l1 t=some (r1,r2)) :
  Calls Try.prog 83 #[.slice (A.map (fun a_=>a_.add (L : Int).toNat)) ((H : Int).toNat - (L : Int).toNat) (c - (L : Int).toNat),.slice A1 l1.length c1,.int .u64 t] w fun e w'=>e=.returned (.bool r1)∧Kd.R (Kd.int .u32) 82 w' w0.heap.size (fun k_=>(P0_ k_∨w.heap.size≤k_)) u r2∧Below w0.heap.size w0 w'∧Kept w w' (fun k_=>P0_ k_):=by
 subst hu;have hn:=(Kd.R_reads' ho0).1;obtain ⟨g,rfl,hb,hg⟩:=Kd.R_addr ho0 (by omega)
 have hk : ∀ k,k=g→P0_ k:=fun k e=>e ▸ hg
 have ha : (some (⟨g,0,none⟩ : Addr)).map (fun a_=>a_.add (L : Int).toNat)=some ⟨g,(L : Int).toNat,none⟩:=by rw [Option.map_some,add_plain]
 rw [ha];refine (nat_less.win l0 L.toNat (H.toNat - L.toNat) (c - L.toNat) g n c w0.heap.size P0_ A1 c1 l1 t r2 r1 w ho0 (fun W_ h_=>hr1 W_ (Kept.mono h_ hk)) hc1 (by omega) (by omega) h).mono ?_;rintro e w' ⟨he,hR,hgr⟩;exact ⟨he,Kd.R_mono hR (fun k h_=>.inl h_),hB.grown hgr hB.size (fun k h_=>by injection h_ with h_;omega),Kept.of_grown hgr (Kept.refl _ _) (fun k h_=>.inl (by injection h_ with h_;exact h_ ▸ hg))⟩
theorem nat_shr.calls (k : Nat) (A0 : Option Addr) (c0 : Nat) (l0 : List Int) (a1 : Int) (r : List Int) (w : World) (hr0 : Kd.C (Kd.int .u32) w A0 l0.length l0) (hc0 : l0.length≤c0) (h : nat_shr.f k l0 a1=some r) :
  Calls Try.prog 85 #[.slice A0 l0.length c0,.int .i64 a1] w fun e w'=>∃ v0_ : Value,e=.returned (v0_)∧Kd.R (Kd.int .u32) 82 w' w.heap.size (fun _=>True) v0_ r∧Below w.heap.size w w':=by
 have HR0:=Aside0.mk hr0;have HC0:=Aside0.mk hc0;clear hr0 hc0;have HB:=Aside0.mk (Below.refl w.heap.size w);have H : (if 0≤(l0.length : Int) then (if ((l0.length : Int) : Int).toNat≤70368744177664 then (nat_shr.l0 k l0 a1 (List.replicate ((l0.length : Int) : Int).toNat 0) l0 (l0.length : Int) 0) else (none)) else (none))=some r:=h;clear h;refine ifT H ?_;clear H;intro c3 H;have c3b0:=eq_true c3;have c3b1 : decide (0≤(l0.length : Int))=true:=decide_eq_true c3;clear c3;refine ifT H ?_;clear H;intro c4 H;have c4b0:=eq_true c4;have c4b1 : decide (((l0.length : Int) : Int).toNat≤70368744177664)=true:=decide_eq_true c4;clear c4;obtain ⟨y149,hy_⟩ : ∃ y_ : List Int,y_=(List.replicate ((l0.length : Int) : Int).toNat 0):=⟨_,rfl⟩;replace H : (nat_shr.l0 k l0 a1 y149 l0 (l0.length : Int) 0)=some r:=yH H;have Ny149:=Aside0.mk hy_;clear hy_;have H':=Aside0.mk H;clear H
 go_enter Try.func85,Try.ntmps85
 go_wp2_with (first|((with_reducible refine gate_dst (N:=11) rfl ?_);refine Kd.R_make (Kd.int .u32) _ 82 rfl (N:=11) rfl 61 _ _ rfl (l0.length : Int) rfl rfl Try.underlying61 (.int .u32 0) 4 info82 rfl (by decide) (by omega) 0 (ok:=fun _=>True) (okp:=fun _=>True) rfl (fun _ hk=>hk) trivial (oA) (Nat.le_trans (Nat.mul_le_mul_right _ (oA : (l0.length : Int).toNat≤70368744177664)) (by omega)) (Below.refl _ _) (Nat.le_refl _) ?_;intro v150 w5 ho6 hb hg_ hnew_;clear hg_ hnew_;(first|rw [← Ny149.out] at ho6|(simp only [Int.reduceToNat] at ho6;rw [← Ny149.out] at ho6));have HO151:=Aside0.mk (Kd.R_lower ho6 (below_size (bL HB.out)));replace HB:=bH HB hb;clear hb ho6))
 go_loopg [14] k (fun kq v14 w'=>∃ (x5_1 : List Int) (x14_1 : Int),v14=.int .i64 x14_1∧Aside0 (nat_shr.l0 kq l0 a1 x5_1 l0 (l0.length : Int) x14_1=some r)∧Aside0 (kq≤k)∧Aside0 (Kd.R (Kd.int .u32) 82 w' w.heap.size (fun _=>True) v150 x5_1)∧Aside0 (Below w.heap.size w w'))
 case atStart=>exact ⟨(y149),(0),sD,H',⟨Nat.le_refl _⟩,⟨Ru HO151.out⟩,⟨bL HB.out⟩⟩
 case round =>
  clear H';obtain ⟨x5_1,x14_1,rfl,HA,HK1,HO_5,HB⟩:=hrel
  cases gk with
  | zero=>exact absurd HA.out (by simp [nat_shr.l0])
  | succ k1 =>
   have H:=HA.out;clear HA;simp only [nat_shr.l0] at H
   by_cases c7 : x14_1 < (l0.length : Int)
   ·rw [if_pos c7] at H
    have c7b0 : decide (x14_1 < (l0.length : Int))=true:=decide_eq_true c7;clear c7;refine ifT H ?_;clear H;intro c8 H;have c8b0 : decide (0≤x14_1)=true:=decide_eq_true c8;clear c8;refine ifT H ?_;clear H;intro c9 H;have c9b0 : decide (x14_1 < (l0.length : Int))=true:=decide_eq_true c9;clear c9
    by_cases c10 : (wrap64 (x14_1+1)) < (l0.length : Int)
    ·rw [if_pos c10] at H
     have c10b0 : decide ((wrap64 (x14_1+1)) < (l0.length : Int))=true:=decide_eq_true c10;clear c10;obtain ⟨ji11,hji11⟩ : ∃ j_ : Int,(wrap64 (x14_1+1))=j_:=⟨_,rfl⟩
     replace H : (if 0≤(ji11) then (if 0≤a1 then (if x14_1 < (x5_1.length : Int) then (nat_shr.l0 k1 l0 a1 (x5_1.set (x14_1 : Int).toNat ((shr .u64 (Go.bits .or .u64 (IntKind.u64.wrap ((IntKind.u64.wrap (rd l0 (ji11))) * 4294967296)) (IntKind.u64.wrap (rd l0 x14_1))) a1) % 4294967296)) l0 (l0.length : Int) ji11) else (none)) else (none)) else (none))=some r:=by first|(rw [hji11] at H;exact H)|(simp only [hji11] at H ⊢;exact H)
     (try rw [hji11] at c10b0)
     have hji11w : (IntKind.i64.wrap (x14_1+1))=ji11:=(i64_w _).trans hji11;refine ifT H ?_;clear H;intro c12 H;have c12b0 : decide (0≤(ji11))=true:=decide_eq_true c12;clear c12;refine ifT H ?_;clear H;intro c13 H;have c13b0:=eq_true c13;have c13b1 : decide (0≤a1)=true:=decide_eq_true c13;clear c13;obtain ⟨ji14,hji14⟩ : ∃ j_ : Int,(shr .u64 (Go.bits .or .u64 (IntKind.u64.wrap ((IntKind.u64.wrap (rd l0 (ji11))) * 4294967296)) (IntKind.u64.wrap (rd l0 x14_1))) a1)=j_:=⟨_,rfl⟩
     replace H : (if x14_1 < (x5_1.length : Int) then (nat_shr.l0 k1 l0 a1 (x5_1.set (x14_1 : Int).toNat ((ji14) % 4294967296)) l0 (l0.length : Int) ji11) else (none))=some r:=by first|(rw [hji14] at H;exact H)|(simp only [hji14] at H ⊢;exact H)
     have hji14_ : ((Go.bits .or .u64 (IntKind.u64.wrap ((IntKind.u64.wrap (rd l0 (ji11))) * 4294967296)) (IntKind.u64.wrap (rd l0 x14_1))) / 2 ^ min a1.toNat 64)=ji14:=hji14;have hji14z : a1≤64→((Go.bits .or .u64 (IntKind.u64.wrap ((IntKind.u64.wrap (rd l0 (ji11))) * 4294967296)) (IntKind.u64.wrap (rd l0 x14_1))) / 2 ^ a1.toNat)=ji14:=shr_small hji14;refine ifT H ?_;clear H;intro c15 H;have c15b0 : decide (x14_1 < (x5_1.length : Int))=true:=decide_eq_true c15;clear c15;obtain ⟨y154,hy_⟩ : ∃ y_ : List Int,y_=(x5_1.set (x14_1 : Int).toNat ((ji14) % 4294967296)):=⟨_,rfl⟩;replace H : (nat_shr.l0 k1 l0 a1 y154 l0 (l0.length : Int) ji11)=some r:=yH H;have Ny154:=Aside0.mk hy_;clear hy_;have H':=Aside0.mk H;clear H;have p152 : 0≤(x14_1 : Int):=oA;have q152 : x14_1 < (l0.length : Int):=oA;obtain ⟨ad152,e152,hx152_0⟩:=Kd.at_int HR0.out x14_1 p152 q152;cases e152;replace hx152_0:=(HB.out.cell (World.block_lt_of_cell? w _ hx152_0)).trans hx152_0;replace p152:=eq_true p152;replace q152:=eq_true q152;have p153 : 0≤((ji11) : Int):=oA;have q153 : (ji11) < (l0.length : Int):=oA;obtain ⟨ad153,e153,hx153_0⟩:=Kd.at_int HR0.out (ji11) p153 q153;obtain rfl : ad152=ad153:=(by injection e153);replace hx153_0:=(HB.out.cell (World.block_lt_of_cell? w _ hx153_0)).trans hx153_0;replace p153:=eq_true p153;replace q153:=eq_true q153;have p16 : 0≤(x14_1 : Int):=oA;have q16 : (x14_1 : Int) < ((x5_1.length : Int) : Int):=oA;obtain ⟨go16,co16,eo16,gb16,gl16,cl16,HG16⟩:=Kd.R_form HO_5.out (by omega)
     (first|cases eo16|(injection eo16 with ea_ en_ ec_;(first|subst ea_|(injection ea_ with ea_;subst ea_));subst ec_;clear en_))
     have GB16:=Aside0.mk gb16;have GG16:=Aside0.mk HG16;clear gb16 gl16 HG16;obtain ⟨hx16_0,hf16_0⟩:=Kd.R_celln 0 HO_5.out (x14_1 : Int) p16 q16;replace p16:=eq_true p16;replace q16:=eq_true q16;have HP17:=Kd.R_putg HO_5.out (x14_1 : Int) ((ji14) % 4294967296)
     go_wp2_with (first|((with_reducible refine gate_store (t:=82) (p:=40) rfl ?_);refine store_event (t:=82) (p:=40) (v:=?vo_w18) (w1:=(wr.setCell ⟨go16,(x14_1 : Int).toNat,none⟩ (.int .u32 ((ji14) % 4294967296)))) ?hg ?ho ?hn ?hr ?_;(case ho=>rfl);(case hg=>rfl);(case hn=>rfl);(case hr=>first|(go_simp;done)|(go_simp;(with_reducible rfl))|(go_simp;rfl)|(go_simp;simp only [hu,Int.emod_sub_emod]));intro w18 hw;have hg : wr.grownBy w18 (some go16):=(by rw [hw];exact HP17.2);have hp_ : Kd.R (Kd.int .u32) 82 w18 w.heap.size (fun _=>True) (.slice (some ⟨go16,0,none⟩) x5_1.length co16) y154:=(by rw [hw,Ny154.out];exact HP17.1);clear HP17;replace HO_5:=Aside0.mk hp_;replace HB:=Aside0.mk ((by rw [hw];exact below_set (HB.out) GB16.out : Below w.heap.size w w18));clear hg hw hp_))
     go_roundg k1
     case measure=>have:=HK1.out;omega
     case rel=>exact ⟨(y154),(ji11),(by first|rfl|(simp;done)|(simp only [← hji11] <;> (first|rfl|simp))|(simp [*];done)),H',⟨by have:=HK1.out;omega⟩,⟨Ru HO_5.out⟩,⟨bL HB.out⟩⟩
    ·rw [if_neg c10] at H
     have c10b0 : decide ((wrap64 (x14_1+1)) < (l0.length : Int))=false:=decide_eq_false c10;clear c10;refine ifT H ?_;clear H;intro c19 H;have c19b0:=eq_true c19;have c19b1 : decide (0≤a1)=true:=decide_eq_true c19;clear c19;obtain ⟨ji20,hji20⟩ : ∃ j_ : Int,(shr .u64 (Go.bits .or .u64 0 (IntKind.u64.wrap (rd l0 x14_1))) a1)=j_:=⟨_,rfl⟩
     replace H : (if x14_1 < (x5_1.length : Int) then (nat_shr.l0 k1 l0 a1 (x5_1.set (x14_1 : Int).toNat ((ji20) % 4294967296)) l0 (l0.length : Int) (wrap64 (x14_1+1))) else (none))=some r:=by first|(rw [hji20] at H;exact H)|(simp only [hji20] at H ⊢;exact H)
     have hji20_ : ((Go.bits .or .u64 0 (IntKind.u64.wrap (rd l0 x14_1))) / 2 ^ min a1.toNat 64)=ji20:=hji20;have hji20z : a1≤64→((Go.bits .or .u64 0 (IntKind.u64.wrap (rd l0 x14_1))) / 2 ^ a1.toNat)=ji20:=shr_small hji20;refine ifT H ?_;clear H;intro c21 H;have c21b0 : decide (x14_1 < (x5_1.length : Int))=true:=decide_eq_true c21;clear c21;obtain ⟨y155,hy_⟩ : ∃ y_ : List Int,y_=(x5_1.set (x14_1 : Int).toNat ((ji20) % 4294967296)):=⟨_,rfl⟩;replace H : (nat_shr.l0 k1 l0 a1 y155 l0 (l0.length : Int) (wrap64 (x14_1+1)))=some r:=yH H;have Ny155:=Aside0.mk hy_;clear hy_;have H':=Aside0.mk H;clear H;have p152 : 0≤(x14_1 : Int):=oA;have q152 : x14_1 < (l0.length : Int):=oA;obtain ⟨ad152,e152,hx152_0⟩:=Kd.at_int HR0.out x14_1 p152 q152;cases e152;replace hx152_0:=(HB.out.cell (World.block_lt_of_cell? w _ hx152_0)).trans hx152_0;replace p152:=eq_true p152;replace q152:=eq_true q152;have p22 : 0≤(x14_1 : Int):=oA;have q22 : (x14_1 : Int) < ((x5_1.length : Int) : Int):=oA;obtain ⟨go22,co22,eo22,gb22,gl22,cl22,HG22⟩:=Kd.R_form HO_5.out (by omega)
     (first|cases eo22|(injection eo22 with ea_ en_ ec_;(first|subst ea_|(injection ea_ with ea_;subst ea_));subst ec_;clear en_))
     have GB22:=Aside0.mk gb22;have GG22:=Aside0.mk HG22;clear gb22 gl22 HG22;obtain ⟨hx22_0,hf22_0⟩:=Kd.R_celln 0 HO_5.out (x14_1 : Int) p22 q22;replace p22:=eq_true p22;replace q22:=eq_true q22;have HP23:=Kd.R_putg HO_5.out (x14_1 : Int) ((ji20) % 4294967296)
     go_wp2_with (first|((with_reducible refine gate_store (t:=82) (p:=40) rfl ?_);refine store_event (t:=82) (p:=40) (v:=?vo_w24) (w1:=(wr.setCell ⟨go22,(x14_1 : Int).toNat,none⟩ (.int .u32 ((ji20) % 4294967296)))) ?hg ?ho ?hn ?hr ?_;(case ho=>rfl);(case hg=>rfl);(case hn=>rfl);(case hr=>first|(go_simp;done)|(go_simp;(with_reducible rfl))|(go_simp;rfl)|(go_simp;simp only [hu,Int.emod_sub_emod]));intro w24 hw;have hg : wr.grownBy w24 (some go22):=(by rw [hw];exact HP23.2);have hp_ : Kd.R (Kd.int .u32) 82 w24 w.heap.size (fun _=>True) (.slice (some ⟨go22,0,none⟩) x5_1.length co22) y155:=(by rw [hw,Ny155.out];exact HP23.1);clear HP23;replace HO_5:=Aside0.mk hp_;replace HB:=Aside0.mk ((by rw [hw];exact below_set (HB.out) GB22.out : Below w.heap.size w w24));clear hg hw hp_))
     go_roundg k1
     case measure=>have:=HK1.out;omega
     case rel=>exact ⟨(y155),(wrap64 (x14_1+1)),sD,H',⟨by have:=HK1.out;omega⟩,⟨Ru HO_5.out⟩,⟨bL HB.out⟩⟩
   ·rw [if_neg c7] at H
    have c7b0 : decide (x14_1 < (l0.length : Int))=false:=decide_eq_false c7;clear c7;refine biT H ?_;clear H;intro t156 A25 H;(try dsimp only at H);replace A25:=Aside0.mk A25;obtain rfl:=Option.some.inj H;obtain ⟨Ao26,co26,eo26⟩:=Kd.R_slice HO_5.out;subst eo26
    go_wp2_with (first|((with_reducible refine gate_callee (f:=70) rfl ?_);refine gL (some 43) Try.func70 #[.slice Ao26 x5_1.length co26] ?_;(with_reducible refine (nat_trim.calls _ _ x5_1 t156 _ ?s1_ ?s2_ A25.out).mono ?_);(case s1_=>exact Cu (Kd.R_reads' HO_5.out).2.2);(case s2_=>exact (Kd.R_reads' HO_5.out).2.1);rintro e w' ⟨rfl,⟨nd,rfl⟩⟩;refine ⟨_,rfl,?_⟩;have HO158:=Aside0.mk (nat_trim.R HO_5.out A25.out);clear HO_5))
    go_ret
    exact ⟨_,eW,by (with_reducible repeat (first|apply Ra|apply Rn|apply Rd));exact HO158.out,bL HB.out⟩
def nat_long.T11 : Bool × List (List Nat × List Nat):=(true,[([],[]),([],[]),([],[]),([1,2],[1,2]),([0,3],[0,3]),([4],[4]),([5],[5]),([6],[6]),([],[]),([],[]),([],[]),([9,10],[9,10]),([11],[11]),([8,12],[8,12]),([13],[13]),([14],[14]),([7,15],[7,15]),([16,0,1,2,3,4,5,6,7,8,9,10,11,12,13,14,15,16],[16])])
def nat_long.B11 : List Nat:=[0,0,0,6,15,31,63,127,0,0,0,1536,3584,7936,16128,32512,65535,131071]
theorem nat_long.tab11 : rtab .any (opsOf Try.f76 11)=nat_long.T11:=by kernel_rfl
theorem nat_long.bits11 : waitsOk nat_long.T11.2 nat_long.B11=true:=by kernel_rfl
def nat_long.T12 : Bool × List (List Nat × List Nat):=(true,[([],[]),([],[]),([],[]),([2],[2]),([1,3],[1,3]),([4],[4]),([5],[5]),([0,6],[0,6]),([],[]),([],[]),([],[]),([10],[10]),([9,11],[9,11]),([12],[12]),([13],[13]),([8,14],[8,14]),([7,0,1,2,3,4,5,6,7],[7]),([15,16,0,1,2,3,4,5,6,7,8,9,10,11,12,13,14,15,16],[15])])
def nat_long.B12 : List Nat:=[0,0,0,4,14,30,62,127,0,0,0,1024,3584,7680,15872,32512,255,131071]
theorem nat_long.tab12 : rtab .any (opsOf Try.f76 12)=nat_long.T12:=by kernel_rfl
theorem nat_long.bits12 : waitsOk nat_long.T12.2 nat_long.B12=true:=by kernel_rfl
def nat_long.T13 : Bool × List (List Nat × List Nat):=(true,[([],[]),([0],[0]),([1],[1]),([2],[2]),([3,2],[2,3]),([4,2,2],[2,4]),([5],[5]),([5],[5]),([5],[5]),([8,5],[5,8]),([7,9,5],[5,7,9]),([10,5],[5,10]),([11,5],[5,11]),([6,12,5],[5,6,12]),([5],[5]),([14,5],[5,14]),([5],[5]),([5],[5]),([5],[5]),([17,18,5],[5,17,18]),([19,5],[5,19]),([16,20,5],[5,16,20]),([21,5],[5,21]),([22,5],[5,22]),([15,23,5],[5,15,23]),([13,24,5],[5,13,24]),([5,25,2],[2,5,25]),([2,26],[2,26])])
def nat_long.B13 : List Nat:=[0,1,3,7,15,31,63,63,63,319,959,1983,4031,8191,63,16447,63,63,63,393279,917567,2031679,4128831,8323135,16760895,33554431,67108863,134217727]
theorem nat_long.tab13 : rtab .any (opsOf Try.f76 13)=nat_long.T13:=by kernel_rfl
theorem nat_long.bits13 : waitsOk nat_long.T13.2 nat_long.B13=true:=by kernel_rfl
def nat_long.T21 : Bool × List (List Nat × List Nat):=(true,[([],[]),([0],[0]),([],[]),([],[]),([2,3],[2,3]),([],[]),([4,5,1],[4,5]),([1,6,0,1],[1]),([6,7,0,1,2,3,4,5,6,7],[6])])
def nat_long.B21 : List Nat:=[0,1,0,0,12,0,63,127,255]
theorem nat_long.tab21 : rtab .any (opsOf Try.f76 21)=nat_long.T21:=by kernel_rfl
theorem nat_long.bits21 : waitsOk nat_long.T21.2 nat_long.B21=true:=by kernel_rfl
theorem nat_long.calls (k : Nat) (A0 : Option Addr) (c0 : Nat) (l0 : List Int) (A1 : Option Addr) (c1 : Nat) (l1 : List Int) (r1 : List Int) (r2 : List Int) (w : World) (hr0 : Kd.C (Kd.int .u32) w A0 l0.length l0) (hc0 : l0.length≤c0) (hr1 : Kd.C (Kd.int .u32) w A1 l1.length l1) (hc1 : l1.length≤c1) (h : nat_long.f k l0 l1=some (r1,r2)) :
  Calls Try.prog 76 #[.slice A0 l0.length c0,.slice A1 l1.length c1] w fun e w'=>∃ v0_ v1_ : Value,e=.returned (.tuple #[v0_,v1_])∧Kd.R (Kd.int .u32) 82 w' w.heap.size (fun k_=>some k_≠(v1_ : Value).ownBlock) v0_ r1∧Kd.R (Kd.int .u32) 82 w' w.heap.size (fun k_=>some k_≠(v0_ : Value).ownBlock) v1_ r2∧Below w.heap.size w w':=by
 have HR0:=Aside0.mk hr0;have HC0:=Aside0.mk hc0;clear hr0 hc0;have HR1:=Aside0.mk hr1;have HC1:=Aside0.mk hc1;clear hr1 hc1;have HB:=Aside0.mk (Below.refl w.heap.size w);have H : (if 0≤(wrap64 ((l1.length : Int) - 1)) then (if (wrap64 ((l1.length : Int) - 1)) < (l1.length : Int) then ((bits_LeadingZeros32.f (rd l1 (wrap64 ((l1.length : Int) - 1)))).bind fun t160=>((nat_Shl.f k l1 t160).bind fun bt161=>((nat_Shl.f k l0 t160).bind fun bt165=>(nat_long.l0 k l0 t160 bt161.1 bt165.1 (bt161.1.length : Int))))) else (none)) else (none))=some (r1,r2):=h;clear h;obtain ⟨ji3,hji3⟩ : ∃ j_ : Int,(wrap64 ((l1.length : Int) - 1))=j_:=⟨_,rfl⟩
 first|rw [hji3] at H|simp only [hji3] at H ⊢
 have hji3w:=(i64_w _).trans hji3;refine ifT H ?_;clear H;intro c4 H;have c4b0 : decide (0≤(ji3))=true:=decide_eq_true c4;clear c4;refine ifT H ?_;clear H;intro c5 H;have c5b0 : decide ((ji3) < (l1.length : Int))=true:=decide_eq_true c5;clear c5;refine biT H ?_;clear H;intro t160 A6 H;(try dsimp only at H);replace A6:=Aside0.mk A6;refine biT H ?_;clear H;rintro ⟨t161,t162⟩ A7 H;(try dsimp only at H);replace A7:=Aside0.mk A7;refine biT H ?_;clear H;rintro ⟨t165,t166⟩ A8 H;(try dsimp only at H);replace A8:=Aside0.mk A8;have H':=Aside0.mk H;clear H;have p159 : 0≤((ji3) : Int):=oA;have q159 : (ji3) < (l1.length : Int):=oA;obtain ⟨ad159,e159,hx159_0⟩:=Kd.at_int HR1.out (ji3) p159 q159;cases e159;replace p159:=eq_true p159;replace q159:=eq_true q159
 go_enter Try.func76,Try.ntmps76
 go_wp2_with (first|((with_reducible refine gate_callee (f:=80) rfl ?_);refine gL (some 23) Try.func80 #[.int .u32 (rd l1 (ji3))] ?_ (hargs:=by (try simp only [List.map_toArray,List.map_cons,List.map_nil]);first|done|(simp only [hji3];rfl)|rfl|(simp only [List.length_drop,List.length_take];rfl));(with_reducible refine (bits_LeadingZeros32.calls (rd l1 (ji3)) t160 _ A6.out).mono ?_);rintro e w' ⟨rfl,⟨nd,rfl⟩⟩;refine ⟨_,rfl,?_⟩)|((with_reducible refine gate_callee (f:=82) rfl ?_);refine gL (some 27) Try.func82 #[.slice (some ad159) l1.length c1,.int .i64 t160] ?_;(with_reducible refine (nat_Shl.calls k _ _ l1 t160 t161 t162 _ ?s1_ ?s2_ A7.out).mono ?_);(case s1_=>exact Cu HR1.out);(case s2_=>exact HC1.out);rintro e w9 ⟨v163,rfl,ho0,hb⟩;refine ⟨_,rfl,?_⟩;have HO164:=Aside0.mk (Kd.R_lower ho0 (below_size (bL HB.out)));replace HB:=bH HB hb)|((with_reducible refine gate_callee (f:=82) rfl ?_);refine gL (some 33) Try.func82 #[.slice A0 l0.length c0,.int .i64 t160] ?_;(with_reducible refine (nat_Shl.calls k _ _ l0 t160 t165 t166 _ ?s1_ ?s2_ A8.out).mono ?_);(case s1_=>exact Cu (Kd.C_below HR0.out HB.out));(case s2_=>exact HC0.out);rintro e w10 ⟨v167,rfl,ho0,hb⟩;refine ⟨_,rfl,?_⟩;have HO168:=Aside0.mk (Kd.R_lower (Kd.R_new' ho0 (Kd.R_lt (Ru HO164.out))) (below_size (bL HB.out)));replace HO164:=Aside0.mk (Kd.R_elder' (Ru HO164.out) (Kd.R_base ho0) hb);replace HB:=bH HB hb;obtain ⟨Ao11,co11,eo11⟩:=Kd.R_slice HO164.out;subst eo11))
 go_loopg [9] k (fun kq v9 w'=>∃ (x9_1 : List Int),Aside0 (nat_long.l0 kq l0 t160 t161 x9_1 (t161.length : Int)=some (r1,r2))∧Aside0 (kq≤k)∧Aside0 (Kd.R (Kd.int .u32) 82 w' w.heap.size (fun k_=>some k_≠(v9 : Value).ownBlock) (.slice Ao11 t161.length co11) t161)∧Aside0 (Kd.R (Kd.int .u32) 82 w' w.heap.size (fun k_=>some k_≠((.slice Ao11 t161.length co11) : Value).ownBlock) v9 x9_1)∧Aside0 (Below w.heap.size w w'))
 case atStart=>exact ⟨(t165),H',⟨Nat.le_refl _⟩,⟨Kd.R_mono (Ru HO164.out) (fun _ hk=>hk.2)⟩,⟨Kd.R_mono (Ru HO168.out) (fun _ hk=>hk.2)⟩,⟨bL HB.out⟩⟩
 case round =>
  clear H';obtain ⟨x9_1,HA,HK1,HO_7,HO_9,HB⟩:=hrel
  cases gk with
  | zero=>exact absurd HA.out (by simp [nat_long.l0])
  | succ k1 =>
   have H:=HA.out;clear HA;simp only [nat_long.l0] at H
   by_cases c12 : (x9_1.length : Int)≤(l0.length : Int)
   ·rw [if_pos c12] at H
    have c12b0 : decide ((x9_1.length : Int)≤(l0.length : Int))=true:=decide_eq_true c12;have c12b1 : decide (x9_1.length≤l0.length)=true:=decide_eq_true (Int.ofNat_le.mp c12);clear c12;refine ifT H ?_;clear H;intro c13 H;have LMc13:=Aside0.mk c13;clear c13;obtain ⟨y169,hy_⟩ : ∃ y_ : List Int,y_=(x9_1++[0]):=⟨_,rfl⟩;replace H : (nat_long.l0 k1 l0 t160 t161 y169 (t161.length : Int))=some (r1,r2):=yH H;have Ny169:=Aside0.mk hy_;clear hy_;have H':=Aside0.mk H;clear H;obtain ⟨Ao14,co14,eo14⟩:=Kd.R_slice HO_9.out;subst eo14
    go_wp2_with (first|((with_reducible refine gate_builtin (b:=.append) (xs:=#[.tmp 43,.tmp 44]) rfl ?_);at_builtin;refine Kd.R_append (Kd.int .u32) (w0:=w) w.heap.size rfl (.tmp 43) (.tmp 44) 61 82 (.int .u32 0) 4 rfl Try.underlying61 info82 rfl (by decide) (by omega) (.slice Ao14 x9_1.length co14) x9_1 0 [.int .u32 0] (fun k_=>some k_≠(.slice Ao11 t161.length co11 : Value).ownBlock) (fun _=>False) rfl rfl ?aP (fun _ hk=>hk.elim) ?aF ?aO ?aB ?aS ?aL ?_;(case aP=>exact rfl);(case aB=>exact (bL HB.out));(case aF=>exact (fun k_ hk=>Kd.fresh' (Kd.R_lt (Ru HO_7.out)) k_ hk));(case aO=>exact (Ru HO_9.out));(case aS=>exact (below_size (bL HB.out)));(case aL=>have:=LMc13.out;omega);intro v170 w15 ho hb hg hat;rw [← Ny169.out] at ho;replace HO_7:=Aside0.mk (Kd.R_after (ok:=(fun _=>True)) (Kd.R_mono (Ru HO_7.out) (fun _ hk=>⟨trivial,hk⟩)) hg hat);replace HB:=Aside0.mk hb;have HO171:=Aside0.mk ho;clear HO_9;clear ho hb hg hat))
    go_roundg k1
    case measure=>have:=HK1.out;omega
    case rel=>exact ⟨(y169),H',⟨by have:=HK1.out;omega⟩,⟨Kd.R_mono (Ru HO_7.out) (fun _ hk=>hk.2)⟩,⟨Ru HO171.out⟩,⟨bL HB.out⟩⟩
   ·rw [if_neg c12] at H
    have c12b0 : decide ((x9_1.length : Int)≤(l0.length : Int))=false:=decide_eq_false c12;have c12b1 : decide (x9_1.length≤l0.length)=false:=decide_eq_false (fun h=>c12 (Int.ofNat_le.mpr h));clear c12;obtain ⟨ji16,hji16⟩ : ∃ j_ : Int,(wrap64 ((x9_1.length : Int) - (t161.length : Int)))=j_:=⟨_,rfl⟩
    first|rw [hji16] at H|simp only [hji16] at H ⊢
    have hji16w:=(i64_w _).trans hji16;refine ifT H ?_;clear H;intro c17 H;have c17b0:=eq_true c17;have c17b1 : decide (0≤(ji16))=true:=decide_eq_true c17;clear c17;refine ifT H ?_;clear H;intro c18 H;have c18b0:=eq_true c18;have c18b1 : decide ((ji16 : Int).toNat≤70368744177664)=true:=decide_eq_true c18;clear c18;obtain ⟨y172,hy_⟩ : ∃ y_ : List Int,y_=(List.replicate (ji16 : Int).toNat 0):=⟨_,rfl⟩;replace H : (nat_long.l1 k1 t160 t161 x9_1 (t161.length : Int) y172 (wrap64 ((ji16) - 1)))=some (r1,r2):=yH H;have Ny172:=Aside0.mk hy_;clear hy_;have H':=Aside0.mk H;clear H;obtain ⟨Ao19,co19,eo19⟩:=Kd.R_slice HO_9.out;subst eo19
    go_wp2_with (first|((with_reducible refine gate_dst (N:=50) rfl ?_);refine Kd.R_make (Kd.int .u32) _ 82 rfl (N:=50) rfl 61 _ _ rfl ji16 rfl rfl Try.underlying61 (.int .u32 0) 4 info82 rfl (by decide) (by omega) 0 (ok:=fun _=>True) (okp:=fun _=>True) rfl (fun _ hk=>hk) trivial (oA) (Nat.le_trans (Nat.mul_le_mul_right _ (oA : ji16.toNat≤70368744177664)) (by omega)) (Below.refl _ _) (Nat.le_refl _) ?_;intro v173 w20 ho21 hb hg_ hnew_;clear hg_ hnew_;(first|rw [← Ny172.out] at ho21|(simp only [Int.reduceToNat] at ho21;rw [← Ny172.out] at ho21));have HO174:=Aside0.mk (Kd.R_lower (Kd.R_new' (Kd.R_new' ho21 (Kd.R_lt (Ru HO_7.out))) (Kd.R_lt (Ru HO_9.out))) (below_size (bL HB.out)));replace HO_7:=Aside0.mk (Kd.R_elder' (Ru HO_7.out) (Kd.R_base ho21) hb);replace HO_9:=Aside0.mk (Kd.R_elder' (Ru HO_9.out) (Kd.R_base ho21) hb);replace HB:=bH HB hb;clear hb ho21))
    go_loopg [13] k1 (fun kq v13 w'=>∃ (x9_2 : List Int) (x12_2 : List Int) (x13_2 : Int),v13=.int .i64 x13_2∧Aside0 (nat_long.l1 kq t160 t161 x9_2 (t161.length : Int) x12_2 x13_2=some (r1,r2))∧Aside0 (kq≤k1)∧Aside0 (Kd.R (Kd.int .u32) 82 w' w.heap.size (fun k_=>some k_≠((.slice Ao19 x9_1.length co19) : Value).ownBlock∧some k_≠(v173 : Value).ownBlock) (.slice Ao11 t161.length co11) t161)∧Aside0 (Kd.R (Kd.int .u32) 82 w' w.heap.size (fun k_=>some k_≠((.slice Ao11 t161.length co11) : Value).ownBlock∧some k_≠(v173 : Value).ownBlock) (.slice Ao19 x9_1.length co19) x9_2)∧Aside0 (Kd.R (Kd.int .u32) 82 w' w.heap.size (fun k_=>some k_≠((.slice Ao11 t161.length co11) : Value).ownBlock∧some k_≠((.slice Ao19 x9_1.length co19) : Value).ownBlock) v173 x12_2)∧Aside0 (Below w.heap.size w w'))
    case atStart=>exact ⟨(x9_1),(y172),(wrap64 ((ji16) - 1)),(by first|rfl|(simp;done)|(simp only [← hji16] <;> (first|rfl|simp))|(simp [*];done)),H',⟨Nat.le_refl _⟩,⟨Ru HO_7.out⟩,⟨Ru HO_9.out⟩,⟨Kd.R_mono (Ru HO174.out) (fun _ hk=>⟨hk.1.2,hk.2⟩)⟩,⟨bL HB.out⟩⟩
    case round =>
     clear H';obtain ⟨x9_2,x12_2,x13_2,rfl,HA,HK2,HO_7,HO_9,HO_12,HB⟩:=hrel;have hl9_2:=(Kd.R_reads' HO_9.out).1;rw [hl9_2] at HO_9
     (try simp only [hl9_2])
     (try simp only [hl9_2] at HO_7)
     (try simp only [hl9_2] at HO_12)
     cases gk with
     | zero=>exact absurd HA.out (by simp [nat_long.l1])
     | succ k2 =>
      have H:=HA.out;clear HA;simp only [nat_long.l1] at H
      by_cases c22 : x13_2 ≥ 0
      ·rw [if_pos c22] at H
       have c22b0 : decide (0≤x13_2)=true:=decide_eq_true c22;clear c22;obtain ⟨ji23,hji23⟩ : ∃ j_ : Int,(wrap64 (x13_2+(t161.length : Int)))=j_:=⟨_,rfl⟩
       first|rw [hji23] at H|simp only [hji23] at H ⊢
       have hji23w:=(i64_w _).trans hji23;refine ifT H ?_;clear H;intro c24 H;have c24b0 : decide (0≤(ji23))=true:=decide_eq_true c24;clear c24;refine ifT H ?_;clear H;intro c25 H;have c25b0 : decide ((ji23) < (x9_2.length : Int))=true:=decide_eq_true c25;clear c25;obtain ⟨ji26,hji26⟩ : ∃ j_ : Int,(wrap64 ((ji23) - 1))=j_:=⟨_,rfl⟩
       first|rw [hji26] at H|simp only [hji26] at H ⊢
       have hji26w:=(i64_w _).trans hji26;refine ifT H ?_;clear H;intro c27 H;have c27b0 : decide (0≤(ji26))=true:=decide_eq_true c27;clear c27;refine ifT H ?_;clear H;intro c28 H;have c28b0 : decide ((ji26) < (x9_2.length : Int))=true:=decide_eq_true c28;clear c28;obtain ⟨ji29,hji29⟩ : ∃ j_ : Int,(wrap64 ((t161.length : Int) - 1))=j_:=⟨_,rfl⟩
       first|rw [hji29] at H|simp only [hji29] at H ⊢
       have hji29w:=(i64_w _).trans hji29;refine ifT H ?_;clear H;intro c30 H;have c30b0 : decide (0≤(ji29))=true:=decide_eq_true c30;clear c30;refine ifT H ?_;clear H;intro c31 H;have c31b0 : decide ((ji29) < (t161.length : Int))=true:=decide_eq_true c31;clear c31;refine ifF H ?_;clear H;intro c32 H;have c32b0 : ((IntKind.u64.wrap (rd t161 (ji29))) == 0)=false:=beq_eq_false_iff_ne.mpr c32;have c32b1 : ((IntKind.u64.wrap (rd t161 (ji29))) != 0)=true:=bne_iff_ne.mpr c32;have HC33:=Aside0.mk H;clear H
       try go_wp2
       replace HO_7:=Aside0.mk (Rd HO_7.out);replace HO_9:=Aside0.mk (Rd HO_9.out);replace HO_12:=Aside0.mk (Rd HO_12.out);replace HB:=Aside0.mk (b1 HB.out);have p185 : 0≤((ji23) : Int):=oA;have q185 : (ji23) < (x9_2.length : Int):=oA;obtain ⟨ad185,e185,hx185_0⟩:=Kd.at_int (Kd.R_reads' HO_9.out).2.2 (ji23) p185 q185;cases e185;replace p185:=eq_true p185;replace q185:=eq_true q185;have p186 : 0≤((ji26) : Int):=oA;have q186 : (ji26) < (x9_2.length : Int):=oA;obtain ⟨ad186,e186,hx186_0⟩:=Kd.at_int (Kd.R_reads' HO_9.out).2.2 (ji26) p186 q186;obtain rfl : ad185=ad186:=(by injection e186);replace p186:=eq_true p186;replace q186:=eq_true q186;refine sT (n:=18) (S:=fun w'=>w'.cell? (ad185.add ((ji23)).toNat)=some (.int .u32 (rd x9_2 (ji23)))∧w'.cell? (ad185.add ((ji26)).toNat)=some (.int .u32 (rd x9_2 (ji26)))) (ds:=[]) (by kernel_rfl) rfl ⟨hx185_0,hx186_0⟩ (fun hHeld=>?_);refine with_tabW nat_long.tab11 nat_long.bits11 (fun HT_ HW_=>?_);generalize wr.drew=w34 at HO_7 HO_9 HO_12 HB hx185_0 hx186_0 hHeld ⊢;refine zp 0 60 ?_;refine zp 1 61 ?_;refine zp 2 62 ?_;refine zp 3 63 ?_;refine zp 4 64 ?_;refine zp 8 68 ?_;refine zp 9 69 ?_;refine zp 10 70 ?_;refine zp 11 71 ?_;refine zp 12 72 ?_;refine zp 13 73 ?_;refine zt 5 65 ?_;refine zp 6 66 ?_;refine zp 7 67 ?_;refine zt 14 74 ?_;refine zp 15 75 ?_;refine zp 16 76 ?_;refine zp 17 14 ?_;refine dN ?_
       try go_wp2
       replace HO_7:=Aside0.mk (Rd HO_7.out);replace HO_9:=Aside0.mk (Rd HO_9.out);replace HO_12:=Aside0.mk (Rd HO_12.out);replace HB:=Aside0.mk (b1 HB.out);have p187 : 0≤((ji29) : Int):=oA;have q187 : (ji29) < (t161.length : Int):=oA;obtain ⟨ad187,e187,hx187_0⟩:=Kd.at_int (Kd.R_reads' HO_7.out).2.2 (ji29) p187 q187;cases e187;replace p187:=eq_true p187;replace q187:=eq_true q187;have p188 : 0≤((ji29) : Int):=oA;have q188 : (ji29) < (t161.length : Int):=oA;obtain ⟨ad188,e188,hx188_0⟩:=Kd.at_int (Kd.R_reads' HO_7.out).2.2 (ji29) p188 q188;obtain rfl : ad187=ad188:=(by injection e188);replace p188:=eq_true p188;replace q188:=eq_true q188;refine sT (n:=18) (S:=fun w'=>w'.cell? (ad187.add ((ji29)).toNat)=some (.int .u32 (rd t161 (ji29)))∧w'.cell? (ad187.add ((ji29)).toNat)=some (.int .u32 (rd t161 (ji29)))) (ds:=[]) (by kernel_rfl) rfl ⟨hx187_0,hx188_0⟩ (fun hHeld=>?_);refine with_tabW nat_long.tab12 nat_long.bits12 (fun HT_ HW_=>?_);generalize w34.drew=w35 at HO_7 HO_9 HO_12 HB hx187_0 hx188_0 hHeld ⊢;refine zp 0 77 ?_;refine zp 1 78 ?_;refine zp 2 79 ?_;refine zp 3 80 ?_;refine zp 4 81 ?_;refine zp 8 85 ?_;refine zp 9 86 ?_;refine zp 10 87 ?_;refine zp 11 88 ?_;refine zp 12 89 ?_;refine zt 5 82 ?_;refine zp 6 83 ?_;refine zp 7 84 ?_;refine zp 16 15 ?_;refine zt 13 90 ?_;refine zp 14 91 ?_;refine zp 15 92 ?_;refine zp 17 16 ?_;refine dN ?_
       go_upto_block 4 with (fail)
       go_cut [15] (fun v15 wc=>∃ (kq : Nat) (x15_32 : Int),v15=.int .u64 x15_32∧Aside0 (nat_long.j4 kq t160 t161 x9_2 (t161.length : Int) x12_2 x13_2 x15_32=some (r1,r2))∧Aside0 (kq≤k2)∧Aside0 (Kd.R (Kd.int .u32) 82 wc w.heap.size (fun k_=>some k_≠((.slice (some ad185) x9_2.length co19) : Value).ownBlock∧some k_≠(v173 : Value).ownBlock) (.slice (some ad187) t161.length co11) t161)∧Aside0 (Kd.R (Kd.int .u32) 82 wc w.heap.size (fun k_=>some k_≠((.slice (some ad187) t161.length co11) : Value).ownBlock∧some k_≠(v173 : Value).ownBlock) (.slice (some ad185) x9_2.length co19) x9_2)∧Aside0 (Kd.R (Kd.int .u32) 82 wc w.heap.size (fun k_=>some k_≠((.slice (some ad187) t161.length co11) : Value).ownBlock∧some k_≠((.slice (some ad185) x9_2.length co19) : Value).ownBlock) v173 x12_2)∧Aside0 (Below w.heap.size w wc))
       case first =>
        have H:=HC33.out;clear HC33;have H':=Aside0.mk H;clear H
        go_wp2
        go_loopg [15,16] k2 (fun kq v15 v16 w'=>∃ (x15_3 : Int) (x16_3 : Int),v15=.int .u64 x15_3∧v16=.int .u64 x16_3∧Aside0 (nat_long.l2 kq t160 t161 x9_2 (t161.length : Int) x12_2 x13_2 x15_3 x16_3=some (r1,r2))∧Aside0 (kq≤k2)∧Aside0 (Kd.R (Kd.int .u32) 82 w' w.heap.size (fun k_=>some k_≠((.slice (some ad185) x9_2.length co19) : Value).ownBlock∧some k_≠(v173 : Value).ownBlock) (.slice (some ad187) t161.length co11) t161)∧Aside0 (Kd.R (Kd.int .u32) 82 w' w.heap.size (fun k_=>some k_≠((.slice (some ad187) t161.length co11) : Value).ownBlock∧some k_≠(v173 : Value).ownBlock) (.slice (some ad185) x9_2.length co19) x9_2)∧Aside0 (Kd.R (Kd.int .u32) 82 w' w.heap.size (fun k_=>some k_≠((.slice (some ad187) t161.length co11) : Value).ownBlock∧some k_≠((.slice (some ad185) x9_2.length co19) : Value).ownBlock) v173 x12_2)∧Aside0 (Below w.heap.size w w'))
        case atStart=>exact ⟨(IntKind.u64.wrap (Int.tdiv (Go.bits .or .u64 (IntKind.u64.wrap ((IntKind.u64.wrap (rd x9_2 (ji23))) * 4294967296)) (IntKind.u64.wrap (rd x9_2 (ji26)))) (IntKind.u64.wrap (rd t161 (ji29))))),(Int.tmod (Go.bits .or .u64 (IntKind.u64.wrap ((IntKind.u64.wrap (rd x9_2 (ji23))) * 4294967296)) (IntKind.u64.wrap (rd x9_2 (ji26)))) (IntKind.u64.wrap (rd t161 (ji29)))),(by first|rfl|(simp;done)|(simp only [← hji23,← hji26,← hji29] <;> (first|rfl|simp))|(simp [*];done)),(by first|rfl|(simp;done)|(simp only [← hji23,← hji26,← hji29] <;> (first|rfl|simp))|(simp [*];done)),H',⟨Nat.le_refl _⟩,⟨by (try simp only [hl9_2]);(with_reducible repeat (first|apply Ra|apply Rn|apply Rd));exact HO_7.out⟩,⟨by (try simp only [hl9_2]);(with_reducible repeat (first|apply Ra|apply Rn|apply Rd));exact HO_9.out⟩,⟨by (try simp only [hl9_2]);(with_reducible repeat (first|apply Ra|apply Rn|apply Rd));exact HO_12.out⟩,⟨bL HB.out⟩⟩
        case round =>
         clear H';obtain ⟨x15_3,x16_3,rfl,rfl,HA,HK3,HO_7,HO_9,HO_12,HB⟩:=hrel
         cases gk with
         | zero=>exact absurd HA.out (by simp [nat_long.l2])
         | succ k3 =>
          have H:=HA.out;clear HA;simp only [nat_long.l2] at H;have HC36:=Aside0.mk H;clear H
          go_upto_region 13 with (fail)
          go_cut [120] (fun v120 wc=>∃ (kq : Nat) (x120_35 : Bool),v120=.bool x120_35∧Aside0 (nat_long.j3 kq t160 t161 x9_2 (t161.length : Int) x12_2 x13_2 x15_3 x16_3 x120_35=some (r1,r2))∧Aside0 (kq≤k3)∧Aside0 (Kd.R (Kd.int .u32) 82 wc w.heap.size (fun k_=>some k_≠((.slice (some ad185) x9_2.length co19) : Value).ownBlock∧some k_≠(v173 : Value).ownBlock) (.slice (some ad187) t161.length co11) t161)∧Aside0 (Kd.R (Kd.int .u32) 82 wc w.heap.size (fun k_=>some k_≠((.slice (some ad187) t161.length co11) : Value).ownBlock∧some k_≠(v173 : Value).ownBlock) (.slice (some ad185) x9_2.length co19) x9_2)∧Aside0 (Kd.R (Kd.int .u32) 82 wc w.heap.size (fun k_=>some k_≠((.slice (some ad187) t161.length co11) : Value).ownBlock∧some k_≠((.slice (some ad185) x9_2.length co19) : Value).ownBlock) v173 x12_2)∧Aside0 (Below w.heap.size w wc))
          case first =>
           have H:=HC36.out;clear HC36
           by_cases c37 : x15_3 ≥ 4294967296
           ·rw [if_pos c37] at H
            have c37b0 : decide (4294967296≤x15_3)=true:=decide_eq_true c37;clear c37
            (first|rw [c37b0]|(simp only [i64_w,i32_w];rw [c37b0])|skip)
            have H':=Aside0.mk H;clear H
            try go_wp2
            replace HO_7:=Aside0.mk (Rd HO_7.out);replace HO_9:=Aside0.mk (Rd HO_9.out);replace HO_12:=Aside0.mk (Rd HO_12.out);replace HB:=Aside0.mk (b1 HB.out);refine sT (n:=28) (S:=fun w'=>True) (ds:=[]) (by kernel_rfl) rfl trivial (fun hHeld=>?_);refine with_tabW nat_long.tab13 nat_long.bits13 (fun HT_ HW_=>?_);generalize wr.drew=w38 at HO_7 HO_9 HO_12 HB hHeld ⊢;refine zp 0 93 ?_;refine zp 1 94 ?_;refine zp 2 95 ?_;refine zp 3 96 ?_;refine zp 4 97 ?_;refine zp 5 98 ?_;refine zp 6 99 ?_;refine zp 7 100 ?_;refine zp 8 101 ?_;refine zp 9 102 ?_;refine zp 10 103 ?_;refine zp 11 104 ?_;refine zp 12 105 ?_;refine zp 13 106 ?_;refine zp 14 107 ?_;refine zp 15 108 ?_;refine zp 16 109 ?_;refine zp 17 110 ?_;refine zp 18 111 ?_;refine zp 19 112 ?_;refine zp 20 113 ?_;refine zp 21 114 ?_;refine zp 22 115 ?_;refine zp 23 116 ?_;refine zp 24 117 ?_;refine zp 25 118 ?_;refine zp 26 119 ?_;refine zp 27 120 ?_;refine dN ?_
            try go_wp2
            go_meet
            case rel=>exact ⟨_,(true),sD,H',⟨by have:=HK1.out;have:=HK2.out;have:=HK3.out;first|omega|exact Nat.le_refl _⟩,⟨by (try simp only [hl9_2]);(with_reducible repeat (first|apply Ra|apply Rn|apply Rd));exact HO_7.out⟩,⟨by (try simp only [hl9_2]);(with_reducible repeat (first|apply Ra|apply Rn|apply Rd));exact HO_9.out⟩,⟨by (try simp only [hl9_2]);(with_reducible repeat (first|apply Ra|apply Rn|apply Rd));exact HO_12.out⟩,⟨bL HB.out⟩⟩
           ·rw [if_neg c37] at H
            have c37b0 : decide (4294967296≤x15_3)=false:=decide_eq_false c37;clear c37
            (first|rw [c37b0]|(simp only [i64_w,i32_w];rw [c37b0])|skip)
            by_cases c39 : x16_3 < 4294967296
            ·rw [if_pos c39] at H
             have c39b0 : decide (x16_3 < 4294967296)=true:=decide_eq_true c39;clear c39;obtain ⟨ji40,hji40⟩ : ∃ j_ : Int,(wrap64 ((t161.length : Int) - 2))=j_:=⟨_,rfl⟩
             first|rw [hji40] at H|simp only [hji40] at H ⊢
             have hji40w:=(i64_w _).trans hji40;refine ifT H ?_;clear H;intro c41 H;have c41b0 : decide (0≤(ji40))=true:=decide_eq_true c41;clear c41;refine ifT H ?_;clear H;intro c42 H;have c42b0 : decide ((ji40) < (t161.length : Int))=true:=decide_eq_true c42;clear c42;obtain ⟨ji43,hji43⟩ : ∃ j_ : Int,(wrap64 ((wrap64 (x13_2+(t161.length : Int))) - 2))=j_:=⟨_,rfl⟩
             first|rw [hji43] at H|simp only [hji43] at H ⊢
             have hji43w:=(i64_w _).trans hji43
             (try (have hji43nji23:=hji43;rw [hji23] at hji43nji23))
             (try (have hji43mji23:=hji43w;rw [hji23] at hji43mji23))
             refine ifT H ?_;clear H;intro c44 H;have c44b0 : decide (0≤(ji43))=true:=decide_eq_true c44;clear c44;refine ifT H ?_;clear H;intro c45 H;have c45b0 : decide ((ji43) < (x9_2.length : Int))=true:=decide_eq_true c45;clear c45;have H':=Aside0.mk H;clear H
             try go_wp2
             replace HO_7:=Aside0.mk (Rd HO_7.out);replace HO_9:=Aside0.mk (Rd HO_9.out);replace HO_12:=Aside0.mk (Rd HO_12.out);replace HB:=Aside0.mk (b1 HB.out);have p189 : 0≤((ji40) : Int):=oA;have q189 : (ji40) < (t161.length : Int):=oA;obtain ⟨ad189,e189,hx189_0⟩:=Kd.at_int (Kd.R_reads' HO_7.out).2.2 (ji40) p189 q189;obtain rfl : ad187=ad189:=(by injection e189);replace p189:=eq_true p189;replace q189:=eq_true q189;have p190 : 0≤((ji43) : Int):=oA;have q190 : (ji43) < (x9_2.length : Int):=oA;obtain ⟨ad190,e190,hx190_0⟩:=Kd.at_int (Kd.R_reads' HO_9.out).2.2 (ji43) p190 q190;obtain rfl : ad185=ad190:=(by injection e190);replace p190:=eq_true p190;replace q190:=eq_true q190;refine sT (n:=28) (S:=fun w'=>w'.cell? (ad187.add ((ji40)).toNat)=some (.int .u32 (rd t161 (ji40)))∧w'.cell? (ad185.add ((ji43)).toNat)=some (.int .u32 (rd x9_2 (ji43)))) (ds:=[]) (by kernel_rfl) rfl ⟨hx189_0,hx190_0⟩ (fun hHeld=>?_);refine with_tabW nat_long.tab13 nat_long.bits13 (fun HT_ HW_=>?_);generalize wr.drew=w46 at HO_7 HO_9 HO_12 HB hx189_0 hx190_0 hHeld ⊢;refine zp 0 93 ?_;refine zp 1 94 ?_;refine zp 2 95 ?_;refine zp 3 96 ?_;refine zp 4 97 ?_;refine zp 5 98 ?_;refine zp 6 99 ?_;refine zp 7 100 ?_;refine zp 8 101 ?_;refine zp 9 102 ?_;refine zp 10 103 ?_;refine zp 14 107 ?_;refine zp 15 108 ?_;refine zp 16 109 ?_;refine zp 17 110 ?_;refine zp 18 111 ?_;refine zp 19 112 ?_;refine zp 20 113 ?_;refine zp 21 114 ?_;refine zt 11 104 ?_;refine zp 12 105 ?_;refine zp 13 106 ?_;refine zt 22 115 ?_;refine zp 23 116 ?_
             refine zp 24 117 ?_;refine zp 25 118 ?_;refine zp 26 119 ?_;refine zp 27 120 ?_;refine dN ?_
             try go_wp2
             go_meet
             case rel=>exact ⟨_,(decide ((IntKind.u64.wrap (x15_3 * (IntKind.u64.wrap (rd t161 (ji40))))) > (Go.bits .or .u64 (IntKind.u64.wrap (x16_3 * 4294967296)) (IntKind.u64.wrap (rd x9_2 (ji43)))))),(by first|rfl|(simp;done)|(simp only [← hji40,← hji43] <;> (first|rfl|simp))|(simp [*];done)),H',⟨by have:=HK1.out;have:=HK2.out;have:=HK3.out;first|omega|exact Nat.le_refl _⟩,⟨by (try simp only [hl9_2]);(with_reducible repeat (first|apply Ra|apply Rn|apply Rd));exact HO_7.out⟩,⟨by (try simp only [hl9_2]);(with_reducible repeat (first|apply Ra|apply Rn|apply Rd));exact HO_9.out⟩,⟨by (try simp only [hl9_2]);(with_reducible repeat (first|apply Ra|apply Rn|apply Rd));exact HO_12.out⟩,⟨bL HB.out⟩⟩
            ·rw [if_neg c39] at H
             have c39b0 : decide (x16_3 < 4294967296)=false:=decide_eq_false c39;clear c39;have H':=Aside0.mk H;clear H
             try go_wp2
             replace HO_7:=Aside0.mk (Rd HO_7.out);replace HO_9:=Aside0.mk (Rd HO_9.out);replace HO_12:=Aside0.mk (Rd HO_12.out);replace HB:=Aside0.mk (b1 HB.out);refine sT (n:=28) (S:=fun w'=>True) (ds:=[]) (by kernel_rfl) rfl trivial (fun hHeld=>?_);refine with_tabW nat_long.tab13 nat_long.bits13 (fun HT_ HW_=>?_);generalize wr.drew=w47 at HO_7 HO_9 HO_12 HB hHeld ⊢;refine zp 0 93 ?_;refine zp 1 94 ?_;refine zp 2 95 ?_;refine zp 3 96 ?_;refine zp 4 97 ?_;refine zp 5 98 ?_;refine zp 6 99 ?_;refine zp 7 100 ?_;refine zp 8 101 ?_;refine zp 9 102 ?_;refine zp 10 103 ?_;refine zp 11 104 ?_;refine zp 12 105 ?_;refine zp 13 106 ?_;refine zp 14 107 ?_;refine zp 15 108 ?_;refine zp 16 109 ?_;refine zp 17 110 ?_;refine zp 18 111 ?_;refine zp 19 112 ?_;refine zp 20 113 ?_;refine zp 21 114 ?_;refine zp 22 115 ?_;refine zp 23 116 ?_;refine zp 24 117 ?_;refine zp 25 118 ?_;refine zp 26 119 ?_;refine zp 27 120 ?_;refine dN ?_
             try go_wp2
             go_meet
             case rel=>exact ⟨_,(false),sD,H',⟨by have:=HK1.out;have:=HK2.out;have:=HK3.out;first|omega|exact Nat.le_refl _⟩,⟨by (try simp only [hl9_2]);(with_reducible repeat (first|apply Ra|apply Rn|apply Rd));exact HO_7.out⟩,⟨by (try simp only [hl9_2]);(with_reducible repeat (first|apply Ra|apply Rn|apply Rd));exact HO_9.out⟩,⟨by (try simp only [hl9_2]);(with_reducible repeat (first|apply Ra|apply Rn|apply Rd));exact HO_12.out⟩,⟨bL HB.out⟩⟩
          case rest =>
           clear HC36;obtain ⟨kq,x120_35,rfl,HA,HJ35,HO_7,HO_9,HO_12,HB⟩:=hcut
           cases kq with
           | zero=>exact absurd HA.out (by simp [nat_long.j3])
           | succ kj35 =>
            have H:=HA.out;clear HA;simp only [nat_long.j3] at H
            by_cases c48 : x120_35=true
            ·subst c48
             rw [if_pos rfl] at H
             replace H : (if 0≤(ji29) then (if (ji29) < (t161.length : Int) then (if (IntKind.u64.wrap (x16_3+(IntKind.u64.wrap (rd t161 (ji29))))) ≥ 4294967296 then (nat_long.j4 kj35 t160 t161 x9_2 (t161.length : Int) x12_2 x13_2 (IntKind.u64.wrap (x15_3 - 1))) else (nat_long.l2 kj35 t160 t161 x9_2 (t161.length : Int) x12_2 x13_2 (IntKind.u64.wrap (x15_3 - 1)) (IntKind.u64.wrap (x16_3+(IntKind.u64.wrap (rd t161 (ji29))))))) else (none)) else (none))=some (r1,r2):=by first|(rw [hji29] at H;exact H)|(simp only [hji29] at H ⊢;exact H)
             have hji29w : (IntKind.i64.wrap ((t161.length : Int) - 1))=ji29:=(i64_w _).trans hji29;refine ifT H ?_;clear H;intro c49 H;have c49b0 : decide (0≤(ji29))=true:=decide_eq_true c49;clear c49;refine ifT H ?_;clear H;intro c50 H;have c50b0 : decide ((ji29) < (t161.length : Int))=true:=decide_eq_true c50;clear c50
             by_cases c51 : (IntKind.u64.wrap (x16_3+(IntKind.u64.wrap (rd t161 (ji29))))) ≥ 4294967296
             ·rw [if_pos c51] at H
              have c51b0 : decide (4294967296≤(IntKind.u64.wrap (x16_3+(IntKind.u64.wrap (rd t161 (ji29))))))=true:=decide_eq_true c51;clear c51;have H':=Aside0.mk H;clear H;have p191 : 0≤((ji29) : Int):=oA;have q191 : (ji29) < (t161.length : Int):=oA;obtain ⟨ad191,e191,hx191_0⟩:=Kd.at_int (Kd.R_reads' HO_7.out).2.2 (ji29) p191 q191;obtain rfl : ad187=ad191:=(by injection e191);replace p191:=eq_true p191;replace q191:=eq_true q191
              go_wp2
              go_meet
              case rel=>exact ⟨_,(IntKind.u64.wrap (x15_3 - 1)),sD,H',⟨by have:=HK1.out;have:=HK2.out;have:=HK3.out;have:=HJ35.out;first|omega|exact Nat.le_refl _⟩,⟨by (try simp only [hl9_2]);(with_reducible repeat (first|apply Ra|apply Rn|apply Rd));exact HO_7.out⟩,⟨by (try simp only [hl9_2]);(with_reducible repeat (first|apply Ra|apply Rn|apply Rd));exact HO_9.out⟩,⟨by (try simp only [hl9_2]);(with_reducible repeat (first|apply Ra|apply Rn|apply Rd));exact HO_12.out⟩,⟨bL HB.out⟩⟩
             ·rw [if_neg c51] at H
              have c51b0 : decide (4294967296≤(IntKind.u64.wrap (x16_3+(IntKind.u64.wrap (rd t161 (ji29))))))=false:=decide_eq_false c51;clear c51;have H':=Aside0.mk H;clear H;have p191 : 0≤((ji29) : Int):=oA;have q191 : (ji29) < (t161.length : Int):=oA;obtain ⟨ad191,e191,hx191_0⟩:=Kd.at_int (Kd.R_reads' HO_7.out).2.2 (ji29) p191 q191;obtain rfl : ad187=ad191:=(by injection e191);replace p191:=eq_true p191;replace q191:=eq_true q191
              go_wp2
              go_roundg kj35
              case measure=>have:=HK1.out;have:=HK2.out;have:=HK3.out;have:=HJ35.out;omega
              case rel=>exact ⟨(IntKind.u64.wrap (x15_3 - 1)),(IntKind.u64.wrap (x16_3+(IntKind.u64.wrap (rd t161 (ji29))))),sD,(by first|rfl|(simp;done)|(simp only [← hji29,← hji29] <;> (first|rfl|simp))|(simp [*];done)),H',⟨by have:=HK1.out;have:=HK2.out;have:=HK3.out;have:=HJ35.out;omega⟩,⟨by (try simp only [hl9_2]);(with_reducible repeat (first|apply Ra|apply Rn|apply Rd));exact HO_7.out⟩,⟨by (try simp only [hl9_2]);(with_reducible repeat (first|apply Ra|apply Rn|apply Rd));exact HO_9.out⟩,⟨by (try simp only [hl9_2]);(with_reducible repeat (first|apply Ra|apply Rn|apply Rd));exact HO_12.out⟩,⟨bL HB.out⟩⟩
            ·replace c48:=Bool.eq_false_iff.mpr c48
             subst c48;rw [if_neg (show ¬ (false=true) by decide)] at H;have H':=Aside0.mk H;clear H
             go_wp2
             go_meet
             case rel=>exact ⟨_,(x15_3),sD,H',⟨by have:=HK1.out;have:=HK2.out;have:=HK3.out;have:=HJ35.out;first|omega|exact Nat.le_refl _⟩,⟨by (try simp only [hl9_2]);(with_reducible repeat (first|apply Ra|apply Rn|apply Rd));exact HO_7.out⟩,⟨by (try simp only [hl9_2]);(with_reducible repeat (first|apply Ra|apply Rn|apply Rd));exact HO_9.out⟩,⟨by (try simp only [hl9_2]);(with_reducible repeat (first|apply Ra|apply Rn|apply Rd));exact HO_12.out⟩,⟨bL HB.out⟩⟩
       case rest =>
        clear HC33;obtain ⟨kq,x15_32,rfl,HA,HJ32,HO_7,HO_9,HO_12,HB⟩:=hcut
        cases kq with
        | zero=>exact absurd HA.out (by simp [nat_long.j4])
        | succ kj32 =>
         have H:=HA.out;clear HA;simp only [nat_long.j4] at H;refine ifT H ?_;clear H;intro c52 H;have c52b0:=eq_true c52;have c52b1 : decide (0≤x13_2)=true:=decide_eq_true c52;clear c52;refine ifT H ?_;clear H;intro c53 H;have c53b0:=eq_true c53;have c53b1 : decide (x13_2 < (wrap64 ((wrap64 (x13_2+(t161.length : Int)))+1)))=true:=decide_eq_true c53;refine ifT H ?_;clear H;intro c54 H;have c54b0:=eq_true c54;have c54b1 : decide ((wrap64 ((wrap64 (x13_2+(t161.length : Int)))+1))≤(x9_2.length : Int))=true:=decide_eq_true c54;refine ifT H ?_;clear H;intro c55 H;have c55b0:=eq_true c55;have c55b1 : decide (x13_2+(t161.length : Int) < (wrap64 ((wrap64 (x13_2+(t161.length : Int)))+1)))=true:=decide_eq_true c55;refine biT H ?_;clear H;rintro ⟨t192,t193⟩ A56 H;(try dsimp only at H);replace A56:=Aside0.mk A56
         by_cases c57 : t192=true
         ·subst c57
          rw [if_pos rfl] at H;have c58b0:=eq_true (oA : 0≤x13_2);have c59b0:=eq_true (oA : x13_2 < (wrap64 ((wrap64 (x13_2+(t161.length : Int)))+1)));have c60b0:=eq_true (oA : (wrap64 ((wrap64 (x13_2+(t161.length : Int)))+1))≤(x9_2.length : Int));refine biT H ?_;clear H;intro t194 A61 H;(try dsimp only at H);replace A61:=Aside0.mk A61;refine ifT H ?_;clear H;intro c62 H;have c62b0 : decide (x13_2 < (x12_2.length : Int))=true:=decide_eq_true c62;clear c62;obtain ⟨y195,hy_⟩ : ∃ y_ : List Int,y_=(x12_2.set (x13_2 : Int).toNat ((IntKind.u64.wrap (x15_32 - 1)) % 4294967296)):=⟨_,rfl⟩;replace H : (nat_long.l1 kj32 t160 t161 t194 (t161.length : Int) y195 (wrap64 (x13_2 - 1)))=some (r1,r2):=yH H;have Ny195:=Aside0.mk hy_;clear hy_;have H':=Aside0.mk H;clear H;obtain ⟨i064,hi064,_,hsz64,_⟩:=info_parts info82;have hq064 : (0 : Int)≤(x13_2 : Int):=(oA);have hq164 : (x13_2 : Int) < ((wrap64 ((wrap64 (x13_2+(t161.length : Int)))+1)) : Int):=(oA);have hq264 : ((wrap64 ((wrap64 (x13_2+(t161.length : Int)))+1)) : Int)≤((x9_2.length : Int) : Int):=(oA)
          (try rw [hji3] at hq064)
          (try rw [hji3] at hq164)
          (try rw [hji3] at hq264)
          (try rw [hji16] at hq064)
          (try rw [hji16] at hq164)
          (try rw [hji16] at hq264)
          (try rw [hji23] at hq064)
          (try rw [hji23] at hq164)
          (try rw [hji23] at hq264)
          (try rw [hji26] at hq064)
          (try rw [hji26] at hq164)
          (try rw [hji26] at hq264)
          (try rw [hji29] at hq064)
          (try rw [hji29] at hq164)
          (try rw [hji29] at hq264)
          have hcut64:=cut_win (P:=Try.prog) 61 82 .i64 .i64 Try.underlying61 hi064 hsz64 (some ad185) x9_2.length co19 x13_2 (wrap64 (ji23+1)) hq064 hq164 hq264 (Kd.R_reads' HO_9.out).2.1;clear hi064 hsz64;replace hq064:=eq_true hq064;replace hq164:=eq_true hq164;replace hq264:=eq_true hq264;have hw65 : (0 : Int)≤(x13_2 : Int)∧(x13_2 : Int)+((t161.length : Int) : Int) < ((wrap64 ((wrap64 (x13_2+(t161.length : Int)))+1)) : Int)∧((wrap64 ((wrap64 (x13_2+(t161.length : Int)))+1)) : Int)≤(x9_2.length : Int):=⟨(oA),(oA),(oA)⟩
          (try rw [hji3] at hw65)
          (try rw [hji16] at hw65)
          (try rw [hji23] at hw65)
          (try rw [hji26] at hw65)
          (try rw [hji29] at hw65)
          have HW65:=Aside0.mk hw65;clear hw65
          go_wp2_with (first|((with_reducible refine gate_callee (f:=83) rfl ?_);refine gL (some 142) Try.func83 #[.slice (Option.map (fun a_=>a_.add (x13_2 : Int).toNat) (some ad185)) (((wrap64 (ji23+1)) : Int).toNat - (x13_2 : Int).toNat) (co19 - (x13_2 : Int).toNat),.slice (some ad187) t161.length co11,.int .u64 x15_32] ?_ (hargs:=by (try simp only [List.map_toArray,List.map_cons,List.map_nil]);first|done|(simp only [hji23];rfl)|rfl|(simp only [List.length_drop,List.length_take];rfl));(with_reducible refine (nat_less.calls (fun k_=>some k_=(.slice (some ad185) x9_2.length co19 : Value).ownBlock) (.slice (some ad185) x9_2.length co19) x9_2 _ _ t161 x15_32 true t193 w _ ?s1_ ?s2_ ?s3_ ?s4_ (some ad185) x9_2.length co19 x13_2 (wrap64 (ji23+1)) rfl HW65.out A56.out).mono ?_);(case s1_=>repeat (first|with_reducible exact HB.out|apply ba|apply bn|apply b1));(case s2_=>exact Kd.R_tight rfl HO_9.out);(case s3_=>exact Kd.C_kept_own (HO_7.out) (fun k_ hk_ hs_=>(hk_.1) hs_));(case s4_=>exact (Kd.R_reads' HO_7.out).2.1);rintro e w66 ⟨rfl,hy0,hb,hkp⟩;refine ⟨_,rfl,?_⟩;replace HO_7:=Aside0.mk (Kd.R_mono (ok':=fun k_=>some k_≠(.slice (some ad185) x9_2.length co19 : Value).ownBlock∧some k_≠(v173 : Value).ownBlock) (Kd.R_keptB (HO_7.out) hkp (fun k_ hk_ hs_=>(hk_.1) hs_)) (fun k_ hk_=>⟨hk_.1.1,hk_.1.2⟩));replace HO_9:=Aside0.mk (Kd.R_reok rfl hy0 (fun k_ e_=>HO_9.out.1 k_ e_));replace HO_12:=Aside0.mk (Kd.R_mono (ok':=fun k_=>some k_≠(.slice (some ad187) t161.length co11 : Value).ownBlock∧some k_≠(.slice (some ad185) x9_2.length co19 : Value).ownBlock) (Kd.R_keptB (HO_12.out) hkp (fun k_ hk_ hs_=>(hk_.2) hs_)) (fun k_ hk_=>⟨hk_.1.1,hk_.1.2⟩));replace HB:=Aside0.mk hb;(try clear hkp);(try clear hy0);obtain ⟨i067,hi067,_,hsz67,_⟩:=info_parts info82;have hq067 : (0 : Int)≤(x13_2 : Int):=(oA);have hq167 : (x13_2 : Int) < ((wrap64 ((wrap64 (x13_2+(t161.length : Int)))+1)) : Int):=(oA);have hq267 : ((wrap64 ((wrap64 (x13_2+(t161.length : Int)))+1)) : Int)≤((x9_2.length : Int) : Int):=(oA);(try rw [hji3] at hq067);(try rw [hji3] at hq167);(try rw [hji3] at hq267);(try rw [hji16] at hq067);(try rw [hji16] at hq167);(try rw [hji16] at hq267);(try rw [hji23] at hq067);(try rw [hji23] at hq167);(try rw [hji23] at hq267);(try rw [hji26] at hq067);(try rw [hji26] at hq167);(try rw [hji26] at hq267);(try rw [hji29] at hq067);(try rw [hji29] at hq167);(try rw [hji29] at hq267);have hcut67:=cut_win (P:=Try.prog) 61 82 .i64 .i64 Try.underlying61 hi067 hsz67 (some ad185) x9_2.length co19 x13_2 (wrap64 (ji23+1)) hq067 hq167 hq267 (Kd.R_reads' HO_9.out).2.1;clear hi067 hsz67;replace hq067:=eq_true hq067;replace hq167:=eq_true hq167;replace hq267:=eq_true hq267;have hw68 : (0 : Int)≤(x13_2 : Int)∧(x13_2 : Int)+((t161.length : Int) : Int) < ((wrap64 ((wrap64 (x13_2+(t161.length : Int)))+1)) : Int)∧((wrap64 ((wrap64 (x13_2+(t161.length : Int)))+1)) : Int)≤(x9_2.length : Int):=⟨(oA),(oA),(oA)⟩;(try rw [hji3] at hw68);(try rw [hji16] at hw68);(try rw [hji23] at hw68);(try rw [hji26] at hw68);(try rw [hji29] at hw68);have HW68:=Aside0.mk hw68;clear hw68)|((with_reducible refine gate_callee (f:=84) rfl ?_);refine gL (some 153) Try.func84 #[.slice (Option.map (fun a_=>a_.add (x13_2 : Int).toNat) (some ad185)) (((wrap64 (ji23+1)) : Int).toNat - (x13_2 : Int).toNat) (co19 - (x13_2 : Int).toNat),.slice (some ad187) t161.length co11] ?_ (hargs:=by (try simp only [List.map_toArray,List.map_cons,List.map_nil]);first|done|(simp only [hji23];rfl)|rfl|(simp only [List.length_drop,List.length_take];rfl));(with_reducible refine (nat_back.calls (fun k_=>some k_=(.slice (some ad185) x9_2.length co19 : Value).ownBlock) (.slice (some ad185) x9_2.length co19) t193 _ _ t161 t194 w _ ?s1_ ?s2_ ?s3_ ?s4_ (some ad185) x9_2.length co19 x13_2 (wrap64 (ji23+1)) rfl HW68.out A61.out).mono ?_);(case s1_=>repeat (first|with_reducible exact HB.out|apply ba|apply bn|apply b1));(case s2_=>exact Kd.R_tight rfl HO_9.out);(case s3_=>exact Kd.C_kept_own (HO_7.out) (fun k_ hk_ hs_=>(hk_.1) hs_));(case s4_=>exact (Kd.R_reads' HO_7.out).2.1);rintro e w69 ⟨rfl,hy0,hb,hkp⟩;refine ⟨_,rfl,?_⟩;replace HO_7:=Aside0.mk (Kd.R_mono (ok':=fun k_=>some k_≠(.slice (some ad185) x9_2.length co19 : Value).ownBlock∧some k_≠(v173 : Value).ownBlock) (Kd.R_keptB (HO_7.out) hkp (fun k_ hk_ hs_=>(hk_.1) hs_)) (fun k_ hk_=>⟨hk_.1.1,hk_.1.2⟩));replace HO_9:=Aside0.mk (Kd.R_reok rfl hy0 (fun k_ e_=>HO_9.out.1 k_ e_));replace HO_12:=Aside0.mk (Kd.R_mono (ok':=fun k_=>some k_≠(.slice (some ad187) t161.length co11 : Value).ownBlock∧some k_≠(.slice (some ad185) x9_2.length co19 : Value).ownBlock) (Kd.R_keptB (HO_12.out) hkp (fun k_ hk_ hs_=>(hk_.2) hs_)) (fun k_ hk_=>⟨hk_.1.1,hk_.1.2⟩));replace HB:=Aside0.mk hb;(try clear hkp);(try clear hy0);have p63 : 0≤(x13_2 : Int):=oA;have q63 : (x13_2 : Int) < ((x12_2.length : Int) : Int):=oA;obtain ⟨go63,co63,eo63,gb63,gl63,cl63,HG63⟩:=Kd.R_form HO_12.out (by omega);(first|cases eo63|(injection eo63 with ea_ en_ ec_;(first|subst ea_|(injection ea_ with ea_;subst ea_));subst ec_;clear en_));have GB63:=Aside0.mk gb63;have GG63:=Aside0.mk HG63;clear gb63 gl63 HG63;obtain ⟨hx63_0,hf63_0⟩:=Kd.R_celln 0 HO_12.out (x13_2 : Int) p63 q63;replace p63:=eq_true p63;replace q63:=eq_true q63;obtain ⟨hy70_,hz70_⟩:=Kd.R_celln 0 HO_12.out (x13_2 : Int) (oA) (oA);have HP70:=Kd.R_putg HO_12.out (x13_2 : Int) ((IntKind.u64.wrap (x15_32 - 1)) % 4294967296))|((with_reducible refine gate_store (t:=82) (p:=158) rfl ?_);refine store_event (t:=82) (p:=158) (v:=?vo_w71) (w1:=(w69.setCell ⟨go63,(x13_2 : Int).toNat,none⟩ (.int .u32 ((IntKind.u64.wrap (x15_32 - 1)) % 4294967296)))) ?hg ?ho ?hn ?hr ?_;(case ho=>rfl);(case hg=>rfl);(case hn=>rfl);(case hr=>first|(go_simp;done)|(go_simp;(with_reducible rfl))|(go_simp;rfl)|(go_simp;simp only [hu,Int.emod_sub_emod]));intro w71 hw;have hg : w69.grownBy w71 (some go63):=(by rw [hw];exact HP70.2);have hp_ : Kd.R (Kd.int .u32) 82 w71 w.heap.size (fun k_=>some k_≠(.slice (some ad187) t161.length co11 : Value).ownBlock∧some k_≠(.slice (some ad185) x9_2.length co19 : Value).ownBlock) (.slice (some ⟨go63,0,none⟩) x12_2.length co63) y195:=(by rw [hw,Ny195.out];exact HP70.1);clear HP70;replace HO_7:=Aside0.mk (Kd.R_after (v:=(.slice (some ⟨go63,0,none⟩) x12_2.length co63)) (v1:=(.slice (some ⟨go63,0,none⟩) x12_2.length co63)) (ok:=(fun k_=>some k_≠(.slice (some ad185) x9_2.length co19 : Value).ownBlock)) (Ru HO_7.out) hg (.inl rfl));replace HO_9:=Aside0.mk (Kd.R_after (v:=(.slice (some ⟨go63,0,none⟩) x12_2.length co63)) (v1:=(.slice (some ⟨go63,0,none⟩) x12_2.length co63)) (ok:=(fun k_=>some k_≠(.slice (some ad187) t161.length co11 : Value).ownBlock)) (Ru HO_9.out) hg (.inl rfl));replace HO_12:=Aside0.mk hp_;replace HB:=Aside0.mk ((by rw [hw];exact below_set (HB.out) GB63.out : Below w.heap.size w w71));clear hg hw hp_))
          (try simp only [← hl9_2])
          go_roundg kj32
          case measure=>have:=HK1.out;have:=HK2.out;have:=HJ32.out;omega
          case rel=>exact ⟨(t194),(y195),(wrap64 (x13_2 - 1)),sD,H',⟨by have:=HK1.out;have:=HK2.out;have:=HJ32.out;omega⟩,⟨by (try simp only [hl9_2]);(with_reducible repeat (first|apply Ra|apply Rn|apply Rd));exact HO_7.out⟩,⟨by (try simp only [hl9_2]);(with_reducible repeat (first|apply Ra|apply Rn|apply Rd));exact HO_9.out⟩,⟨by (try simp only [hl9_2]);(with_reducible repeat (first|apply Ra|apply Rn|apply Rd));exact HO_12.out⟩,⟨bL HB.out⟩⟩
         ·replace c57:=Bool.eq_false_iff.mpr c57
          subst c57;rw [if_neg (show ¬ (false=true) by decide)] at H;refine ifT H ?_;clear H;intro c72 H;have c72b0 : decide (x13_2 < (x12_2.length : Int))=true:=decide_eq_true c72;clear c72;obtain ⟨y196,hy_⟩ : ∃ y_ : List Int,y_=(x12_2.set (x13_2 : Int).toNat ((x15_32) % 4294967296)):=⟨_,rfl⟩;replace H : (nat_long.l1 kj32 t160 t161 t193 (t161.length : Int) y196 (wrap64 (x13_2 - 1)))=some (r1,r2):=yH H;have Ny196:=Aside0.mk hy_;clear hy_;have H':=Aside0.mk H;clear H;obtain ⟨i074,hi074,_,hsz74,_⟩:=info_parts info82;have hq074 : (0 : Int)≤(x13_2 : Int):=(oA);have hq174 : (x13_2 : Int) < ((wrap64 ((wrap64 (x13_2+(t161.length : Int)))+1)) : Int):=(oA);have hq274 : ((wrap64 ((wrap64 (x13_2+(t161.length : Int)))+1)) : Int)≤((x9_2.length : Int) : Int):=(oA)
          (try rw [hji3] at hq074)
          (try rw [hji3] at hq174)
          (try rw [hji3] at hq274)
          (try rw [hji16] at hq074)
          (try rw [hji16] at hq174)
          (try rw [hji16] at hq274)
          (try rw [hji23] at hq074)
          (try rw [hji23] at hq174)
          (try rw [hji23] at hq274)
          (try rw [hji26] at hq074)
          (try rw [hji26] at hq174)
          (try rw [hji26] at hq274)
          (try rw [hji29] at hq074)
          (try rw [hji29] at hq174)
          (try rw [hji29] at hq274)
          have hcut74:=cut_win (P:=Try.prog) 61 82 .i64 .i64 Try.underlying61 hi074 hsz74 (some ad185) x9_2.length co19 x13_2 (wrap64 (ji23+1)) hq074 hq174 hq274 (Kd.R_reads' HO_9.out).2.1;clear hi074 hsz74;replace hq074:=eq_true hq074;replace hq174:=eq_true hq174;replace hq274:=eq_true hq274;have hw75 : (0 : Int)≤(x13_2 : Int)∧(x13_2 : Int)+((t161.length : Int) : Int) < ((wrap64 ((wrap64 (x13_2+(t161.length : Int)))+1)) : Int)∧((wrap64 ((wrap64 (x13_2+(t161.length : Int)))+1)) : Int)≤(x9_2.length : Int):=⟨(oA),(oA),(oA)⟩
          (try rw [hji3] at hw75)
          (try rw [hji16] at hw75)
          (try rw [hji23] at hw75)
          (try rw [hji26] at hw75)
          (try rw [hji29] at hw75)
          have HW75:=Aside0.mk hw75;clear hw75
          go_wp2_with (first|((with_reducible refine gate_callee (f:=83) rfl ?_);refine gL (some 142) Try.func83 #[.slice (Option.map (fun a_=>a_.add (x13_2 : Int).toNat) (some ad185)) (((wrap64 (ji23+1)) : Int).toNat - (x13_2 : Int).toNat) (co19 - (x13_2 : Int).toNat),.slice (some ad187) t161.length co11,.int .u64 x15_32] ?_ (hargs:=by (try simp only [List.map_toArray,List.map_cons,List.map_nil]);first|done|(simp only [hji23];rfl)|rfl|(simp only [List.length_drop,List.length_take];rfl));(with_reducible refine (nat_less.calls (fun k_=>some k_=(.slice (some ad185) x9_2.length co19 : Value).ownBlock) (.slice (some ad185) x9_2.length co19) x9_2 _ _ t161 x15_32 false t193 w _ ?s1_ ?s2_ ?s3_ ?s4_ (some ad185) x9_2.length co19 x13_2 (wrap64 (ji23+1)) rfl HW75.out A56.out).mono ?_);(case s1_=>repeat (first|with_reducible exact HB.out|apply ba|apply bn|apply b1));(case s2_=>exact Kd.R_tight rfl HO_9.out);(case s3_=>exact Kd.C_kept_own (HO_7.out) (fun k_ hk_ hs_=>(hk_.1) hs_));(case s4_=>exact (Kd.R_reads' HO_7.out).2.1);rintro e w76 ⟨rfl,hy0,hb,hkp⟩;refine ⟨_,rfl,?_⟩;replace HO_7:=Aside0.mk (Kd.R_mono (ok':=fun k_=>some k_≠(.slice (some ad185) x9_2.length co19 : Value).ownBlock∧some k_≠(v173 : Value).ownBlock) (Kd.R_keptB (HO_7.out) hkp (fun k_ hk_ hs_=>(hk_.1) hs_)) (fun k_ hk_=>⟨hk_.1.1,hk_.1.2⟩));replace HO_9:=Aside0.mk (Kd.R_reok rfl hy0 (fun k_ e_=>HO_9.out.1 k_ e_));replace HO_12:=Aside0.mk (Kd.R_mono (ok':=fun k_=>some k_≠(.slice (some ad187) t161.length co11 : Value).ownBlock∧some k_≠(.slice (some ad185) x9_2.length co19 : Value).ownBlock) (Kd.R_keptB (HO_12.out) hkp (fun k_ hk_ hs_=>(hk_.2) hs_)) (fun k_ hk_=>⟨hk_.1.1,hk_.1.2⟩));replace HB:=Aside0.mk hb;(try clear hkp);(try clear hy0);have p73 : 0≤(x13_2 : Int):=oA;have q73 : (x13_2 : Int) < ((x12_2.length : Int) : Int):=oA;obtain ⟨go73,co73,eo73,gb73,gl73,cl73,HG73⟩:=Kd.R_form HO_12.out (by omega);(first|cases eo73|(injection eo73 with ea_ en_ ec_;(first|subst ea_|(injection ea_ with ea_;subst ea_));subst ec_;clear en_));have GB73:=Aside0.mk gb73;have GG73:=Aside0.mk HG73;clear gb73 gl73 HG73;obtain ⟨hx73_0,hf73_0⟩:=Kd.R_celln 0 HO_12.out (x13_2 : Int) p73 q73;replace p73:=eq_true p73;replace q73:=eq_true q73;obtain ⟨hy77_,hz77_⟩:=Kd.R_celln 0 HO_12.out (x13_2 : Int) (oA) (oA);have HP77:=Kd.R_putg HO_12.out (x13_2 : Int) ((x15_32) % 4294967296))|((with_reducible refine gate_store (t:=82) (p:=158) rfl ?_);refine store_event (t:=82) (p:=158) (v:=?vo_w78) (w1:=(w76.setCell ⟨go73,(x13_2 : Int).toNat,none⟩ (.int .u32 ((x15_32) % 4294967296)))) ?hg ?ho ?hn ?hr ?_;(case ho=>rfl);(case hg=>rfl);(case hn=>rfl);(case hr=>first|(go_simp;done)|(go_simp;(with_reducible rfl))|(go_simp;rfl)|(go_simp;simp only [hu,Int.emod_sub_emod]));intro w78 hw;have hg : w76.grownBy w78 (some go73):=(by rw [hw];exact HP77.2);have hp_ : Kd.R (Kd.int .u32) 82 w78 w.heap.size (fun k_=>some k_≠(.slice (some ad187) t161.length co11 : Value).ownBlock∧some k_≠(.slice (some ad185) x9_2.length co19 : Value).ownBlock) (.slice (some ⟨go73,0,none⟩) x12_2.length co73) y196:=(by rw [hw,Ny196.out];exact HP77.1);clear HP77;replace HO_7:=Aside0.mk (Kd.R_after (v:=(.slice (some ⟨go73,0,none⟩) x12_2.length co73)) (v1:=(.slice (some ⟨go73,0,none⟩) x12_2.length co73)) (ok:=(fun k_=>some k_≠(.slice (some ad185) x9_2.length co19 : Value).ownBlock)) (Ru HO_7.out) hg (.inl rfl));replace HO_9:=Aside0.mk (Kd.R_after (v:=(.slice (some ⟨go73,0,none⟩) x12_2.length co73)) (v1:=(.slice (some ⟨go73,0,none⟩) x12_2.length co73)) (ok:=(fun k_=>some k_≠(.slice (some ad187) t161.length co11 : Value).ownBlock)) (Ru HO_9.out) hg (.inl rfl));replace HO_12:=Aside0.mk hp_;replace HB:=Aside0.mk ((by rw [hw];exact below_set (HB.out) GB73.out : Below w.heap.size w w78));clear hg hw hp_))
          (try simp only [← hl9_2])
          go_roundg kj32
          case measure=>have:=HK1.out;have:=HK2.out;have:=HJ32.out;omega
          case rel=>exact ⟨(t193),(y196),(wrap64 (x13_2 - 1)),sD,H',⟨by have:=HK1.out;have:=HK2.out;have:=HJ32.out;omega⟩,⟨by (try simp only [hl9_2]);(with_reducible repeat (first|apply Ra|apply Rn|apply Rd));exact HO_7.out⟩,⟨by (try simp only [hl9_2]);(with_reducible repeat (first|apply Ra|apply Rn|apply Rd));exact HO_9.out⟩,⟨by (try simp only [hl9_2]);(with_reducible repeat (first|apply Ra|apply Rn|apply Rd));exact HO_12.out⟩,⟨bL HB.out⟩⟩
      ·rw [if_neg c22] at H
       have c22b0 : decide (0≤x13_2)=false:=decide_eq_false c22;clear c22;refine biT H ?_;clear H;intro t175 A79 H;(try dsimp only at H);replace A79:=Aside0.mk A79;refine ifT H ?_;clear H;intro c80 H;have c80b0:=eq_true c80;have c80b1 : decide (0≤(t161.length : Int))=true:=decide_eq_true c80;clear c80;refine ifT H ?_;clear H;intro c81 H;have c81b0:=eq_true c81;have c81b1 : decide ((t161.length : Int)≤(x9_2.length : Int))=true:=decide_eq_true c81;clear c81;obtain ⟨y178,hy_⟩ : ∃ y_ : List Int,y_=(x9_2.take ((t161.length : Int) : Int).toNat):=⟨_,rfl⟩;replace H : ((nat_shr.f k2 y178 t160).bind fun t182=>(some (t175,t182)))=some (r1,r2):=yH H;have Ny178:=Aside0.mk hy_;clear hy_;refine biT H ?_;clear H;intro t182 A82 H;(try dsimp only at H);replace A82:=Aside0.mk A82;simp only [Option.some.injEq,Prod.mk.injEq] at H;obtain ⟨rfl,rfl⟩:=H
       try go_wp2
       replace HO_7:=Aside0.mk (Rd HO_7.out);replace HO_9:=Aside0.mk (Rd HO_9.out);replace HO_12:=Aside0.mk (Rd HO_12.out);replace HB:=Aside0.mk (b1 HB.out);have q84 : ((t161.length : Int) : Int)≤((x9_2.length : Int) : Int):=oA;obtain ⟨i084,hi084,_,hsz84,_⟩:=info_parts info82;have hroom84 : x9_2.length≤co19:=(Kd.R_reads' HO_9.out).2.1;have hC84 : Kd.C (Kd.int .u32) _ Ao19 x9_2.length x9_2:=(Kd.R_reads' HO_9.out).2.2;have hcut84:=cut_to (P:=Try.prog) 61 82 .i64 Try.underlying61 hi084 Ao19 x9_2.length co19 (t161.length : Int) (oA) q84 hroom84;have hr84:=Kd.C_take (m:=((t161.length : Int) : Int).toNat) hC84 (by omega);have hy84 : y178.length=((t161.length : Int) : Int).toNat:=(by rw [Ny178.out,List.length_take];omega);rw [← Ny178.out] at hr84;rw [← hy84] at hcut84;have HR181:=Aside0.mk hr84;have HC181:=Aside0.mk (show y178.length≤co19 from by omega);clear hr84 hC84 hroom84 hi084 hsz84;have KY84:=Aside0.mk hy84;clear hy84;have KL84:=Aside0.mk (show ((t161.length : Int) : Int).toNat≤x9_2.length from by omega);replace q84:=eq_true q84;obtain ⟨Ao85,co85,eo85⟩:=Kd.R_slice HO_12.out
       (first|subst eo85|(injection eo85 with f1_ f2_ f3_;have f4_:=f1_.symm;have f5_:=f3_.symm;clear f1_ f2_ f3_;subst f4_;subst f5_))
       refine sT (n:=9) (S:=fun w'=>True) (ds:=[]) (by kernel_rfl) rfl trivial (fun hHeld=>?_);refine with_tabW nat_long.tab21 nat_long.bits21 (fun HT_ HW_=>?_);generalize wr.drew=w83 at HO_7 HO_9 HO_12 HB HR181 hHeld ⊢;refine zp 0 159 ?_;refine zp 2 161 ?_;refine zp 3 162 ?_;refine zp 4 163 ?_;refine zp 5 164 ?_
       refine oN 1 (some 160) rfl rfl fun K hK=>?_
       refine gS Try.func70 #[.slice Ao85 x12_2.length co85] ?_
       with_reducible refine (nat_trim.calls _ _ x12_2 t175 _ ?s1_ ?s2_ A79.out).mono ?_
       (case s1_=>exact Cu (Kd.R_reads' HO_12.out).2.2)
       (case s2_=>exact (Kd.R_reads' HO_12.out).2.1)
       rintro e w' ⟨rfl,⟨nd,rfl⟩⟩;refine ⟨_,rfl,?_⟩;have HO177:=Aside0.mk (nat_trim.R HO_12.out A79.out);clear HO_12;have n_:=HO_7.out
       (try rw [own_same Ao85 x12_2.length co85 t175.length t175.length] at n_)
       clear HO_7;have HO_7:=Aside0.mk n_;clear n_;have n_:=HO_9.out
       (try rw [own_same Ao85 x12_2.length co85 t175.length t175.length] at n_)
       clear HO_9;have HO_9:=Aside0.mk n_;clear n_;refine hK.out _ _ trivial (fun hHeld=>?_);clear hK K;refine nZ ?_
       refine oN 6 (some 165) rfl rfl fun K hK=>?_
       refine gS Try.func85 #[.slice Ao19 y178.length co19,.int .i64 t160] ?_
       with_reducible refine (nat_shr.calls k2 _ _ y178 t160 t182 _ ?s1_ ?s2_ A82.out).mono ?_
       (case s1_=>exact Cu HR181.out)
       (case s2_=>exact HC181.out)
       rintro e w86 ⟨v183,rfl,ho0,hb⟩;refine ⟨_,rfl,?_⟩;have HO184:=Aside0.mk (Kd.R_lower (Kd.R_new' (Kd.R_new' (Kd.R_new' ho0 (Kd.R_lt (Ru HO_7.out))) (Kd.R_lt (Ru HO_9.out))) (Kd.R_lt (Ru HO177.out))) (below_size (bL HB.out)));replace HO_7:=Aside0.mk (Kd.R_elder' (Ru HO_7.out) (Kd.R_base ho0) hb);replace HO_9:=Aside0.mk (Kd.R_elder' (Ru HO_9.out) (Kd.R_base ho0) hb);replace HO177:=Aside0.mk (Kd.R_elder' (Ru HO177.out) (Kd.R_base ho0) hb);replace HR181:=Aside0.mk (Kd.C_below (Cu HR181.out) hb);replace HB:=bH HB hb
       (try clear hb)
       (try clear hb2)
       (try clear hk)
       (try clear hi)
       (try clear ho0)
       refine hK.out _ _ trivial (fun hHeld=>?_);clear hK K;refine nZ ?_;refine zp 7 4 ?_;refine zp 8 5 ?_;refine dN ?_
       try go_wp2
       go_ret2
       exact ⟨_,_,by first|rfl|(simp [errW_none,errW_some] <;> rfl)|(simp only [← hji3,← hji16];first|rfl|(simp [errW_none,errW_some] <;> rfl))|(simp [*,errW_none,errW_some] <;> rfl),Kd.R_mono (Ru HO177.out) (fun _ hk=>hk.2),Kd.R_mono (Ru HO184.out) (fun _ hk=>hk.2),bL HB.out⟩
theorem bits_Div32.out (a0 a1 : Int) (h0 : 0≤a0∧a0 < 4294967296) (h1 : 0≤a1∧a1 < 4294967296) : Go.bits .or .u64 (a0 * 4294967296) a1=a0 * 4294967296+a1 :=
 bits_join .u64 64 (Nat.le_refl _) (fun n h0 h1=>by simp only [IntKind.wrap,IntKind.bits,IntKind.signed];simp;omega) 32 _ _ (by omega) (by omega) (by omega) h1.1 h1.2 (by omega)
theorem bits_Div32.calls (a0 : Int) (a1 : Int) (a2 : Int) (r1 : Int) (r2 : Int) (w : World) (h : bits_Div32.f a0 a1 a2=some (r1,r2)) :
  Calls Try.prog 81 #[.int .u32 a0,.int .u32 a1,.int .u32 a2] w fun e w'=>e=.returned (.tuple #[.int .u32 r1,.int .u32 r2])∧Drawn0 w w':=by
 unfold bits_Div32.f at h
 by_cases hc : (0≤a0∧a0 < a2)∧(0≤a1∧a1 < 4294967296)∧a2 < 4294967296
 case neg=>rw [if_neg hc] at h;cases h
 rw [if_pos hc] at h;simp only [Option.some.injEq,Prod.mk.injEq] at h;obtain ⟨rfl,rfl⟩:=h;obtain ⟨⟨h0,hlt⟩,⟨h1,h3⟩,h2⟩:=hc;have hb:=bits_Div32.out a0 a1 ⟨h0,by omega⟩ ⟨h1,h3⟩;have c1 : (a2 != 0)=true:=bne_iff_ne.mpr (by omega);have c1' : (a2 == 0)=false:=beq_eq_false_iff_ne.mpr (by omega);have c2 : decide (a2≤a0)=false:=decide_eq_false (by omega)
 have p2 : 0≤a2:=by omega
 have p0 : a0 < 4294967296:=by omega
 have hq : (a0 * 4294967296+a1) / a2 < 4294967296:=Int.ediv_lt_of_lt_mul (by omega) (by omega);have hr : (a0 * 4294967296+a1) % a2 < 4294967296:=Int.lt_trans (Int.emod_lt_of_pos _ (by omega)) h2;have hr0 : 0≤(a0 * 4294967296+a1) % a2:=Int.emod_nonneg _ (by omega);have hq0 : 0≤(a0 * 4294967296+a1) / a2:=Int.ediv_nonneg (by omega) (by omega)
 go_enter Try.func81,Try.ntmps81
 go_wp2
 repeat (go_quiet (fail);try go_wp2)
 go_ret2
 exact ⟨by rfl,by repeat (first|exact Drawn0.refl _|apply Drawn0.step)⟩
theorem nat_small.calls (k : Nat) (A0 : Option Addr) (c0 : Nat) (l0 : List Int) (a1 : Int) (r1 : List Int) (r2 : List Int) (w : World) (hr0 : Kd.C (Kd.int .u32) w A0 l0.length l0) (hc0 : l0.length≤c0) (h : nat_small.f k l0 a1=some (r1,r2)) :
  Calls Try.prog 75 #[.slice A0 l0.length c0,.int .u32 a1] w fun e w'=>∃ v0_ v1_ : Value,e=.returned (.tuple #[v0_,v1_])∧Kd.R (Kd.int .u32) 82 w' w.heap.size (fun k_=>some k_≠(v1_ : Value).ownBlock) v0_ r1∧Kd.R (Kd.int .u32) 82 w' w.heap.size (fun k_=>some k_≠(v0_ : Value).ownBlock) v1_ r2∧Below w.heap.size w w':=by
 have HR0:=Aside0.mk hr0;have HC0:=Aside0.mk hc0;clear hr0 hc0;have HB:=Aside0.mk (Below.refl w.heap.size w);have H : (if 0≤(l0.length : Int) then (if ((l0.length : Int) : Int).toNat≤70368744177664 then (nat_small.l0 k l0 a1 (List.replicate ((l0.length : Int) : Int).toNat 0) 0 (wrap64 ((l0.length : Int) - 1))) else (none)) else (none))=some (r1,r2):=h;clear h;refine ifT H ?_;clear H;intro c3 H;have c3b0:=eq_true c3;have c3b1 : decide (0≤(l0.length : Int))=true:=decide_eq_true c3;clear c3;refine ifT H ?_;clear H;intro c4 H;have c4b0:=eq_true c4;have c4b1 : decide (((l0.length : Int) : Int).toNat≤70368744177664)=true:=decide_eq_true c4;clear c4;obtain ⟨y117,hy_⟩ : ∃ y_ : List Int,y_=(List.replicate ((l0.length : Int) : Int).toNat 0):=⟨_,rfl⟩;replace H : (nat_small.l0 k l0 a1 y117 0 (wrap64 ((l0.length : Int) - 1)))=some (r1,r2):=yH H;have Ny117:=Aside0.mk hy_;clear hy_;have H':=Aside0.mk H;clear H
 go_enter Try.func75,Try.ntmps75
 go_wp2_with (first|((with_reducible refine gate_dst (N:=11) rfl ?_);refine Kd.R_make (Kd.int .u32) _ 82 rfl (N:=11) rfl 61 _ _ rfl (l0.length : Int) rfl rfl Try.underlying61 (.int .u32 0) 4 info82 rfl (by decide) (by omega) 0 (ok:=fun _=>True) (okp:=fun _=>True) rfl (fun _ hk=>hk) trivial (oA) (Nat.le_trans (Nat.mul_le_mul_right _ (oA : (l0.length : Int).toNat≤70368744177664)) (by omega)) (Below.refl _ _) (Nat.le_refl _) ?_;intro v118 w5 ho6 hb hg_ hnew_;clear hg_ hnew_;(first|rw [← Ny117.out] at ho6|(simp only [Int.reduceToNat] at ho6;rw [← Ny117.out] at ho6));have HO119:=Aside0.mk (Kd.R_lower ho6 (below_size (bL HB.out)));replace HB:=bH HB hb;clear hb ho6))
 go_loopg [7,8] k (fun kq v7 v8 w'=>∃ (x6_1 : List Int) (x7_1 : Int) (x8_1 : Int),v7=.int .u32 x7_1∧v8=.int .i64 x8_1∧Aside0 (nat_small.l0 kq l0 a1 x6_1 x7_1 x8_1=some (r1,r2))∧Aside0 (kq≤k)∧Aside0 (Kd.R (Kd.int .u32) 82 w' w.heap.size (fun _=>True) v118 x6_1)∧Aside0 (Below w.heap.size w w'))
 case atStart=>exact ⟨(y117),(0),(wrap64 ((l0.length : Int) - 1)),sD,sD,H',⟨Nat.le_refl _⟩,⟨Ru HO119.out⟩,⟨bL HB.out⟩⟩
 case round =>
  clear H';obtain ⟨x6_1,x7_1,x8_1,rfl,rfl,HA,HK1,HO_6,HB⟩:=hrel
  cases gk with
  | zero=>exact absurd HA.out (by simp [nat_small.l0])
  | succ k1 =>
   have H:=HA.out;clear HA;simp only [nat_small.l0] at H
   by_cases c7 : x8_1 ≥ 0
   ·rw [if_pos c7] at H
    have c7b0 : decide (0≤x8_1)=true:=decide_eq_true c7;clear c7;refine ifT H ?_;clear H;intro c8 H;have c8b0 : decide (0≤x8_1)=true:=decide_eq_true c8;clear c8;refine ifT H ?_;clear H;intro c9 H;have c9b0 : decide (x8_1 < (l0.length : Int))=true:=decide_eq_true c9;clear c9;refine biT H ?_;clear H;rintro ⟨t121,t122⟩ A10 H;(try dsimp only at H);replace A10:=Aside0.mk A10;refine ifT H ?_;clear H;intro c11 H;have c11b0 : decide (x8_1 < (x6_1.length : Int))=true:=decide_eq_true c11;clear c11;obtain ⟨y123,hy_⟩ : ∃ y_ : List Int,y_=(x6_1.set (x8_1 : Int).toNat t121):=⟨_,rfl⟩;replace H : (nat_small.l0 k1 l0 a1 y123 t122 (wrap64 (x8_1 - 1)))=some (r1,r2):=yH H;have Ny123:=Aside0.mk hy_;clear hy_;have H':=Aside0.mk H;clear H;have p120 : 0≤(x8_1 : Int):=oA;have q120 : x8_1 < (l0.length : Int):=oA;obtain ⟨ad120,e120,hx120_0⟩:=Kd.at_int HR0.out x8_1 p120 q120;cases e120;replace hx120_0:=(HB.out.cell (World.block_lt_of_cell? w _ hx120_0)).trans hx120_0;replace p120:=eq_true p120;replace q120:=eq_true q120
    go_wp2_with (first|((with_reducible refine gate_callee (f:=81) rfl ?_);refine gL (some 28) Try.func81 #[.int .u32 x7_1,.int .u32 (rd l0 x8_1),.int .u32 a1] ?_;(with_reducible refine (bits_Div32.calls x7_1 (rd l0 x8_1) a1 t121 t122 _ A10.out).mono ?_);rintro e w' ⟨rfl,⟨nd,rfl⟩⟩;refine ⟨_,rfl,?_⟩;(try (rw [drewN_self wr];generalize hq_ : World.drewN wr _=wr;have n0_ : Aside0 (Kd.R (Kd.int .u32) 82 wr w.heap.size (fun _=>True) v118 x6_1):=⟨by rw [← hq_];exact (Ru HO_6.out)⟩;have n1_ : Aside0 (Below w.heap.size w wr):=⟨by rw [← hq_];exact (bL HB.out)⟩;clear HO_6 HB hq_;have HO_6:=n0_;have HB:=n1_;clear n0_ n1_));have p12 : 0≤(x8_1 : Int):=oA;have q12 : (x8_1 : Int) < ((x6_1.length : Int) : Int):=oA;obtain ⟨go12,co12,eo12,gb12,gl12,cl12,HG12⟩:=Kd.R_form HO_6.out (by omega);(first|cases eo12|(injection eo12 with ea_ en_ ec_;(first|subst ea_|(injection ea_ with ea_;subst ea_));subst ec_;clear en_));have GB12:=Aside0.mk gb12;have GG12:=Aside0.mk HG12;clear gb12 gl12 HG12;obtain ⟨hx12_0,hf12_0⟩:=Kd.R_celln 0 HO_6.out (x8_1 : Int) p12 q12;replace p12:=eq_true p12;replace q12:=eq_true q12;obtain ⟨hy13_,hz13_⟩:=Kd.R_celln 0 HO_6.out (x8_1 : Int) (oA) (oA);have HP13:=Kd.R_putg HO_6.out (x8_1 : Int) t121)|((with_reducible refine gate_store (t:=82) (p:=31) rfl ?_);refine store_event (t:=82) (p:=31) (v:=?vo_w14) (w1:=(wr.setCell ⟨go12,(x8_1 : Int).toNat,none⟩ (.int .u32 t121))) ?hg ?ho ?hn ?hr ?_;(case ho=>rfl);(case hg=>rfl);(case hn=>rfl);(case hr=>first|(go_simp;done)|(go_simp;(with_reducible rfl))|(go_simp;rfl)|(go_simp;simp only [hu,Int.emod_sub_emod]));intro w14 hw;have hg : wr.grownBy w14 (some go12):=(by rw [hw];exact HP13.2);have hp_ : Kd.R (Kd.int .u32) 82 w14 w.heap.size (fun _=>True) (.slice (some ⟨go12,0,none⟩) x6_1.length co12) y123:=(by rw [hw,Ny123.out];exact HP13.1);clear HP13;replace HO_6:=Aside0.mk hp_;replace HB:=Aside0.mk ((by rw [hw];exact below_set (HB.out) GB12.out : Below w.heap.size w w14));clear hg hw hp_))
    go_roundg k1
    case measure=>have:=HK1.out;omega
    case rel=>exact ⟨(y123),(t122),(wrap64 (x8_1 - 1)),sD,sD,H',⟨by have:=HK1.out;omega⟩,⟨Ru HO_6.out⟩,⟨bL HB.out⟩⟩
   ·rw [if_neg c7] at H
    have c7b0 : decide (0≤x8_1)=false:=decide_eq_false c7;clear c7;refine biT H ?_;clear H;intro t124 A15 H;(try dsimp only at H);replace A15:=Aside0.mk A15;obtain ⟨y127,hy_⟩ : ∃ y_ : List Int,y_=(([x7_1] : List Int)):=⟨_,rfl⟩;replace H : ((nat_trim.f y127).bind fun t130=>(some (t124,t130)))=some (r1,r2):=yH H;have Ny127:=Aside0.mk hy_;clear hy_;refine biT H ?_;clear H;intro t130 A16 H;(try dsimp only at H);replace A16:=Aside0.mk A16;simp only [Option.some.injEq,Prod.mk.injEq] at H;obtain ⟨rfl,rfl⟩:=H;obtain ⟨Ao17,co17,eo17⟩:=Kd.R_slice HO_6.out;subst eo17
    go_wp2_with (first|((with_reducible refine gate_callee (f:=70) rfl ?_);refine gL (some 33) Try.func70 #[.slice Ao17 x6_1.length co17] ?_;(with_reducible refine (nat_trim.calls _ _ x6_1 t124 _ ?s1_ ?s2_ A15.out).mono ?_);(case s1_=>exact Cu (Kd.R_reads' HO_6.out).2.2);(case s2_=>exact (Kd.R_reads' HO_6.out).2.1);rintro e w' ⟨rfl,⟨nd,rfl⟩⟩;refine ⟨_,rfl,?_⟩;have HO126:=Aside0.mk (nat_trim.R HO_6.out A15.out);clear HO_6)|((with_reducible refine gate_dst (N:=35) rfl ?_);refine Kd.R_lit (Kd.int .u32) _ 82 ?hg (N:=35) ?hd (xs:=([x7_1] : List Int)) (inner:=[.int .u32 x7_1]) (ok:=fun _=>True) (okp:=fun _=>True) ?hr ?hp (fun _ hk=>hk) trivial (Below.refl _ _) (Nat.le_refl _) (by simp) ?_;(case hd=>rfl);(case hg=>rfl);(case hr=>first|(go_simp;done)|(go_simp;(with_reducible rfl))|(go_simp;rfl)|(go_simp;simp only [hu,Int.emod_sub_emod]));(case hp=>exact (Reps.one (show Kd.M (Kd.int .u32) _ _ _ x7_1 [.int .u32 x7_1] from rfl) (Reps.none _ _)));intro v128 w18 ho19 hb hg_ hnew_;clear hg_ hnew_;(first|rw [← Ny127.out] at ho19|(simp only [Int.reduceToNat] at ho19;rw [← Ny127.out] at ho19));have HO129:=Aside0.mk (Kd.R_lower (Kd.R_new' ho19 (Kd.R_lt (Ru HO126.out))) (below_size (bL HB.out)));replace HO126:=Aside0.mk (Kd.R_elder' (Ru HO126.out) (Kd.R_base ho19) hb);replace HB:=bH HB hb;clear hb ho19;obtain ⟨Ao20,co20,eo20⟩:=Kd.R_slice HO129.out;subst eo20)|((with_reducible refine gate_callee (f:=70) rfl ?_);refine gL (some 36) Try.func70 #[.slice Ao20 y127.length co20] ?_;(with_reducible refine (nat_trim.calls _ _ y127 t130 _ ?s1_ ?s2_ A16.out).mono ?_);(case s1_=>exact Cu (Kd.R_reads' HO129.out).2.2);(case s2_=>exact (Kd.R_reads' HO129.out).2.1);rintro e w' ⟨rfl,⟨nd,rfl⟩⟩;refine ⟨_,rfl,?_⟩;have HO132:=Aside0.mk (nat_trim.R HO129.out A16.out);clear HO129;have n_:=HO126.out;(try rw [own_same Ao20 y127.length co20 t130.length t130.length] at n_);clear HO126;have HO126:=Aside0.mk n_;clear n_))
    go_ret2
    exact ⟨_,_,eW,Kd.R_mono (Ru HO126.out) (fun _ hk=>hk.2),Kd.R_mono (Ru HO132.out) (fun _ hk=>hk.2),bL HB.out⟩
theorem nat_DivMod.calls (k : Nat) (A0 : Option Addr) (c0 : Nat) (l0 : List Int) (A1 : Option Addr) (c1 : Nat) (l1 : List Int) (r1 : List Int) (r2 : List Int) (r3 : Bool) (w : World) (hr0 : Kd.C (Kd.int .u32) w A0 l0.length l0) (hc0 : l0.length≤c0) (hr1 : Kd.C (Kd.int .u32) w A1 l1.length l1) (hc1 : l1.length≤c1) (h : nat_DivMod.f k l0 l1=some (r1,r2,r3)) :
  Calls Try.prog 62 #[.slice A0 l0.length c0,.slice A1 l1.length c1] w fun e w'=>∃ v0_ v1_ : Value,e=.returned (.tuple #[v0_,v1_,.bool r3])∧Kd.R (Kd.int .u32) 82 w' w.heap.size (fun k_=>some k_≠(v1_ : Value).ownBlock) v0_ r1∧Kd.R (Kd.int .u32) 82 w' w.heap.size (fun k_=>some k_≠(v0_ : Value).ownBlock) v1_ r2∧Below w.heap.size w w':=by
 have HR0:=Aside0.mk hr0;have HC0:=Aside0.mk hc0;clear hr0 hc0;have HR1:=Aside0.mk hr1;have HC1:=Aside0.mk hc1;clear hr1 hc1;have HB:=Aside0.mk (Below.refl w.heap.size w);have H : ((nat_trim.f l0).bind fun t197=>((nat_trim.f l1).bind fun t199=>(if (t199.length : Int)=0 then (some (([] : List Int),([] : List Int),false)) else ((nat_Cmp.f k t197 t199).bind fun t201=>(if t201 < 0 then ((nat_Norm.f t197).bind fun t202=>(some (([] : List Int),t202,true))) else (if (t199.length : Int)=1 then (if 0 < (t199.length : Int) then ((nat_small.f k t197 (rd t199 0)).bind fun bt206=>(some (bt206.1,bt206.2,true))) else (none)) else ((nat_long.f k t197 t199).bind fun bt212=>(some (bt212.1,bt212.2,true)))))))))=some (r1,r2,r3):=h;clear h;refine biT H ?_;clear H;intro t197 A3 H;(try dsimp only at H);replace A3:=Aside0.mk A3;refine biT H ?_;clear H;intro t199 A4 H;(try dsimp only at H);replace A4:=Aside0.mk A4
 by_cases c5 : (t199.length : Int)=0
 ·rw [if_pos c5] at H
  have c5b0 : ((t199.length : Int) == 0)=true:=beq_iff_eq.mpr c5;have c5b1 : ((t199.length : Int) != 0)=false:=bne_eq_false_iff_eq.mpr c5;clear c5;simp only [Option.some.injEq,Prod.mk.injEq] at H;obtain ⟨rfl,rfl,rfl⟩:=H
  go_enter Try.func62,Try.ntmps62
  go_wp2_with (first|((with_reducible refine gate_callee (f:=70) rfl ?_);refine gL (some 12) Try.func70 #[.slice A0 l0.length c0] ?_;(with_reducible refine (nat_trim.calls _ _ l0 t197 _ ?s1_ ?s2_ A3.out).mono ?_);(case s1_=>exact Cu HR0.out);(case s2_=>exact HC0.out);rintro e w' ⟨rfl,⟨nd,rfl⟩⟩;refine ⟨_,rfl,?_⟩;have HR198:=Aside0.mk (nat_trim.C HR0.out A3.out);have HC198:=Aside0.mk (Nat.le_refl t197.length))|((with_reducible refine gate_callee (f:=70) rfl ?_);refine gL (some 14) Try.func70 #[.slice A1 l1.length c1] ?_;(with_reducible refine (nat_trim.calls _ _ l1 t199 _ ?s1_ ?s2_ A4.out).mono ?_);(case s1_=>exact Cu HR1.out);(case s2_=>exact HC1.out);rintro e w' ⟨rfl,⟨nd,rfl⟩⟩;refine ⟨_,rfl,?_⟩;have HR200:=Aside0.mk (nat_trim.C HR1.out A4.out);have HC200:=Aside0.mk (Nat.le_refl t199.length)))
  go_ret3
  exact ⟨_,_,eW,by first|exact Kd.R_nil _ _ _ _ _|exact Kd.N_nil _ _ _ _ _|exact Kd.V_nil _ _ _ _ _|exact Kd.Q_nil _ _ _ _ _|exact Kd.S_nil _ _ _ _ _,by first|exact Kd.R_nil _ _ _ _ _|exact Kd.N_nil _ _ _ _ _|exact Kd.V_nil _ _ _ _ _|exact Kd.Q_nil _ _ _ _ _|exact Kd.S_nil _ _ _ _ _,bL HB.out⟩
 ·rw [if_neg c5] at H
  have c5b0 : ((t199.length : Int) == 0)=false:=beq_eq_false_iff_ne.mpr c5;have c5b1 : ((t199.length : Int) != 0)=true:=bne_iff_ne.mpr c5
  have c5b2 : ¬ (t199=[]):=fun h_=>c5 (by rw [h_];rfl)
  refine biT H ?_;clear H;intro t201 A6 H;(try dsimp only at H);replace A6:=Aside0.mk A6
  by_cases c7 : t201 < 0
  ·rw [if_pos c7] at H
   have c7b0 : decide (t201 < 0)=true:=decide_eq_true c7;clear c7;refine biT H ?_;clear H;intro t202 A8 H;(try dsimp only at H);replace A8:=Aside0.mk A8;simp only [Option.some.injEq,Prod.mk.injEq] at H;obtain ⟨rfl,rfl,rfl⟩:=H
   go_enter Try.func62,Try.ntmps62
   go_wp2_with (first|((with_reducible refine gate_callee (f:=70) rfl ?_);refine gL (some 12) Try.func70 #[.slice A0 l0.length c0] ?_;(with_reducible refine (nat_trim.calls _ _ l0 t197 _ ?s1_ ?s2_ A3.out).mono ?_);(case s1_=>exact Cu HR0.out);(case s2_=>exact HC0.out);rintro e w' ⟨rfl,⟨nd,rfl⟩⟩;refine ⟨_,rfl,?_⟩;have HR198:=Aside0.mk (nat_trim.C HR0.out A3.out);have HC198:=Aside0.mk (Nat.le_refl t197.length))|((with_reducible refine gate_callee (f:=70) rfl ?_);refine gL (some 14) Try.func70 #[.slice A1 l1.length c1] ?_;(with_reducible refine (nat_trim.calls _ _ l1 t199 _ ?s1_ ?s2_ A4.out).mono ?_);(case s1_=>exact Cu HR1.out);(case s2_=>exact HC1.out);rintro e w' ⟨rfl,⟨nd,rfl⟩⟩;refine ⟨_,rfl,?_⟩;have HR200:=Aside0.mk (nat_trim.C HR1.out A4.out);have HC200:=Aside0.mk (Nat.le_refl t199.length))|((with_reducible refine gate_callee (f:=72) rfl ?_);refine gL (some 20) Try.func72 #[.slice A0 t197.length t197.length,.slice A1 t199.length t199.length] ?_;(with_reducible refine (nat_Cmp.calls k _ _ t197 _ _ t199 t201 _ ?s1_ ?s2_ ?s3_ ?s4_ A6.out).mono ?_);(case s1_=>exact Cu HR198.out);(case s2_=>exact HC198.out);(case s3_=>exact Cu HR200.out);(case s4_=>exact HC200.out);rintro e w' ⟨rfl,⟨nd,rfl⟩⟩;refine ⟨_,rfl,?_⟩)|((with_reducible refine gate_callee (f:=60) rfl ?_);refine gL (some 23) Try.func60 #[.slice A0 t197.length t197.length] ?_;(with_reducible refine (nat_Norm.calls _ _ t197 t202 _ ?s1_ ?s2_ A8.out).mono ?_);(case s1_=>exact Cu HR198.out);(case s2_=>exact HC198.out);rintro e w9 ⟨v203,rfl,ho0,hb⟩;refine ⟨_,rfl,?_⟩;have HO204:=Aside0.mk (Kd.R_lower ho0 (below_size (bL HB.out)));replace HB:=bH HB hb))
   go_ret3
   exact ⟨_,_,eW,by first|exact Kd.R_nil _ _ _ _ _|exact Kd.N_nil _ _ _ _ _|exact Kd.V_nil _ _ _ _ _|exact Kd.Q_nil _ _ _ _ _|exact Kd.S_nil _ _ _ _ _,Kd.R_mono (Ru HO204.out) (fun _ hk=>(by simp [Value.ownBlock])),bL HB.out⟩
  ·rw [if_neg c7] at H
   have c7b0 : decide (t201 < 0)=false:=decide_eq_false c7;clear c7
   by_cases c10 : (t199.length : Int)=1
   ·rw [if_pos c10] at H
    have c10b0 : ((t199.length : Int) == 1)=true:=beq_iff_eq.mpr c10;have c10b1 : ((t199.length : Int) != 1)=false:=bne_eq_false_iff_eq.mpr c10;clear c10;refine ifT H ?_;clear H;intro c11 H;have c11b0 : decide (0 < (t199.length : Int))=true:=decide_eq_true c11;have c11b1 : decide (0 < t199.length)=true:=decide_eq_true (by omega);clear c11;refine biT H ?_;clear H;rintro ⟨t206,t207⟩ A12 H;(try dsimp only at H);replace A12:=Aside0.mk A12;simp only [Option.some.injEq,Prod.mk.injEq] at H;obtain ⟨rfl,rfl,rfl⟩:=H
    go_enter Try.func62,Try.ntmps62
    go_wp2_with (first|((with_reducible refine gate_callee (f:=70) rfl ?_);refine gL (some 12) Try.func70 #[.slice A0 l0.length c0] ?_;(with_reducible refine (nat_trim.calls _ _ l0 t197 _ ?s1_ ?s2_ A3.out).mono ?_);(case s1_=>exact Cu HR0.out);(case s2_=>exact HC0.out);rintro e w' ⟨rfl,⟨nd,rfl⟩⟩;refine ⟨_,rfl,?_⟩;have HR198:=Aside0.mk (nat_trim.C HR0.out A3.out);have HC198:=Aside0.mk (Nat.le_refl t197.length))|((with_reducible refine gate_callee (f:=70) rfl ?_);refine gL (some 14) Try.func70 #[.slice A1 l1.length c1] ?_;(with_reducible refine (nat_trim.calls _ _ l1 t199 _ ?s1_ ?s2_ A4.out).mono ?_);(case s1_=>exact Cu HR1.out);(case s2_=>exact HC1.out);rintro e w' ⟨rfl,⟨nd,rfl⟩⟩;refine ⟨_,rfl,?_⟩;have HR200:=Aside0.mk (nat_trim.C HR1.out A4.out);have HC200:=Aside0.mk (Nat.le_refl t199.length))|((with_reducible refine gate_callee (f:=72) rfl ?_);refine gL (some 20) Try.func72 #[.slice A0 t197.length t197.length,.slice A1 t199.length t199.length] ?_;(with_reducible refine (nat_Cmp.calls k _ _ t197 _ _ t199 t201 _ ?s1_ ?s2_ ?s3_ ?s4_ A6.out).mono ?_);(case s1_=>exact Cu HR198.out);(case s2_=>exact HC198.out);(case s3_=>exact Cu HR200.out);(case s4_=>exact HC200.out);rintro e w' ⟨rfl,⟨nd,rfl⟩⟩;refine ⟨_,rfl,?_⟩;have p205 : 0≤(0 : Int):=(by omega);have q205 : 0 < (t199.length : Int):=oA;obtain ⟨ad205,e205,hx205_0⟩:=Kd.at_int HR200.out 0 p205 q205;cases e205;have qi205 : (0 < t199.length)=True:=eq_true (by omega);(try rw [show ((0 : Int)).toNat=0 from rfl] at hx205_0);(try rw [Addr.add_zero'] at hx205_0);replace p205:=eq_true p205;replace q205:=eq_true q205)|((with_reducible refine gate_callee (f:=75) rfl ?_);refine gL (some 32) Try.func75 #[.slice A0 t197.length t197.length,.int .u32 (rd t199 0)] ?_;(with_reducible refine (nat_small.calls k _ _ t197 (rd t199 0) t206 t207 _ ?s1_ ?s2_ A12.out).mono ?_);(case s1_=>exact Cu HR198.out);(case s2_=>exact HC198.out);rintro e w13 ⟨v208,v210,rfl,ho0,ho1,hb⟩;refine ⟨_,rfl,?_⟩;have HO209:=Aside0.mk (Kd.R_lower ho0 (below_size (bL HB.out)));have HO211:=Aside0.mk (Kd.R_lower ho1 (below_size (bL HB.out)));replace HB:=bH HB hb))
    go_ret3
    exact ⟨_,_,eW,by (with_reducible repeat (first|apply Ra|apply Rn|apply Rd));exact HO209.out,by (with_reducible repeat (first|apply Ra|apply Rn|apply Rd));exact HO211.out,bL HB.out⟩
   ·rw [if_neg c10] at H
    have c10b0 : ((t199.length : Int) == 1)=false:=beq_eq_false_iff_ne.mpr c10;have c10b1 : ((t199.length : Int) != 1)=true:=bne_iff_ne.mpr c10;refine biT H ?_;clear H;rintro ⟨t212,t213⟩ A14 H;(try dsimp only at H);replace A14:=Aside0.mk A14;simp only [Option.some.injEq,Prod.mk.injEq] at H;obtain ⟨rfl,rfl,rfl⟩:=H
    go_enter Try.func62,Try.ntmps62
    go_wp2_with (first|((with_reducible refine gate_callee (f:=70) rfl ?_);refine gL (some 12) Try.func70 #[.slice A0 l0.length c0] ?_;(with_reducible refine (nat_trim.calls _ _ l0 t197 _ ?s1_ ?s2_ A3.out).mono ?_);(case s1_=>exact Cu HR0.out);(case s2_=>exact HC0.out);rintro e w' ⟨rfl,⟨nd,rfl⟩⟩;refine ⟨_,rfl,?_⟩;have HR198:=Aside0.mk (nat_trim.C HR0.out A3.out);have HC198:=Aside0.mk (Nat.le_refl t197.length))|((with_reducible refine gate_callee (f:=70) rfl ?_);refine gL (some 14) Try.func70 #[.slice A1 l1.length c1] ?_;(with_reducible refine (nat_trim.calls _ _ l1 t199 _ ?s1_ ?s2_ A4.out).mono ?_);(case s1_=>exact Cu HR1.out);(case s2_=>exact HC1.out);rintro e w' ⟨rfl,⟨nd,rfl⟩⟩;refine ⟨_,rfl,?_⟩;have HR200:=Aside0.mk (nat_trim.C HR1.out A4.out);have HC200:=Aside0.mk (Nat.le_refl t199.length))|((with_reducible refine gate_callee (f:=72) rfl ?_);refine gL (some 20) Try.func72 #[.slice A0 t197.length t197.length,.slice A1 t199.length t199.length] ?_;(with_reducible refine (nat_Cmp.calls k _ _ t197 _ _ t199 t201 _ ?s1_ ?s2_ ?s3_ ?s4_ A6.out).mono ?_);(case s1_=>exact Cu HR198.out);(case s2_=>exact HC198.out);(case s3_=>exact Cu HR200.out);(case s4_=>exact HC200.out);rintro e w' ⟨rfl,⟨nd,rfl⟩⟩;refine ⟨_,rfl,?_⟩)|((with_reducible refine gate_callee (f:=76) rfl ?_);refine gL (some 40) Try.func76 #[.slice A0 t197.length t197.length,.slice A1 t199.length t199.length] ?_;(with_reducible refine (nat_long.calls k _ _ t197 _ _ t199 t212 t213 _ ?s1_ ?s2_ ?s3_ ?s4_ A14.out).mono ?_);(case s1_=>exact Cu HR198.out);(case s2_=>exact HC198.out);(case s3_=>exact Cu HR200.out);(case s4_=>exact HC200.out);rintro e w15 ⟨v214,v216,rfl,ho0,ho1,hb⟩;refine ⟨_,rfl,?_⟩;have HO215:=Aside0.mk (Kd.R_lower ho0 (below_size (bL HB.out)));have HO217:=Aside0.mk (Kd.R_lower ho1 (below_size (bL HB.out)));replace HB:=bH HB hb))
    go_ret3
    exact ⟨_,_,eW,by (with_reducible repeat (first|apply Ra|apply Rn|apply Rd));exact HO215.out,by (with_reducible repeat (first|apply Ra|apply Rn|apply Rd));exact HO217.out,bL HB.out⟩
theorem rat_one.calls  (r : List Int) (w : World) (h : rat_one.f  = some r) :
  Calls Try.prog 42 #[] w fun e w'=>∃ v0_ : Value,e=.returned (v0_)∧Kd.R (Kd.int .u32) 82 w' w.heap.size (fun _=>True) v0_ r∧Below w.heap.size w w':=by
 have HB:=Aside0.mk (Below.refl w.heap.size w);have H : (some (([1] : List Int)))=some r:=h;clear h;obtain ⟨y101,hy_⟩ : ∃ y_ : List Int,y_=(([1] : List Int)):=⟨_,rfl⟩;replace H : (some y101)=some r:=yH H;have Ny101:=Aside0.mk hy_;clear hy_;obtain rfl:=Option.some.inj H
 go_enter Try.func42,Try.ntmps42
 go_wp2_with (first|((with_reducible refine gate_dst (N:=1) rfl ?_);refine Kd.R_lit (Kd.int .u32) _ 82 ?hg (N:=1) ?hd (xs:=([1] : List Int)) (inner:=[.int .u32 1]) (ok:=fun _=>True) (okp:=fun _=>True) ?hr ?hp (fun _ hk=>hk) trivial (Below.refl _ _) (Nat.le_refl _) (by simp) ?_;(case hd=>rfl);(case hg=>rfl);(case hr=>first|(go_simp;done)|(go_simp;(with_reducible rfl))|(go_simp;rfl)|(go_simp;simp only [hu,Int.emod_sub_emod]));(case hp=>exact (Reps.one (show Kd.M (Kd.int .u32) _ _ _ 1 [.int .u32 1] from rfl) (Reps.none _ _)));intro v102 w1 ho2 hb hg_ hnew_;clear hg_ hnew_;(first|rw [← Ny101.out] at ho2|(simp only [Int.reduceToNat] at ho2;rw [← Ny101.out] at ho2));have HO103:=Aside0.mk (Kd.R_lower ho2 (below_size (bL HB.out)));replace HB:=bH HB hb;clear hb ho2))
 go_ret
 exact ⟨_,eW,by (with_reducible repeat (first|apply Ra|apply Rn|apply Rd));exact HO103.out,bL HB.out⟩
theorem root_Gcd.calls (k : Nat) (A0 : Option Addr) (c0 : Nat) (l0 : List Int) (A1 : Option Addr) (c1 : Nat) (l1 : List Int) (r : List Int) (w : World) (hr0 : Kd.C (Kd.int .u32) w A0 l0.length l0) (hc0 : l0.length≤c0) (hr1 : Kd.C (Kd.int .u32) w A1 l1.length l1) (hc1 : l1.length≤c1) (h : root_Gcd.f k l0 l1=some r) :
  Calls Try.prog 61 #[.slice A0 l0.length c0,.slice A1 l1.length c1] w fun e w'=>∃ v0_ : Value,e=.returned (v0_)∧Kd.R (Kd.int .u32) 82 w' w.heap.size (fun _=>True) v0_ r∧Below w.heap.size w w':=by
 have HR0:=Aside0.mk hr0;have HC0:=Aside0.mk hc0;clear hr0 hc0;have HR1:=Aside0.mk hr1;have HC1:=Aside0.mk hc1;clear hr1 hc1;have HB:=Aside0.mk (Below.refl w.heap.size w);have H : ((nat_Norm.f l0).bind fun t218=>((nat_Norm.f l1).bind fun t221=>(root_Gcd.l0 k t218 t221)))=some r:=h;clear h;refine biT H ?_;clear H;intro t218 A3 H;(try dsimp only at H);replace A3:=Aside0.mk A3;refine biT H ?_;clear H;intro t221 A4 H;(try dsimp only at H);replace A4:=Aside0.mk A4;have H':=Aside0.mk H;clear H
 go_enter Try.func61,Try.ntmps61
 go_wp2_with (first|((with_reducible refine gate_callee (f:=60) rfl ?_);refine gL (some 9) Try.func60 #[.slice A0 l0.length c0] ?_;(with_reducible refine (nat_Norm.calls _ _ l0 t218 _ ?s1_ ?s2_ A3.out).mono ?_);(case s1_=>exact Cu HR0.out);(case s2_=>exact HC0.out);rintro e w5 ⟨v219,rfl,ho0,hb⟩;refine ⟨_,rfl,?_⟩;have HO220:=Aside0.mk (Kd.R_lower ho0 (below_size (bL HB.out)));replace HB:=bH HB hb)|((with_reducible refine gate_callee (f:=60) rfl ?_);refine gL (some 11) Try.func60 #[.slice A1 l1.length c1] ?_;(with_reducible refine (nat_Norm.calls _ _ l1 t221 _ ?s1_ ?s2_ A4.out).mono ?_);(case s1_=>exact Cu (Kd.C_below HR1.out HB.out));(case s2_=>exact HC1.out);rintro e w6 ⟨v222,rfl,ho0,hb⟩;refine ⟨_,rfl,?_⟩;have HO223:=Aside0.mk (Kd.R_lower (Kd.R_new' ho0 (Kd.R_lt (Ru HO220.out))) (below_size (bL HB.out)));replace HO220:=Aside0.mk (Kd.R_elder' (Ru HO220.out) (Kd.R_base ho0) hb);replace HB:=bH HB hb))
 go_loopg [0,1] k (fun kq v0 v1 w'=>∃ (x0_1 : List Int) (x1_1 : List Int),Aside0 (root_Gcd.l0 kq x0_1 x1_1=some r)∧Aside0 (kq≤k)∧Aside0 (Kd.R (Kd.int .u32) 82 w' w.heap.size (fun k_=>some k_≠(v1 : Value).ownBlock) v0 x0_1)∧Aside0 (Kd.R (Kd.int .u32) 82 w' w.heap.size (fun k_=>some k_≠(v0 : Value).ownBlock) v1 x1_1)∧Aside0 (Below w.heap.size w w'))
 case atStart=>exact ⟨(t218),(t221),H',⟨Nat.le_refl _⟩,⟨Kd.R_mono (Ru HO220.out) (fun _ hk=>hk.2)⟩,⟨Kd.R_mono (Ru HO223.out) (fun _ hk=>hk.2)⟩,⟨bL HB.out⟩⟩
 case round =>
  clear H';obtain ⟨x0_1,x1_1,HA,HK1,HO_0,HO_1,HB⟩:=hrel
  cases gk with
  | zero=>exact absurd HA.out (by simp [root_Gcd.l0])
  | succ k1 =>
   have H:=HA.out;clear HA;simp only [root_Gcd.l0] at H
   by_cases c7 : (x1_1.length : Int) > 0
   ·rw [if_pos c7] at H
    have c7b0 : decide (0 < (x1_1.length : Int))=true:=decide_eq_true c7;have c7b1 : decide (0 < x1_1.length)=true:=decide_eq_true (by omega);clear c7;refine biT H ?_;clear H;rintro ⟨t224,t225,t226⟩ A8 H;(try dsimp only at H);replace A8:=Aside0.mk A8;have H':=Aside0.mk H;clear H;obtain ⟨Ao9,co9,eo9⟩:=Kd.R_slice HO_1.out;subst eo9;obtain ⟨Ao10,co10,eo10⟩:=Kd.R_slice HO_0.out;subst eo10
    go_wp2_with (first|((with_reducible refine gate_callee (f:=62) rfl ?_);refine gL (some 18) Try.func62 #[.slice Ao10 x0_1.length co10,.slice Ao9 x1_1.length co9] ?_;(with_reducible refine (nat_DivMod.calls k1 _ _ x0_1 _ _ x1_1 t224 t225 t226 _ ?s1_ ?s2_ ?s3_ ?s4_ A8.out).mono ?_);(case s1_=>exact Cu (Kd.R_reads' HO_0.out).2.2);(case s2_=>exact (Kd.R_reads' HO_0.out).2.1);(case s3_=>exact Cu (Kd.R_reads' HO_1.out).2.2);(case s4_=>exact (Kd.R_reads' HO_1.out).2.1);rintro e w11 ⟨v227,v229,rfl,ho0,ho1,hb⟩;refine ⟨_,rfl,?_⟩;have HO228:=Aside0.mk (Kd.R_lower (Kd.R_new' (Kd.R_new' ho0 (Kd.R_lt (Ru HO_0.out))) (Kd.R_lt (Ru HO_1.out))) (below_size (bL HB.out)));have HO230:=Aside0.mk (Kd.R_lower (Kd.R_new' (Kd.R_new' ho1 (Kd.R_lt (Ru HO_0.out))) (Kd.R_lt (Ru HO_1.out))) (below_size (bL HB.out)));replace HO_0:=Aside0.mk (Kd.R_mono (Kd.R_told (Kd.R_told (Kd.R_old (Ru HO_0.out) hb) (Kd.R_base ho0)) (Kd.R_base ho1)) (fun _ h_=>h_.1));replace HO_1:=Aside0.mk (Kd.R_mono (Kd.R_told (Kd.R_told (Kd.R_old (Ru HO_1.out) hb) (Kd.R_base ho0)) (Kd.R_base ho1)) (fun _ h_=>h_.1));replace HB:=bH HB hb))
    go_roundg k1
    case measure=>have:=HK1.out;omega
    case rel=>exact ⟨(x1_1),(t225),H',⟨by have:=HK1.out;omega⟩,⟨Kd.R_mono (Ru HO_1.out) (fun _ hk=>hk.2)⟩,⟨Kd.R_mono (Ru HO230.out) (fun _ hk=>hk.2)⟩,⟨bL HB.out⟩⟩
   ·rw [if_neg c7] at H
    have c7b0 : decide (0 < (x1_1.length : Int))=false:=decide_eq_false c7;have c7b1 : decide (0 < x1_1.length)=false:=decide_eq_false (by omega);clear c7;obtain rfl:=Option.some.inj H;obtain ⟨Ao12,co12,eo12⟩:=Kd.R_slice HO_1.out;subst eo12
    go_wp2
    go_ret
    exact ⟨_,eW,Kd.R_mono (Ru HO_0.out) (fun _ hk=>trivial),bL HB.out⟩
theorem rat_made.calls (k : Nat) (a0 : Bool) (A1 : Option Addr) (c1 : Nat) (l1 : List Int) (A2 : Option Addr) (c2 : Nat) (l2 : List Int) (r1 : Bool) (r2 : List Int) (r3 : List Int) (w : World) (hr1 : Kd.C (Kd.int .u32) w A1 l1.length l1) (hc1 : l1.length≤c1) (hr2 : Kd.C (Kd.int .u32) w A2 l2.length l2) (hc2 : l2.length≤c2) (h : rat_made.f k a0 l1 l2=some (r1,r2,r3)) :
  Calls Try.prog 44 #[.bool a0,.slice A1 l1.length c1,.slice A2 l2.length c2] w fun e w'=>∃ v1_ v2_ : Value,e=.returned (.agg #[.bool r1,v1_,v2_])∧Kd.R (Kd.int .u32) 82 w' w.heap.size (fun k_=>some k_≠(v2_ : Value).ownBlock) v1_ r2∧Kd.R (Kd.int .u32) 82 w' w.heap.size (fun k_=>some k_≠(v1_ : Value).ownBlock) v2_ r3∧Below w.heap.size w w':=by
 have hu63:=Try.underlying63;have HR1:=Aside0.mk hr1;have HC1:=Aside0.mk hc1;clear hr1 hc1;have HR2:=Aside0.mk hr2;have HC2:=Aside0.mk hc2;clear hr2 hc2;have HB:=Aside0.mk (Below.refl w.heap.size w);have H : ((nat_Norm.f l1).bind fun t232=>((nat_Norm.f l2).bind fun t235=>(if (t232.length : Int)=0 then (rat_made.j0 k a0 t232 t235 true) else (rat_made.j0 k a0 t232 t235 ((t235.length : Int) == 0)))))=some (r1,r2,r3):=h;clear h;refine biT H ?_;clear H;intro t232 A4 H;(try dsimp only at H);replace A4:=Aside0.mk A4;refine biT H ?_;clear H;intro t235 A5 H;(try dsimp only at H);replace A5:=Aside0.mk A5;have HC6:=Aside0.mk H;clear H
 go_enter Try.func44,Try.ntmps44
 go_upto_region 2 with (first|((with_reducible refine gate_dst (N:=6) rfl ?_);(try (refine gate_guard (by rfl) ?_;dsimp only));refine boxA #[.bool false,.slice none 0 0,.slice none 0 0] 63 ?_;intro gb231 hg w7 hbox hb;have BK231:=Aside0.mk hbox;have GW231:=Aside0.mk ((by rw [hg];exact (below_size (bL HB.out)) : w.heap.size≤gb231));have GE231:=Aside0.mk ((by rw [hg];exact (below_size (bL HB.out)) : w.heap.size≤gb231));replace HB:=bH HB hb;clear hb hbox hg)|((with_reducible refine gate_callee (f:=60) rfl ?_);refine gL (some 9) Try.func60 #[.slice A1 l1.length c1] ?_;(with_reducible refine (nat_Norm.calls _ _ l1 t232 _ ?s1_ ?s2_ A4.out).mono ?_);(case s1_=>exact Cu (Kd.C_below HR1.out HB.out));(case s2_=>exact HC1.out);rintro e w8 ⟨v233,rfl,ho0,hb⟩;refine ⟨_,rfl,?_⟩;have HO234:=Aside0.mk (Kd.R_lower ho0 (below_size (bL HB.out)));replace BK231:=bK BK231 hb;replace HB:=bH HB hb)|((with_reducible refine gate_callee (f:=60) rfl ?_);refine gL (some 11) Try.func60 #[.slice A2 l2.length c2] ?_;(with_reducible refine (nat_Norm.calls _ _ l2 t235 _ ?s1_ ?s2_ A5.out).mono ?_);(case s1_=>exact Cu (Kd.C_below HR2.out HB.out));(case s2_=>exact HC2.out);rintro e w9 ⟨v236,rfl,ho0,hb⟩;refine ⟨_,rfl,?_⟩;have HO237:=Aside0.mk (Kd.R_lower (Kd.R_new' ho0 (Kd.R_lt (Ru HO234.out))) (below_size (bL HB.out)));replace HO234:=Aside0.mk (Kd.R_elder' (Ru HO234.out) (Kd.R_base ho0) hb);replace BK231:=bK BK231 hb;replace HB:=bH HB hb))
 (try simp only [Act.put,s0,s1,s2])
 go_cut [19] (fun v19 wc=>∃ (kq : Nat) (x19_5 : Bool),v19=.bool x19_5∧Aside0 (rat_made.j0 kq a0 t232 t235 x19_5=some (r1,r2,r3))∧Aside0 (kq≤k)∧Aside0 (Kd.R (Kd.int .u32) 82 wc w.heap.size (fun k_=>some k_≠(v236 : Value).ownBlock) v233 t232)∧Aside0 (Kd.R (Kd.int .u32) 82 wc w.heap.size (fun k_=>some k_≠(v233 : Value).ownBlock) v236 t235)∧Aside0 (wc.heap[gb231]? = some (.cells #[.bool false,(.slice none 0 0),(.slice none 0 0)] 63 (0,0)))∧Aside0 (Below w.heap.size w wc))
 case first =>
  have H:=HC6.out;clear HC6
  by_cases c10 : (t232.length : Int)=0
  ·rw [if_pos c10] at H
   have c10b0 : ((t232.length : Int) == 0)=true:=beq_iff_eq.mpr c10;have c10b1 : ((t232.length : Int) != 0)=false:=bne_eq_false_iff_eq.mpr c10;clear c10
   (first|rw [c10b0]|(simp only [i64_w,i32_w];rw [c10b0])|skip)
   have H':=Aside0.mk H;clear H;obtain ⟨Ao11,co11,eo11⟩:=Kd.R_slice HO234.out;subst eo11
   go_wp2
   go_meet
   case rel=>exact ⟨_,(true),sD,H',⟨by first|omega|exact Nat.le_refl _⟩,⟨Kd.R_mono (Ru HO234.out) (fun _ hk=>hk.2)⟩,⟨Kd.R_mono (Ru HO237.out) (fun _ hk=>hk.2)⟩,⟨Bu BK231.out⟩,⟨bL HB.out⟩⟩
  ·rw [if_neg c10] at H
   have c10b0 : ((t232.length : Int) == 0)=false:=beq_eq_false_iff_ne.mpr c10;have c10b1 : ((t232.length : Int) != 0)=true:=bne_iff_ne.mpr c10
   have c10b2 : ¬ (t232=[]):=fun h_=>c10 (by rw [h_];rfl)
   (first|rw [c10b0]|(simp only [i64_w,i32_w];rw [c10b0])|skip)
   have H':=Aside0.mk H;clear H;obtain ⟨Ao12,co12,eo12⟩:=Kd.R_slice HO234.out;subst eo12;obtain ⟨Ao13,co13,eo13⟩:=Kd.R_slice HO237.out;subst eo13
   go_wp2
   go_meet
   case rel=>exact ⟨_,(((t235.length : Int) == 0)),sD,H',⟨by first|omega|exact Nat.le_refl _⟩,⟨Kd.R_mono (Ru HO234.out) (fun _ hk=>hk.2)⟩,⟨Kd.R_mono (Ru HO237.out) (fun _ hk=>hk.2)⟩,⟨Bu BK231.out⟩,⟨bL HB.out⟩⟩
 case rest =>
  clear HC6;obtain ⟨kq,x19_5,rfl,HA,HJ5,HO_1,HO_2,BK231,HB⟩:=hcut
  cases kq with
  | zero=>exact absurd HA.out (by simp [rat_made.j0])
  | succ kj5 =>
   have H:=HA.out;clear HA;simp only [rat_made.j0] at H
   by_cases c14 : x19_5=true
   ·subst c14
    rw [if_pos rfl] at H;refine biT H ?_;clear H;intro t238 A15 H;(try dsimp only at H);replace A15:=Aside0.mk A15;simp only [Option.some.injEq,Prod.mk.injEq] at H;obtain ⟨rfl,rfl,rfl⟩:=H
    go_wp2_with (first|((with_reducible refine gate_callee (f:=42) rfl ?_);refine gL (some 20) Try.func42 #[] ?_;(with_reducible refine (rat_one.calls  t238 _ A15.out).mono ?_);rintro e w16 ⟨v239,rfl,ho0,hb⟩;refine ⟨_,rfl,?_⟩;have HO240:=Aside0.mk (Kd.R_lower (Kd.R_new' (Kd.R_new' ho0 (Kd.R_lt (Ru HO_1.out))) (Kd.R_lt (Ru HO_2.out))) (below_size (bL HB.out)));replace HO_1:=Aside0.mk (Kd.R_elder' (Ru HO_1.out) (Kd.R_base ho0) hb);replace HO_2:=Aside0.mk (Kd.R_elder' (Ru HO_2.out) (Kd.R_base ho0) hb);replace BK231:=bK BK231 hb;replace HB:=bH HB hb;obtain ⟨Ao17,co17,eo17⟩:=Kd.R_slice HO240.out;subst eo17;obtain ⟨hcz18_0,hcz18_1,hcz18_2⟩:=cl3 BK231.out;obtain ⟨hfz18_0,hfz18_1,hfz18_2⟩:=fr3 BK231.out))
    refine bodyPost_ret (results_cell_row rfl _ _ gb231 63 #[.bool false,.slice none 0 0,.slice Ao17 t238.length co17] (0,0) _ rfl (pT BK231.out) Try.underlying63 rfl (by kernel_rfl)) rfl ?_;exact ⟨_,_,eW,by first|exact Kd.R_nil _ _ _ _ _|exact Kd.N_nil _ _ _ _ _|exact Kd.V_nil _ _ _ _ _|exact Kd.Q_nil _ _ _ _ _|exact Kd.S_nil _ _ _ _ _,by (with_reducible repeat (first|apply Ra|apply Rn|apply Rd));exact Kd.R_mono (Kd.R_far (p:=⟨gb231,2,none⟩) (Kd.R_far (p:=⟨gb231,1,none⟩) (Kd.R_far (p:=⟨gb231,0,none⟩) (Kd.R_types HO240.out BK231.out (by decide)) (fun _ hk=>hk.2) (.bool false)) (fun _ hk=>hk.2) (.slice none 0 0)) (fun _ hk=>hk.2) (.slice Ao17 t238.length co17)) (fun _ hk=>(by simp [Value.ownBlock])),bL HB.out⟩
   ·replace c14:=Bool.eq_false_iff.mpr c14
    subst c14;rw [if_neg (show ¬ (false=true) by decide)] at H;refine biT H ?_;clear H;intro t241 A19 H;(try dsimp only at H);replace A19:=Aside0.mk A19;have HC20:=Aside0.mk H;clear H;obtain ⟨Ao21,co21,eo21⟩:=Kd.R_slice HO_1.out;subst eo21;obtain ⟨Ao22,co22,eo22⟩:=Kd.R_slice HO_2.out;subst eo22
    go_upto_region 5 with (first|((with_reducible refine gate_callee (f:=61) rfl ?_);refine gL (some 24) Try.func61 #[.slice Ao21 t232.length co21,.slice Ao22 t235.length co22] ?_;(with_reducible refine (root_Gcd.calls kj5 _ _ t232 _ _ t235 t241 _ ?s1_ ?s2_ ?s3_ ?s4_ A19.out).mono ?_);(case s1_=>exact Cu (Kd.R_reads' HO_1.out).2.2);(case s2_=>exact (Kd.R_reads' HO_1.out).2.1);(case s3_=>exact Cu (Kd.R_reads' HO_2.out).2.2);(case s4_=>exact (Kd.R_reads' HO_2.out).2.1);rintro e w23 ⟨v242,rfl,ho0,hb⟩;refine ⟨_,rfl,?_⟩;have HO243:=Aside0.mk (Kd.R_lower (Kd.R_new' (Kd.R_new' ho0 (Kd.R_lt (Ru HO_1.out))) (Kd.R_lt (Ru HO_2.out))) (below_size (bL HB.out)));replace HO_1:=Aside0.mk (Kd.R_elder' (Ru HO_1.out) (Kd.R_base ho0) hb);replace HO_2:=Aside0.mk (Kd.R_elder' (Ru HO_2.out) (Kd.R_base ho0) hb);replace BK231:=bK BK231 hb;replace HB:=bH HB hb))
    (try simp only [Act.put,s0,s1,s2])
    go_cut [33] (fun v33 wc=>∃ (kq : Nat) (x33_19 : Bool),v33=.bool x33_19∧Aside0 (rat_made.j1 kq a0 t232 t235 t241 x33_19=some (r1,r2,r3))∧Aside0 (kq≤kj5)∧Aside0 (Kd.R (Kd.int .u32) 82 wc w.heap.size (fun k_=>some k_≠((.slice Ao22 t235.length co22) : Value).ownBlock∧some k_≠(v242 : Value).ownBlock) (.slice Ao21 t232.length co21) t232)∧Aside0 (Kd.R (Kd.int .u32) 82 wc w.heap.size (fun k_=>some k_≠((.slice Ao21 t232.length co21) : Value).ownBlock∧some k_≠(v242 : Value).ownBlock) (.slice Ao22 t235.length co22) t235)∧Aside0 (Kd.R (Kd.int .u32) 82 wc w.heap.size (fun k_=>some k_≠((.slice Ao21 t232.length co21) : Value).ownBlock∧some k_≠((.slice Ao22 t235.length co22) : Value).ownBlock) v242 t241)∧Aside0 (wc.heap[gb231]? = some (.cells #[.bool false,(.slice none 0 0),(.slice none 0 0)] 63 (0,0)))∧Aside0 (Below w.heap.size w wc))
    case first =>
     have H:=HC20.out;clear HC20
     by_cases c24 : (t241.length : Int) > 1
     ·rw [if_pos c24] at H
      have c24b0 : decide (1 < (t241.length : Int))=true:=decide_eq_true c24;have c24b1 : decide (1 < t241.length)=true:=decide_eq_true (by omega);clear c24
      (first|rw [c24b0]|(simp only [i64_w,i32_w];rw [c24b0])|skip)
      have H':=Aside0.mk H;clear H;obtain ⟨Ao25,co25,eo25⟩:=Kd.R_slice HO243.out;subst eo25
      go_wp2
      go_meet
      case rel=>exact ⟨_,(true),sD,H',⟨by have:=HJ5.out;first|omega|exact Nat.le_refl _⟩,⟨Ru HO_1.out⟩,⟨Ru HO_2.out⟩,⟨Kd.R_mono (Ru HO243.out) (fun _ hk=>⟨hk.1.2,hk.2⟩)⟩,⟨Bu BK231.out⟩,⟨bL HB.out⟩⟩
     ·rw [if_neg c24] at H
      have c24b0 : decide (1 < (t241.length : Int))=false:=decide_eq_false c24;have c24b1 : decide (1 < t241.length)=false:=decide_eq_false (by omega);clear c24
      (first|rw [c24b0]|(simp only [i64_w,i32_w];rw [c24b0])|skip)
      refine ifT H ?_;clear H;intro c26 H;have c26b0 : decide (0 < (t241.length : Int))=true:=decide_eq_true c26;have c26b1 : decide (0 < t241.length)=true:=decide_eq_true (by omega);clear c26;have H':=Aside0.mk H;clear H;obtain ⟨Ao27,co27,eo27⟩:=Kd.R_slice HO243.out;subst eo27;have p244 : 0≤(0 : Int):=(by omega);have q244 : 0 < (t241.length : Int):=oA;obtain ⟨ad244,e244,hx244_0⟩:=Kd.at_int (Kd.R_reads' HO243.out).2.2 0 p244 q244;cases e244;have qi244 : (0 < t241.length)=True:=eq_true (by omega)
      (try rw [show ((0 : Int)).toNat=0 from rfl] at hx244_0)
      (try rw [Addr.add_zero'] at hx244_0)
      replace p244:=eq_true p244;replace q244:=eq_true q244
      go_wp2
      go_meet
      case rel=>exact ⟨_,(decide ((rd t241 0) > 1)),sD,H',⟨by have:=HJ5.out;first|omega|exact Nat.le_refl _⟩,⟨Ru HO_1.out⟩,⟨Ru HO_2.out⟩,⟨Kd.R_mono (Ru HO243.out) (fun _ hk=>⟨hk.1.2,hk.2⟩)⟩,⟨Bu BK231.out⟩,⟨bL HB.out⟩⟩
    case rest =>
     clear HC20;obtain ⟨kq,x33_19,rfl,HA,HJ19,HO_1,HO_2,HO_7,BK231,HB⟩:=hcut
     cases kq with
     | zero=>exact absurd HA.out (by simp [rat_made.j1])
     | succ kj19 =>
      have H:=HA.out;clear HA;simp only [rat_made.j1] at H
      by_cases c28 : x33_19=true
      ·subst c28
       rw [if_pos rfl] at H;refine biT H ?_;clear H;rintro ⟨t245,t246,t247⟩ A29 H;(try dsimp only at H);replace A29:=Aside0.mk A29;refine biT H ?_;clear H;rintro ⟨t252,t253,t254⟩ A30 H;(try dsimp only at H);replace A30:=Aside0.mk A30;simp only [Option.some.injEq,Prod.mk.injEq] at H;obtain ⟨rfl,rfl,rfl⟩:=H;obtain ⟨Ao31,co31,eo31⟩:=Kd.R_slice HO_7.out;subst eo31
       go_wp2_with (first|((with_reducible refine gate_callee (f:=62) rfl ?_);refine gL (some 37) Try.func62 #[.slice Ao21 t232.length co21,.slice Ao31 t241.length co31] ?_;(with_reducible refine (nat_DivMod.calls kj19 _ _ t232 _ _ t241 t245 t246 t247 _ ?s1_ ?s2_ ?s3_ ?s4_ A29.out).mono ?_);(case s1_=>exact Cu (Kd.R_reads' HO_1.out).2.2);(case s2_=>exact (Kd.R_reads' HO_1.out).2.1);(case s3_=>exact Cu (Kd.R_reads' HO_7.out).2.2);(case s4_=>exact (Kd.R_reads' HO_7.out).2.1);rintro e w32 ⟨v248,v250,rfl,ho0,ho1,hb⟩;refine ⟨_,rfl,?_⟩;have HO249:=Aside0.mk (Kd.R_lower (Kd.R_new' (Kd.R_new' (Kd.R_new' ho0 (Kd.R_lt (Ru HO_1.out))) (Kd.R_lt (Ru HO_2.out))) (Kd.R_lt (Ru HO_7.out))) (below_size (bL HB.out)));have HO251:=Aside0.mk (Kd.R_lower (Kd.R_new' (Kd.R_new' (Kd.R_new' ho1 (Kd.R_lt (Ru HO_1.out))) (Kd.R_lt (Ru HO_2.out))) (Kd.R_lt (Ru HO_7.out))) (below_size (bL HB.out)));replace HO_1:=Aside0.mk (Kd.R_mono (Kd.R_told (Kd.R_told (Kd.R_old (Ru HO_1.out) hb) (Kd.R_base ho0)) (Kd.R_base ho1)) (fun _ h_=>h_.1));replace HO_2:=Aside0.mk (Kd.R_mono (Kd.R_told (Kd.R_told (Kd.R_old (Ru HO_2.out) hb) (Kd.R_base ho0)) (Kd.R_base ho1)) (fun _ h_=>h_.1));replace HO_7:=Aside0.mk (Kd.R_mono (Kd.R_told (Kd.R_told (Kd.R_old (Ru HO_7.out) hb) (Kd.R_base ho0)) (Kd.R_base ho1)) (fun _ h_=>h_.1));replace BK231:=bK BK231 hb;replace HB:=bH HB hb)|((with_reducible refine gate_callee (f:=62) rfl ?_);refine gL (some 44) Try.func62 #[.slice Ao22 t235.length co22,.slice Ao31 t241.length co31] ?_;(with_reducible refine (nat_DivMod.calls kj19 _ _ t235 _ _ t241 t252 t253 t254 _ ?s1_ ?s2_ ?s3_ ?s4_ A30.out).mono ?_);(case s1_=>exact Cu (Kd.R_reads' HO_2.out).2.2);(case s2_=>exact (Kd.R_reads' HO_2.out).2.1);(case s3_=>exact Cu (Kd.R_reads' HO_7.out).2.2);(case s4_=>exact (Kd.R_reads' HO_7.out).2.1);rintro e w33 ⟨v255,v257,rfl,ho0,ho1,hb⟩;refine ⟨_,rfl,?_⟩;have HO256:=Aside0.mk (Kd.R_lower (Kd.R_new' (Kd.R_new' (Kd.R_new' (Kd.R_new' (Kd.R_new' ho0 (Kd.R_lt (Ru HO_1.out))) (Kd.R_lt (Ru HO_2.out))) (Kd.R_lt (Ru HO_7.out))) (Kd.R_lt (Ru HO249.out))) (Kd.R_lt (Ru HO251.out))) (below_size (bL HB.out)));have HO258:=Aside0.mk (Kd.R_lower (Kd.R_new' (Kd.R_new' (Kd.R_new' (Kd.R_new' (Kd.R_new' ho1 (Kd.R_lt (Ru HO_1.out))) (Kd.R_lt (Ru HO_2.out))) (Kd.R_lt (Ru HO_7.out))) (Kd.R_lt (Ru HO249.out))) (Kd.R_lt (Ru HO251.out))) (below_size (bL HB.out)));replace HO_1:=Aside0.mk (Kd.R_mono (Kd.R_told (Kd.R_told (Kd.R_old (Ru HO_1.out) hb) (Kd.R_base ho0)) (Kd.R_base ho1)) (fun _ h_=>h_.1));replace HO_2:=Aside0.mk (Kd.R_mono (Kd.R_told (Kd.R_told (Kd.R_old (Ru HO_2.out) hb) (Kd.R_base ho0)) (Kd.R_base ho1)) (fun _ h_=>h_.1));replace HO_7:=Aside0.mk (Kd.R_mono (Kd.R_told (Kd.R_told (Kd.R_old (Ru HO_7.out) hb) (Kd.R_base ho0)) (Kd.R_base ho1)) (fun _ h_=>h_.1));replace HO249:=Aside0.mk (Kd.R_mono (Kd.R_told (Kd.R_told (Kd.R_old (Ru HO249.out) hb) (Kd.R_base ho0)) (Kd.R_base ho1)) (fun _ h_=>h_.1));replace HO251:=Aside0.mk (Kd.R_mono (Kd.R_told (Kd.R_told (Kd.R_old (Ru HO251.out) hb) (Kd.R_base ho0)) (Kd.R_base ho1)) (fun _ h_=>h_.1));replace BK231:=bK BK231 hb;replace HB:=bH HB hb;obtain ⟨Ao34,co34,eo34⟩:=Kd.R_slice HO256.out;subst eo34;obtain ⟨Ao35,co35,eo35⟩:=Kd.R_slice HO249.out;subst eo35;obtain ⟨hcz36_0,hcz36_1,hcz36_2⟩:=cl3 BK231.out;obtain ⟨hfz36_0,hfz36_1,hfz36_2⟩:=fr3 BK231.out))
       refine bodyPost_ret (results_cell_row rfl _ _ gb231 63 #[.bool a0,.slice Ao35 t245.length co35,.slice Ao34 t252.length co34] (0,0) _ rfl (pT BK231.out) Try.underlying63 rfl (by kernel_rfl)) rfl ?_;exact ⟨_,_,eW,by (with_reducible repeat (first|apply Ra|apply Rn|apply Rd));exact Kd.R_mono (Kd.R_far (p:=⟨gb231,2,none⟩) (Kd.R_far (p:=⟨gb231,1,none⟩) (Kd.R_far (p:=⟨gb231,0,none⟩) (Kd.R_types HO249.out BK231.out (by decide)) (fun _ hk=>hk.2) (.bool a0)) (fun _ hk=>hk.2) (.slice Ao35 t245.length co35)) (fun _ hk=>hk.2) (.slice Ao34 t252.length co34)) (fun _ hk=>hk.1.1.2),by (with_reducible repeat (first|apply Ra|apply Rn|apply Rd));exact Kd.R_mono (Kd.R_far (p:=⟨gb231,2,none⟩) (Kd.R_far (p:=⟨gb231,1,none⟩) (Kd.R_far (p:=⟨gb231,0,none⟩) (Kd.R_types HO256.out BK231.out (by decide)) (fun _ hk=>hk.2) (.bool a0)) (fun _ hk=>hk.2) (.slice Ao35 t245.length co35)) (fun _ hk=>hk.2) (.slice Ao34 t252.length co34)) (fun _ hk=>hk.1.1.2),bL HB.out⟩
      ·replace c28:=Bool.eq_false_iff.mpr c28
       subst c28;rw [if_neg (show ¬ (false=true) by decide)] at H;simp only [Option.some.injEq,Prod.mk.injEq] at H;obtain ⟨rfl,rfl,rfl⟩:=H;obtain ⟨hcz37_0,hcz37_1,hcz37_2⟩:=cl3 BK231.out;obtain ⟨hfz37_0,hfz37_1,hfz37_2⟩:=fr3 BK231.out
       go_wp2
       refine bodyPost_ret (results_cell_row rfl _ _ gb231 63 #[.bool a0,.slice Ao21 t232.length co21,.slice Ao22 t235.length co22] (0,0) _ rfl (pT BK231.out) Try.underlying63 rfl (by kernel_rfl)) rfl ?_;exact ⟨_,_,eW,by (with_reducible repeat (first|apply Ra|apply Rn|apply Rd));exact Kd.R_mono (Kd.R_far (p:=⟨gb231,2,none⟩) (Kd.R_far (p:=⟨gb231,1,none⟩) (Kd.R_far (p:=⟨gb231,0,none⟩) (Kd.R_types HO_1.out BK231.out (by decide)) (fun _ hk=>hk.2) (.bool a0)) (fun _ hk=>hk.2) (.slice Ao21 t232.length co21)) (fun _ hk=>hk.2) (.slice Ao22 t235.length co22)) (fun _ hk=>hk.1.1),by (with_reducible repeat (first|apply Ra|apply Rn|apply Rd));exact Kd.R_mono (Kd.R_far (p:=⟨gb231,2,none⟩) (Kd.R_far (p:=⟨gb231,1,none⟩) (Kd.R_far (p:=⟨gb231,0,none⟩) (Kd.R_types HO_2.out BK231.out (by decide)) (fun _ hk=>hk.2) (.bool a0)) (fun _ hk=>hk.2) (.slice Ao21 t232.length co21)) (fun _ hk=>hk.2) (.slice Ao22 t235.length co22)) (fun _ hk=>hk.1.1),bL HB.out⟩
theorem rat_Read.calls (k : Nat) (a0_0 : Bool) (A0_1 : Option Addr) (c0_1 : Nat) (l0_1 : List Int) (A0_2 : Option Addr) (c0_2 : Nat) (l0_2 : List Int) (r1 : Bool) (r2 : List Int) (r3 : List Int) (w : World) (hr0_1 : Kd.C (Kd.int .u32) w A0_1 l0_1.length l0_1) (hc0_1 : l0_1.length≤c0_1) (hr0_2 : Kd.C (Kd.int .u32) w A0_2 l0_2.length l0_2) (hc0_2 : l0_2.length≤c0_2) (h : rat_Read.f k a0_0 l0_1 l0_2=some (r1,r2,r3)) :
  Calls Try.prog 41 #[.agg #[.bool a0_0,.slice A0_1 l0_1.length c0_1,.slice A0_2 l0_2.length c0_2]] w fun e w'=>∃ v1_ v2_ : Value,e=.returned (.agg #[.bool r1,v1_,v2_])∧Kd.R (Kd.int .u32) 82 w' w.heap.size (fun k_=>some k_≠(v2_ : Value).ownBlock) v1_ r2∧Kd.R (Kd.int .u32) 82 w' w.heap.size (fun k_=>some k_≠(v1_ : Value).ownBlock) v2_ r3∧Below w.heap.size w w':=by
 have hu63:=Try.underlying63;have HR0_1:=Aside0.mk hr0_1;have HC0_1:=Aside0.mk hc0_1;clear hr0_1 hc0_1;have HR0_2:=Aside0.mk hr0_2;have HC0_2:=Aside0.mk hc0_2;clear hr0_2 hc0_2;have HB:=Aside0.mk (Below.refl w.heap.size w);have H : ((rat_made.f k a0_0 l0_1 l0_2).bind fun bt261=>(some (bt261.1,bt261.2.1,bt261.2.2)))=some (r1,r2,r3):=h;clear h;refine biT H ?_;clear H;rintro ⟨t261,t262,t265⟩ A2 H;(try dsimp only at H);replace A2:=Aside0.mk A2;simp only [Option.some.injEq,Prod.mk.injEq] at H;obtain ⟨rfl,rfl,rfl⟩:=H
 go_enter Try.func41,Try.ntmps41
 go_wp2_with (first|((with_reducible refine gate_dst (N:=1) rfl ?_);refine boxA #[.bool a0_0,.slice A0_1 l0_1.length c0_1,.slice A0_2 l0_2.length c0_2] 63 ?_;intro gb259 hg w3 hbox hb;have BK259:=Aside0.mk hbox;have GW259:=Aside0.mk ((by rw [hg];exact (below_size (bL HB.out)) : w.heap.size≤gb259));have GE259:=Aside0.mk ((by rw [hg];exact (below_size (bL HB.out)) : w.heap.size≤gb259));replace HB:=bH HB hb;clear hb hbox hg)|((with_reducible refine gate_dst (N:=2) rfl ?_);refine boxA #[.bool false,.slice none 0 0,.slice none 0 0] 63 ?_;intro gb260 hg w4 hbox hb;have BK260:=Aside0.mk hbox;have GW260:=Aside0.mk ((by rw [hg];exact (below_size (bL HB.out)) : w.heap.size≤gb260));have GE260:=Aside0.mk ((by rw [hg];exact (below_size (bL HB.out)) : w.heap.size≤gb260));replace HB:=bH HB hb;have NB259_260:=Aside0.mk ((by rw [hg];exact Nat.ne_of_lt (blk_lt (Bu BK259.out)) : gb259≠gb260));have NB260_259:=Aside0.mk ((by rw [hg];exact Nat.ne_of_gt (blk_lt (Bu BK259.out)) : gb260≠gb259));replace BK259:=bK BK259 hb;clear hb hbox hg;have hnb5:=NB259_260.out;have hnc5:=NB260_259.out;obtain ⟨hcz6_0,hcz6_1,hcz6_2⟩:=cl3 BK259.out;obtain ⟨hfz6_0,hfz6_1,hfz6_2⟩:=fr3 BK259.out)|((with_reducible refine gate_callee (f:=44) rfl ?_);refine gL (some 9) Try.func44 #[.bool a0_0,.slice A0_1 l0_1.length c0_1,.slice A0_2 l0_2.length c0_2] ?_;(with_reducible refine (rat_made.calls k a0_0 _ _ l0_1 _ _ l0_2 t261 t262 t265 _ ?s1_ ?s2_ ?s3_ ?s4_ A2.out).mono ?_);(case s1_=>exact Cu (Kd.C_below HR0_1.out HB.out));(case s2_=>exact HC0_1.out);(case s3_=>exact Cu (Kd.C_below HR0_2.out HB.out));(case s4_=>exact HC0_2.out);rintro e w7 ⟨v263,v266,rfl,ho0,ho1,hb⟩;refine ⟨_,rfl,?_⟩;have HO264:=Aside0.mk (Kd.R_lower ho0 (below_size (bL HB.out)));have HO267:=Aside0.mk (Kd.R_lower ho1 (below_size (bL HB.out)));replace BK259:=bK BK259 hb;replace BK260:=bK BK260 hb;replace HB:=bH HB hb;obtain ⟨hcz8_0,hcz8_1,hcz8_2⟩:=cl3 BK260.out;obtain ⟨hfz8_0,hfz8_1,hfz8_2⟩:=fr3 BK260.out;obtain ⟨Ao9,co9,eo9⟩:=Kd.R_slice HO264.out;subst eo9;obtain ⟨Ao10,co10,eo10⟩:=Kd.R_slice HO267.out;subst eo10))
 refine bodyPost_ret (results_cell_row rfl _ _ gb260 63 #[.bool t261,.slice Ao9 t262.length co9,.slice Ao10 t265.length co10] (0,0) _ rfl (pT BK260.out) Try.underlying63 rfl (by kernel_rfl)) rfl ?_;exact ⟨_,_,eW,by (with_reducible repeat (first|apply Ra|apply Rn|apply Rd));exact R3 HO264.out (Nat.le_refl _) BK260.out (by decide) _ _ _,by (with_reducible repeat (first|apply Ra|apply Rn|apply Rd));exact R3 HO267.out (Nat.le_refl _) BK260.out (by decide) _ _ _,bL HB.out⟩
theorem slices_Equal_uint32_uint32.calls (k : Nat) (A0 : Option Addr) (c0 : Nat) (l0 : List Int) (A1 : Option Addr) (c1 : Nat) (l1 : List Int) (r : Bool) (w : World) (hr0 : Kd.C (Kd.int .u32) w A0 l0.length l0) (hc0 : l0.length≤c0) (hr1 : Kd.C (Kd.int .u32) w A1 l1.length l1) (hc1 : l1.length≤c1) (h : slices_Equal_uint32_uint32.f k l0 l1=some r) :
  Calls Try.prog 46 #[.slice A0 l0.length c0,.slice A1 l1.length c1] w fun e w'=>e=.returned (.bool r)∧Drawn0 w w':=by
 have HR0:=Aside0.mk hr0;have HC0:=Aside0.mk hc0;clear hr0 hc0;have HR1:=Aside0.mk hr1;have HC1:=Aside0.mk hc1;clear hr1 hc1;have H : (if (l0.length : Int)=(l1.length : Int) then (slices_Equal_uint32_uint32.l0 k l0 l1 (l0.length : Int) 0) else (some false))=some r:=h;clear h
 by_cases c3 : (l0.length : Int)=(l1.length : Int)
 ·rw [if_pos c3] at H
  have c3b0 : ((l0.length : Int) == (l1.length : Int))=true:=beq_iff_eq.mpr c3;have c3b1 : ((l0.length : Int) != (l1.length : Int))=false:=bne_eq_false_iff_eq.mpr c3
  have c3b2 : (l0.length == l1.length)=true:=by first|simpa using c3|(simp at c3 ⊢;omega)
  clear c3;have H':=Aside0.mk H;clear H
  go_enter Try.func46,Try.ntmps46
  go_wp2
  go_loopg [13] k (fun kq v13 w'=>∃ (x13_1 : Int),v13=.int .i64 x13_1∧Aside0 (slices_Equal_uint32_uint32.l0 kq l0 l1 (l0.length : Int) x13_1=some r)∧Aside0 (kq≤k)∧Drawn0 w w')
  case atStart=>exact ⟨(0),sD,H',⟨Nat.le_refl _⟩,by repeat (first|exact Drawn0.refl _|apply Drawn0.step)⟩
  case round =>
   clear H';obtain ⟨x13_1,rfl,HA,HK1,⟨m1,rfl⟩⟩:=hrel
   cases gk with
   | zero=>exact absurd HA.out (by simp [slices_Equal_uint32_uint32.l0])
   | succ k1 =>
    have H:=HA.out;clear HA;simp only [slices_Equal_uint32_uint32.l0] at H
    by_cases c4 : x13_1 < (l0.length : Int)
    ·rw [if_pos c4] at H
     have c4b0 : decide (x13_1 < (l0.length : Int))=true:=decide_eq_true c4;clear c4;refine ifT H ?_;clear H;intro c5 H;have c5b0 : decide (0≤x13_1)=true:=decide_eq_true c5;clear c5;refine ifT H ?_;clear H;intro c6 H;have c6b0 : decide (x13_1 < (l0.length : Int))=true:=decide_eq_true c6;clear c6;refine ifT H ?_;clear H;intro c7 H;have c7b0 : decide (x13_1 < (l1.length : Int))=true:=decide_eq_true c7;clear c7
     by_cases c8 : (rd l0 x13_1)=(rd l1 x13_1)
     ·rw [if_pos c8] at H
      have c8b0 : ((rd l0 x13_1) == (rd l1 x13_1))=true:=beq_iff_eq.mpr c8;have c8b1 : ((rd l0 x13_1) != (rd l1 x13_1))=false:=bne_eq_false_iff_eq.mpr c8;clear c8;have H':=Aside0.mk H;clear H;have p268 : 0≤(x13_1 : Int):=oA;have q268 : x13_1 < (l0.length : Int):=oA;obtain ⟨ad268,e268,hx268_0⟩:=Kd.at_int HR0.out x13_1 p268 q268;cases e268;replace p268:=eq_true p268;replace q268:=eq_true q268;have p269 : 0≤(x13_1 : Int):=oA;have q269 : x13_1 < (l1.length : Int):=oA;obtain ⟨ad269,e269,hx269_0⟩:=Kd.at_int HR1.out x13_1 p269 q269;cases e269;replace p269:=eq_true p269;replace q269:=eq_true q269
      go_wp2
      repeat (go_quiet (fail);try go_wp2)
      go_roundg k1
      case measure=>have:=HK1.out;omega
      case rel=>exact ⟨(wrap64 (x13_1+1)),sD,H',⟨by have:=HK1.out;omega⟩,by repeat (first|exact Drawn0.refl _|apply Drawn0.step)⟩
     ·rw [if_neg c8] at H
      have c8b0 : ((rd l0 x13_1) == (rd l1 x13_1))=false:=beq_eq_false_iff_ne.mpr c8;have c8b1 : ((rd l0 x13_1) != (rd l1 x13_1))=true:=bne_iff_ne.mpr c8;obtain rfl:=Option.some.inj H;have p268 : 0≤(x13_1 : Int):=oA;have q268 : x13_1 < (l0.length : Int):=oA;obtain ⟨ad268,e268,hx268_0⟩:=Kd.at_int HR0.out x13_1 p268 q268;cases e268;replace p268:=eq_true p268;replace q268:=eq_true q268;have p269 : 0≤(x13_1 : Int):=oA;have q269 : x13_1 < (l1.length : Int):=oA;obtain ⟨ad269,e269,hx269_0⟩:=Kd.at_int HR1.out x13_1 p269 q269;cases e269;replace p269:=eq_true p269;replace q269:=eq_true q269
      go_wp2
      repeat (go_quiet (fail);try go_wp2)
      go_ret
      exact ⟨sD,by repeat (first|exact Drawn0.refl _|apply Drawn0.step)⟩
    ·rw [if_neg c4] at H
     have c4b0 : decide (x13_1 < (l0.length : Int))=false:=decide_eq_false c4;clear c4;obtain rfl:=Option.some.inj H
     go_wp2
     go_ret
     exact ⟨sD,by repeat (first|exact Drawn0.refl _|apply Drawn0.step)⟩
 ·rw [if_neg c3] at H
  have c3b0 : ((l0.length : Int) == (l1.length : Int))=false:=beq_eq_false_iff_ne.mpr c3;have c3b1 : ((l0.length : Int) != (l1.length : Int))=true:=bne_iff_ne.mpr c3
  have c3b2 : (l0.length == l1.length)=false:=by first|simpa using c3|(simp at c3 ⊢;omega)
  obtain rfl:=Option.some.inj H
  go_enter Try.func46,Try.ntmps46
  go_wp2
  go_ret
  exact ⟨sD,by repeat (first|exact Drawn0.refl _|apply Drawn0.step)⟩
theorem rat_Check.calls (k : Nat) (a0_0 : Bool) (A0_1 : Option Addr) (c0_1 : Nat) (l0_1 : List Int) (A0_2 : Option Addr) (c0_2 : Nat) (l0_2 : List Int) (r : Bool) (w : World) (hr0_1 : Kd.C (Kd.int .u32) w A0_1 l0_1.length l0_1) (hc0_1 : l0_1.length≤c0_1) (hr0_2 : Kd.C (Kd.int .u32) w A0_2 l0_2.length l0_2) (hc0_2 : l0_2.length≤c0_2) (h : rat_Check.f k a0_0 l0_1 l0_2=some r) :
  Calls Try.prog 31 #[.agg #[.bool a0_0,.slice A0_1 l0_1.length c0_1,.slice A0_2 l0_2.length c0_2]] w fun e w'=>e=.returned (.bool r)∧Below w.heap.size w w':=by
 have hu63:=Try.underlying63;have HR0_1:=Aside0.mk hr0_1;have HC0_1:=Aside0.mk hc0_1;clear hr0_1 hc0_1;have HR0_2:=Aside0.mk hr0_2;have HC0_2:=Aside0.mk hc0_2;clear hr0_2 hc0_2;have HB:=Aside0.mk (Below.refl w.heap.size w);have H : ((rat_Read.f k a0_0 l0_1 l0_2).bind fun bt271=>(if (bt271.1 == a0_0)=true then ((slices_Equal_uint32_uint32.f k bt271.2.1 l0_1).bind fun t279=>(if t279=true then ((slices_Equal_uint32_uint32.f k bt271.2.2 l0_2).bind fun t280=>(some t280)) else (some false))) else (some false)))=some r:=h;clear h;refine biT H ?_;clear H;rintro ⟨t271,t272,t275⟩ A2 H;(try dsimp only at H);replace A2:=Aside0.mk A2
 by_cases c3 : (t271 == a0_0)=true
 ·rw [if_pos c3] at H
  have c3b0 : (t271 == a0_0)=true:=c3
  (try (have c3b1 : decide (t271=a0_0)=true:=by simpa using c3))
  (try (have c3b2 : (t271 == a0_0)=true:=by simpa using c3))
  clear c3;refine biT H ?_;clear H;intro t279 A4 H;(try dsimp only at H);replace A4:=Aside0.mk A4
  by_cases c5 : t279=true
  ·subst c5
   rw [if_pos rfl] at H;refine biT H ?_;clear H;intro t280 A6 H;(try dsimp only at H);replace A6:=Aside0.mk A6;obtain rfl:=Option.some.inj H
   go_enter Try.func31,Try.ntmps31
   go_wp2_with (first|((with_reducible refine gate_dst (N:=1) rfl ?_);refine boxA #[.bool a0_0,.slice A0_1 l0_1.length c0_1,.slice A0_2 l0_2.length c0_2] 63 ?_;intro gb270 hg w7 hbox hb;have BK270:=Aside0.mk hbox;have GW270:=Aside0.mk ((by rw [hg];exact (below_size (bL HB.out)) : w.heap.size≤gb270));have GE270:=Aside0.mk ((by rw [hg];exact (below_size (bL HB.out)) : w.heap.size≤gb270));replace HB:=bH HB hb;clear hb hbox hg;obtain ⟨hcz8_0,hcz8_1,hcz8_2⟩:=cl3 BK270.out;obtain ⟨hfz8_0,hfz8_1,hfz8_2⟩:=fr3 BK270.out)|((with_reducible refine gate_callee (f:=41) rfl ?_);refine gL (some 5) Try.func41 #[.agg #[.bool a0_0,.slice A0_1 l0_1.length c0_1,.slice A0_2 l0_2.length c0_2]] ?_;(with_reducible refine (rat_Read.calls k a0_0 _ _ l0_1 _ _ l0_2 t271 t272 t275 _ ?s1_ ?s2_ ?s3_ ?s4_ A2.out).mono ?_);(case s1_=>exact Cu (Kd.C_below HR0_1.out HB.out));(case s2_=>exact HC0_1.out);(case s3_=>exact Cu (Kd.C_below HR0_2.out HB.out));(case s4_=>exact HC0_2.out);rintro e w9 ⟨v273,v276,rfl,ho0,ho1,hb⟩;refine ⟨_,rfl,?_⟩;have HO274:=Aside0.mk (Kd.R_lower ho0 (below_size (bL HB.out)));have HO277:=Aside0.mk (Kd.R_lower ho1 (below_size (bL HB.out)));replace BK270:=bK BK270 hb;replace HB:=bH HB hb)|((with_reducible refine gate_dst (N:=3) rfl ?_);refine boxA #[.bool false,.slice none 0 0,.slice none 0 0] 63 ?_;intro gb278 hg w10 hbox hb;replace HO274:=Aside0.mk (Kd.R_below (Ru HO274.out) hb);replace HO277:=Aside0.mk (Kd.R_below (Ru HO277.out) hb);have BK278:=Aside0.mk hbox;have GW278:=Aside0.mk ((by rw [hg];exact (below_size (bL HB.out)) : w.heap.size≤gb278));have GE278:=Aside0.mk ((by rw [hg];exact (below_size (bL HB.out)) : w.heap.size≤gb278));replace HB:=bH HB hb;have NB270_278:=Aside0.mk ((by rw [hg];exact Nat.ne_of_lt (blk_lt (Bu BK270.out)) : gb270≠gb278));have NB278_270:=Aside0.mk ((by rw [hg];exact Nat.ne_of_gt (blk_lt (Bu BK270.out)) : gb278≠gb270));replace BK270:=bK BK270 hb;clear hb hbox hg;have hnb11:=NB278_270.out;have hnc11:=NB270_278.out;obtain ⟨hcz12_0,hcz12_1,hcz12_2⟩:=cl3 BK278.out;obtain ⟨hfz12_0,hfz12_1,hfz12_2⟩:=fr3 BK278.out;obtain ⟨Ao13,co13,eo13⟩:=Kd.R_slice HO274.out;subst eo13;obtain ⟨Ao14,co14,eo14⟩:=Kd.R_slice HO277.out;subst eo14;obtain ⟨hcz15_0,hcz15_1,hcz15_2⟩:=cl3 BK270.out;obtain ⟨hfz15_0,hfz15_1,hfz15_2⟩:=fr3 BK270.out)|(go_at_call 46;(with_reducible refine (slices_Equal_uint32_uint32.calls k _ _ t272 _ _ l0_1 true _ ?s1_ ?s2_ ?s3_ ?s4_ A4.out).mono ?_);(case s1_=>refine (Kd.R_reads' (e:=82) (base:=w.heap.size) (ok:=fun k_=>some k_≠(.slice Ao14 t275.length co14 : Value).ownBlock) (n:=t272.length) (c:=co13) ?_).2.2;exact (by (with_reducible repeat (first|apply Ra|apply Rn|apply Rd));exact (Kd.R_mono (Kd.R_far (p:=⟨gb278,2,none⟩) (Kd.R_far (p:=⟨gb278,1,none⟩) (Kd.R_far (p:=⟨gb278,0,none⟩) (Kd.R_types HO274.out BK278.out (by decide)) (fun _ hk=>hk.2) (.bool t271)) (fun _ hk=>hk.2) (.slice Ao13 t272.length co13)) (fun _ hk=>hk.2) (.slice Ao14 t275.length co14)) (fun _ h_=>h_.1))));(case s2_=>exact (Kd.R_reads' HO274.out).2.1);(case s3_=>exact Kd.C_below HR0_1.out (bL HB.out));(case s4_=>exact HC0_1.out);rintro e w' ⟨rfl,⟨nd,rfl⟩⟩)|(go_at_call 46;(with_reducible refine (slices_Equal_uint32_uint32.calls k _ _ t275 _ _ l0_2 t280 _ ?s1_ ?s2_ ?s3_ ?s4_ A6.out).mono ?_);(case s1_=>refine (Kd.R_reads' (e:=82) (base:=w.heap.size) (ok:=fun k_=>some k_≠(.slice Ao13 t272.length co13 : Value).ownBlock) (n:=t275.length) (c:=co14) ?_).2.2;exact (by (with_reducible repeat (first|apply Ra|apply Rn|apply Rd));exact (Kd.R_mono (Kd.R_far (p:=⟨gb278,2,none⟩) (Kd.R_far (p:=⟨gb278,1,none⟩) (Kd.R_far (p:=⟨gb278,0,none⟩) (Kd.R_types HO277.out BK278.out (by decide)) (fun _ hk=>hk.2) (.bool t271)) (fun _ hk=>hk.2) (.slice Ao13 t272.length co13)) (fun _ hk=>hk.2) (.slice Ao14 t275.length co14)) (fun _ h_=>h_.1))));(case s2_=>exact (Kd.R_reads' HO277.out).2.1);(case s3_=>exact Kd.C_below HR0_2.out (bL HB.out));(case s4_=>exact HC0_2.out);rintro e w' ⟨rfl,⟨nd,rfl⟩⟩))
   go_ret
   exact ⟨eW,bL HB.out⟩
  ·replace c5:=Bool.eq_false_iff.mpr c5
   subst c5;rw [if_neg (show ¬ (false=true) by decide)] at H;obtain rfl:=Option.some.inj H
   go_enter Try.func31,Try.ntmps31
   go_wp2_with (first|((with_reducible refine gate_dst (N:=1) rfl ?_);refine boxA #[.bool a0_0,.slice A0_1 l0_1.length c0_1,.slice A0_2 l0_2.length c0_2] 63 ?_;intro gb270 hg w16 hbox hb;have BK270:=Aside0.mk hbox;have GW270:=Aside0.mk ((by rw [hg];exact (below_size (bL HB.out)) : w.heap.size≤gb270));have GE270:=Aside0.mk ((by rw [hg];exact (below_size (bL HB.out)) : w.heap.size≤gb270));replace HB:=bH HB hb;clear hb hbox hg;obtain ⟨hcz17_0,hcz17_1,hcz17_2⟩:=cl3 BK270.out;obtain ⟨hfz17_0,hfz17_1,hfz17_2⟩:=fr3 BK270.out)|((with_reducible refine gate_callee (f:=41) rfl ?_);refine gL (some 5) Try.func41 #[.agg #[.bool a0_0,.slice A0_1 l0_1.length c0_1,.slice A0_2 l0_2.length c0_2]] ?_;(with_reducible refine (rat_Read.calls k a0_0 _ _ l0_1 _ _ l0_2 t271 t272 t275 _ ?s1_ ?s2_ ?s3_ ?s4_ A2.out).mono ?_);(case s1_=>exact Cu (Kd.C_below HR0_1.out HB.out));(case s2_=>exact HC0_1.out);(case s3_=>exact Cu (Kd.C_below HR0_2.out HB.out));(case s4_=>exact HC0_2.out);rintro e w18 ⟨v273,v276,rfl,ho0,ho1,hb⟩;refine ⟨_,rfl,?_⟩;have HO274:=Aside0.mk (Kd.R_lower ho0 (below_size (bL HB.out)));have HO277:=Aside0.mk (Kd.R_lower ho1 (below_size (bL HB.out)));replace BK270:=bK BK270 hb;replace HB:=bH HB hb)|((with_reducible refine gate_dst (N:=3) rfl ?_);refine boxA #[.bool false,.slice none 0 0,.slice none 0 0] 63 ?_;intro gb278 hg w19 hbox hb;replace HO274:=Aside0.mk (Kd.R_below (Ru HO274.out) hb);replace HO277:=Aside0.mk (Kd.R_below (Ru HO277.out) hb);have BK278:=Aside0.mk hbox;have GW278:=Aside0.mk ((by rw [hg];exact (below_size (bL HB.out)) : w.heap.size≤gb278));have GE278:=Aside0.mk ((by rw [hg];exact (below_size (bL HB.out)) : w.heap.size≤gb278));replace HB:=bH HB hb;have NB270_278:=Aside0.mk ((by rw [hg];exact Nat.ne_of_lt (blk_lt (Bu BK270.out)) : gb270≠gb278));have NB278_270:=Aside0.mk ((by rw [hg];exact Nat.ne_of_gt (blk_lt (Bu BK270.out)) : gb278≠gb270));replace BK270:=bK BK270 hb;clear hb hbox hg;have hnb20:=NB278_270.out;have hnc20:=NB270_278.out;obtain ⟨hcz21_0,hcz21_1,hcz21_2⟩:=cl3 BK278.out;obtain ⟨hfz21_0,hfz21_1,hfz21_2⟩:=fr3 BK278.out;obtain ⟨Ao22,co22,eo22⟩:=Kd.R_slice HO274.out;subst eo22;obtain ⟨Ao23,co23,eo23⟩:=Kd.R_slice HO277.out;subst eo23;obtain ⟨hcz24_0,hcz24_1,hcz24_2⟩:=cl3 BK270.out;obtain ⟨hfz24_0,hfz24_1,hfz24_2⟩:=fr3 BK270.out)|(go_at_call 46;(with_reducible refine (slices_Equal_uint32_uint32.calls k _ _ t272 _ _ l0_1 false _ ?s1_ ?s2_ ?s3_ ?s4_ A4.out).mono ?_);(case s1_=>refine (Kd.R_reads' (e:=82) (base:=w.heap.size) (ok:=fun k_=>some k_≠(.slice Ao23 t275.length co23 : Value).ownBlock) (n:=t272.length) (c:=co22) ?_).2.2;exact (by (with_reducible repeat (first|apply Ra|apply Rn|apply Rd));exact (Kd.R_mono (Kd.R_far (p:=⟨gb278,2,none⟩) (Kd.R_far (p:=⟨gb278,1,none⟩) (Kd.R_far (p:=⟨gb278,0,none⟩) (Kd.R_types HO274.out BK278.out (by decide)) (fun _ hk=>hk.2) (.bool t271)) (fun _ hk=>hk.2) (.slice Ao22 t272.length co22)) (fun _ hk=>hk.2) (.slice Ao23 t275.length co23)) (fun _ h_=>h_.1))));(case s2_=>exact (Kd.R_reads' HO274.out).2.1);(case s3_=>exact Kd.C_below HR0_1.out (bL HB.out));(case s4_=>exact HC0_1.out);rintro e w' ⟨rfl,⟨nd,rfl⟩⟩))
   go_ret
   exact ⟨eW,bL HB.out⟩
 ·rw [if_neg c3] at H
  have c3b0 : (t271 == a0_0)=false:=by simpa using c3
  (try (have c3b1 : decide (t271=a0_0)=false:=by simpa using c3))
  (try (have c3b2 : (t271 == a0_0)=false:=by simpa using c3))
  (try (have c3b3 : ¬ (t271=a0_0):=by simpa using c3))
  clear c3;obtain rfl:=Option.some.inj H
  go_enter Try.func31,Try.ntmps31
  go_wp2_with (first|((with_reducible refine gate_dst (N:=1) rfl ?_);refine boxA #[.bool a0_0,.slice A0_1 l0_1.length c0_1,.slice A0_2 l0_2.length c0_2] 63 ?_;intro gb270 hg w25 hbox hb;have BK270:=Aside0.mk hbox;have GW270:=Aside0.mk ((by rw [hg];exact (below_size (bL HB.out)) : w.heap.size≤gb270));have GE270:=Aside0.mk ((by rw [hg];exact (below_size (bL HB.out)) : w.heap.size≤gb270));replace HB:=bH HB hb;clear hb hbox hg;obtain ⟨hcz26_0,hcz26_1,hcz26_2⟩:=cl3 BK270.out;obtain ⟨hfz26_0,hfz26_1,hfz26_2⟩:=fr3 BK270.out)|((with_reducible refine gate_callee (f:=41) rfl ?_);refine gL (some 5) Try.func41 #[.agg #[.bool a0_0,.slice A0_1 l0_1.length c0_1,.slice A0_2 l0_2.length c0_2]] ?_;(with_reducible refine (rat_Read.calls k a0_0 _ _ l0_1 _ _ l0_2 t271 t272 t275 _ ?s1_ ?s2_ ?s3_ ?s4_ A2.out).mono ?_);(case s1_=>exact Cu (Kd.C_below HR0_1.out HB.out));(case s2_=>exact HC0_1.out);(case s3_=>exact Cu (Kd.C_below HR0_2.out HB.out));(case s4_=>exact HC0_2.out);rintro e w27 ⟨v273,v276,rfl,ho0,ho1,hb⟩;refine ⟨_,rfl,?_⟩;have HO274:=Aside0.mk (Kd.R_lower ho0 (below_size (bL HB.out)));have HO277:=Aside0.mk (Kd.R_lower ho1 (below_size (bL HB.out)));replace BK270:=bK BK270 hb;replace HB:=bH HB hb)|((with_reducible refine gate_dst (N:=3) rfl ?_);refine boxA #[.bool false,.slice none 0 0,.slice none 0 0] 63 ?_;intro gb278 hg w28 hbox hb;replace HO274:=Aside0.mk (Kd.R_below (Ru HO274.out) hb);replace HO277:=Aside0.mk (Kd.R_below (Ru HO277.out) hb);have BK278:=Aside0.mk hbox;have GW278:=Aside0.mk ((by rw [hg];exact (below_size (bL HB.out)) : w.heap.size≤gb278));have GE278:=Aside0.mk ((by rw [hg];exact (below_size (bL HB.out)) : w.heap.size≤gb278));replace HB:=bH HB hb;have NB270_278:=Aside0.mk ((by rw [hg];exact Nat.ne_of_lt (blk_lt (Bu BK270.out)) : gb270≠gb278));have NB278_270:=Aside0.mk ((by rw [hg];exact Nat.ne_of_gt (blk_lt (Bu BK270.out)) : gb278≠gb270));replace BK270:=bK BK270 hb;clear hb hbox hg;have hnb29:=NB278_270.out;have hnc29:=NB270_278.out;obtain ⟨hcz30_0,hcz30_1,hcz30_2⟩:=cl3 BK278.out;obtain ⟨hfz30_0,hfz30_1,hfz30_2⟩:=fr3 BK278.out;obtain ⟨Ao31,co31,eo31⟩:=Kd.R_slice HO274.out;subst eo31;obtain ⟨Ao32,co32,eo32⟩:=Kd.R_slice HO277.out;subst eo32;obtain ⟨hcz33_0,hcz33_1,hcz33_2⟩:=cl3 BK270.out;obtain ⟨hfz33_0,hfz33_1,hfz33_2⟩:=fr3 BK270.out))
  go_ret
  exact ⟨eW,bL HB.out⟩
theorem film_sizes.calls (a0 : Int) (a1 : Int) (a2 : Int) (r : Bool) (w : World) (h : film_sizes.f a0 a1 a2=some r) :
  Calls Try.prog 32 #[.int .i64 a0,.int .i64 a1,.int .i64 a2] w fun e w'=>e=.returned (.bool r)∧Drawn0 w w':=by
 have H : (if a0 ≥ 1 then (if a0≤16 then (if a1 ≥ 1 then (if a1≤16 then (if a2 ≥ 1 then (some (decide (a2≤8))) else (some false)) else (some false)) else (some false)) else (some false)) else (some false))=some r:=h;clear h
 by_cases c4 : a0 ≥ 1
 ·rw [if_pos c4] at H
  have c4b0 : decide (1≤a0)=true:=decide_eq_true c4;clear c4
  by_cases c5 : a0≤16
  ·rw [if_pos c5] at H
   have c5b0 : decide (a0≤16)=true:=decide_eq_true c5;clear c5
   by_cases c6 : a1 ≥ 1
   ·rw [if_pos c6] at H
    have c6b0 : decide (1≤a1)=true:=decide_eq_true c6;clear c6
    by_cases c7 : a1≤16
    ·rw [if_pos c7] at H
     have c7b0 : decide (a1≤16)=true:=decide_eq_true c7;clear c7
     by_cases c8 : a2 ≥ 1
     ·rw [if_pos c8] at H
      have c8b0 : decide (1≤a2)=true:=decide_eq_true c8;clear c8;obtain rfl:=Option.some.inj H
      go_enter Try.func32,Try.ntmps32
      go_wp2
      go_ret
      exact ⟨sD,by repeat (first|exact Drawn0.refl _|apply Drawn0.step)⟩
     ·rw [if_neg c8] at H
      have c8b0 : decide (1≤a2)=false:=decide_eq_false c8;clear c8;obtain rfl:=Option.some.inj H
      go_enter Try.func32,Try.ntmps32
      go_wp2
      go_ret
      exact ⟨sD,by repeat (first|exact Drawn0.refl _|apply Drawn0.step)⟩
    ·rw [if_neg c7] at H
     have c7b0 : decide (a1≤16)=false:=decide_eq_false c7;clear c7;obtain rfl:=Option.some.inj H
     go_enter Try.func32,Try.ntmps32
     go_wp2
     go_ret
     exact ⟨sD,by repeat (first|exact Drawn0.refl _|apply Drawn0.step)⟩
   ·rw [if_neg c6] at H
    have c6b0 : decide (1≤a1)=false:=decide_eq_false c6;clear c6;obtain rfl:=Option.some.inj H
    go_enter Try.func32,Try.ntmps32
    go_wp2
    go_ret
    exact ⟨sD,by repeat (first|exact Drawn0.refl _|apply Drawn0.step)⟩
  ·rw [if_neg c5] at H
   have c5b0 : decide (a0≤16)=false:=decide_eq_false c5;clear c5;obtain rfl:=Option.some.inj H
   go_enter Try.func32,Try.ntmps32
   go_wp2
   go_ret
   exact ⟨sD,by repeat (first|exact Drawn0.refl _|apply Drawn0.step)⟩
 ·rw [if_neg c4] at H
  have c4b0 : decide (1≤a0)=false:=decide_eq_false c4;clear c4;obtain rfl:=Option.some.inj H
  go_enter Try.func32,Try.ntmps32
  go_wp2
  go_ret
  exact ⟨sD,by repeat (first|exact Drawn0.refl _|apply Drawn0.step)⟩
end Go.Proofs.Ytjiaobcoeegioaa.Pq
end
section
namespace Go.Proofs.YtjiaobcoeegioaaW.PrintWords
open Go Go.RowKit
class Tk (T : List Nat) (w W : World) : Prop where
 k : w.heap.size≤W.heap.size ∧ ∀ (i : Nat) (cs : Array Value) (t : Nat) (fr : Nat × Nat),w.heap[i]? = some (Obj.cells cs t fr)→t∈T→W.heap[i]? = w.heap[i]?
section
variable {T T' : List Nat} {w W W2 : World} {Q Q' : World→Prop}
theorem Tk.trans_ (h : Tk T w W) (k : Tk T W W2) : Tk T w W2:=⟨Nat.le_trans h.k.1 k.k.1,fun i cs t fr hb ht=>by
 have e:=h.k.2 i cs t fr hb ht
 exact (k.k.2 i cs t fr (e.trans hb) ht).trans e⟩
theorem Tk.of_below (hb : Below W.heap.size W W2) : Tk T W W2:=⟨hb.size,fun i cs t fr h ht=>hb.block i (blk_lt h)⟩
theorem Tk.less (h : Tk T w W) (hs : ∀ t,t∈T'→t∈T) : Tk T' w W:=⟨h.k.1,fun i cs t fr hb ht=>h.k.2 i cs t fr hb (hs t ht)⟩
instance (T : List Nat) (w : World) : Tk T w w:=⟨Nat.le_refl _,fun _ _ _ _ _ _=>rfl⟩
instance (T : List Nat) (w W : World) (o : Obj) [h : Tk T w W] : Tk T w (W.alloc o):=h.trans_ (Tk.of_below (below_alloc (Below.refl _ _) _))
instance (T : List Nat) (w W : World) (n : Nat) [h : Tk T w W] : Tk T w (W.drewN n):=h.trans_ (Tk.of_below (pw_below_drewN (Below.refl _ _) _))
instance (T : List Nat) (w W : World) [h : Tk T w W] : Tk T w W.drew:=h.trans_ (Tk.of_below (below_drew1 (Below.refl _ _)))
theorem tk_call (hb : Below W.heap.size W W2) (w : World) [h : Tk T w W] : Tk T w W2:=h.trans_ (Tk.of_below hb)
theorem tk_set {g t : Nat} {cs : Array Value} (hb : W.heap[g]? = some (.cells cs t (0,0))) (ht : t ∉ T) (i : Nat) (v : Value) (w : World) [h : Tk T w W] : Tk T w (W.setCell ⟨g,i,none⟩ v) :=
 h.trans_ ⟨by simp [World.setCell],fun j cs' t' fr' hj ht'=>Below.heap_setCell W ⟨g,i,none⟩ v j (fun e=>by
  have e : j=g:=e;subst e;rw [hb] at hj
  injection hj with hj
  injection hj with _ h2 _
  exact ht (h2 ▸ ht'))⟩
structure Trob (T : List Nat) (w : World) (Q : World→Prop) : Prop where mk :: (out : ∀ W,Tk T w W→Q W)
theorem Trob.now (h : Trob T w Q) [k : Tk T w W] : Q W:=h.out W k
theorem Trob.up (h : Trob T w Q) [k : Tk T w W] : Trob T W Q:=⟨fun W2 k2=>h.out W2 (k.trans_ k2)⟩
theorem Trob.and (h : Trob T w Q) (h' : Trob T w Q') : Trob T w (fun W=>Q W∧Q' W):=⟨fun W k=>⟨h.out W k,h'.out W k⟩⟩
theorem Trob.imp (h : Trob T w Q) (f : ∀ W,Q W→Q' W) : Trob T w Q':=⟨fun W k=>f W (h.out W k)⟩
theorem Trob.more (h : Trob T w Q) (hs : ∀ t,t∈T→t∈T') : Trob T' w Q:=⟨fun W k=>h.out W (k.less hs)⟩
theorem Trob.all {α : Type} {P : α→World→Prop} {w : World} (h : ∀ a,Trob T w (P a)) : Trob T w (fun W=>∀ a,P a W):=⟨fun W k a=>(h a).out W k⟩
end
section
variable {α : Type} {d : Kd α} {e base : Nat} {ok : Nat→Prop} {w : World} {v : Value} {xs : List α}
theorem madeT (h : d.R e w base ok v xs) : ∃ A c,v=.slice A xs.length c∧xs.length≤c∧Trob (e :: d.E) w (fun W=>d.C W A xs.length xs):=by
 obtain ⟨A,c,rfl,hl,_⟩:=Kd.R_reads h;refine ⟨A,c,rfl,hl,⟨fun W k=>?_⟩⟩
 have h2:=Kd.R_move (Kd.R_bound h) (w1:=W) (fun i hi=>by
  obtain ⟨_,_,_,q,hq,cells,hc⟩:=hi
  exact k.k.2 i cells q (0,0) hc hq)
 exact (Kd.R_reads' h2).2.2
end
end Go.Proofs.YtjiaobcoeegioaaW.PrintWords
end
section
namespace Go.Proofs.Ytjiaobcoeegioaa.N
open Go.RowKit Go.Proofs.YtjiaobcoeegioaaW.PrintWords
def V : List Int→Int
 | []=>0
 | x :: l=>x+4294967296 * V l
def W (l : List Int) : Prop:=∀ x∈l,0≤x∧x < 4294967296
def P (n : Nat) : Int:=4294967296 ^ n
theorem P_zero : P 0=1:=rfl
theorem P_succ (n : Nat) : P (n+1)=4294967296 * P n:=by unfold P;rw [Int.pow_succ,Int.mul_comm]
theorem P_pos (n : Nat) : 0 < P n:=by
 induction n with
 | zero=>decide
 | succ n ih=>rw [P_succ];omega
theorem P_add (m n : Nat) : P (m+n)=P m * P n:=by unfold P;rw [Int.pow_add]
theorem P_one_le (n : Nat) : 1≤P n:=by have:=P_pos n;omega
theorem P_le {m n : Nat} (h : m≤n) : P m≤P n:=by
 obtain ⟨d,rfl⟩:=Nat.exists_eq_add_of_le h;rw [P_add];have h1:=P_pos m;have h2:=P_one_le d;have h3 : P m * 1≤P m * P d:=Int.mul_le_mul_of_nonneg_left h2 (by omega);omega
theorem W_nil : W []:=fun _ h=>by cases h
theorem W_cons {x : Int} {l : List Int} : W (x :: l)↔(0≤x∧x < 4294967296)∧W l:=by
 constructor
 ·exact fun h=>⟨h x (List.mem_cons_self ..),fun y hy=>h y (List.mem_cons_of_mem _ hy)⟩
 ·rintro ⟨h1,h2⟩ y hy
  rcases List.mem_cons.1 hy with rfl|hy
  ·exact h1
  ·exact h2 y hy
theorem W_append {l m : List Int} (h : W l) (k : W m) : W (l++m):=fun x hx=>by
 rcases List.mem_append.1 hx with hx|hx
 ·exact h x hx
 ·exact k x hx
theorem W_one {x : Int} (h0 : 0≤x) (h1 : x < 4294967296) : W [x]:=W_cons.2 ⟨⟨h0,h1⟩,W_nil⟩
theorem W_take {l : List Int} (h : W l) (n : Nat) : W (l.take n):=fun x hx=>h x (List.mem_of_mem_take hx)
theorem W_drop {l : List Int} (h : W l) (n : Nat) : W (l.drop n):=fun x hx=>h x (List.mem_of_mem_drop hx)
theorem W_set {l : List Int} (h : W l) (i : Nat) {x : Int} (h0 : 0≤x) (h1 : x < 4294967296) : W (l.set i x):=fun y hy=>by
 rcases List.mem_or_eq_of_mem_set hy with hy|rfl
 ·exact h y hy
 ·exact ⟨h0,h1⟩
theorem W_replicate (n : Nat) : W (List.replicate n 0):=fun x hx=>by
 have:=List.eq_of_mem_replicate hx;omega
theorem W_rd {l : List Int} (h : W l) (i : Int) : 0≤rd l i∧rd l i < 4294967296:=by
 unfold rd
 by_cases hi : i.toNat < l.length
 ·have e : l.getD i.toNat 0=l[i.toNat]:=by simp [List.getD_eq_getElem?_getD,hi]
  rw [e];exact h _ (List.getElem_mem hi)
 ·have e : l.getD i.toNat 0=0:=by simp [List.getD_eq_getElem?_getD,List.getElem?_eq_none (Nat.le_of_not_lt hi)]
  omega
theorem V_nil : V []=0:=rfl
theorem V_cons (x : Int) (l : List Int) : V (x :: l)=x+4294967296 * V l:=rfl
theorem V_one (x : Int) : V [x]=x:=by simp [V]
theorem V_nonneg {l : List Int} (h : W l) : 0≤V l:=by
 induction l with
 | nil=>exact Int.le_refl _
 | cons x l ih =>
  obtain ⟨h1,h2⟩:=W_cons.1 h;have:=ih h2;rw [V_cons];omega
theorem V_lt {l : List Int} (h : W l) : V l < P l.length:=by
 induction l with
 | nil=>decide
 | cons x l ih =>
  obtain ⟨h1,h2⟩:=W_cons.1 h;have:=ih h2;rw [V_cons,List.length_cons,P_succ];omega
theorem V_append (l m : List Int) : V (l++m)=V l+P l.length * V m:=by
 induction l with
 | nil=>simp [V,P]
 | cons x l ih =>
  rw [List.cons_append,V_cons,V_cons,ih,List.length_cons,P_succ]
  grind
theorem V_snoc (l : List Int) (x : Int) : V (l++[x])=V l+P l.length * x:=by rw [V_append,V_one]
theorem V_replicate (n : Nat) : V (List.replicate n 0)=0:=by
 induction n with
 | zero=>rfl
 | succ n ih=>rw [List.replicate_succ,V_cons,ih];rfl
theorem take_succ_rd (l : List Int) (i : Nat) (h : i < l.length) : l.take (i+1)=l.take i++[rd l (i : Int)]:=by
 rw [List.take_succ_eq_append_getElem h];simp [rd,List.getD_eq_getElem?_getD,h]
theorem V_take_succ (l : List Int) (i : Nat) (h : i < l.length) : V (l.take (i+1))=V (l.take i)+P i * rd l (i : Int):=by
 rw [take_succ_rd l i h,V_snoc,List.length_take,Nat.min_eq_left (by omega)]
theorem rd_beyond (l : List Int) (i : Int) (h : l.length≤i.toNat) : rd l i=0:=by
 simp [rd,List.getD_eq_getElem?_getD,List.getElem?_eq_none h]
theorem V_take_succ' (l : List Int) (i : Nat) : V (l.take (i+1))=V (l.take i)+P i * rd l (i : Int):=by
 by_cases h : i < l.length
 ·exact V_take_succ l i h
 ·rw [rd_beyond l i (by simpa using h),List.take_of_length_le (by omega),List.take_of_length_le (by omega)]
  simp
theorem V_take_all (l : List Int) (n : Nat) (h : l.length≤n) : V (l.take n)=V l:=by rw [List.take_of_length_le h]
theorem V_split (l : List Int) (n : Nat) (h : n≤l.length) : V l=V (l.take n)+P n * V (l.drop n):=by
 have h1:=V_append (l.take n) (l.drop n);rw [List.take_append_drop,List.length_take,Nat.min_eq_left h] at h1;exact h1
theorem V_split' (l : List Int) (n : Nat) : V l=V (l.take n)+P n * V (l.drop n):=by
 by_cases h : n≤l.length
 ·exact V_split l n h
 ·rw [List.take_of_length_le (by omega),List.drop_of_length_le (by omega),V_nil]
  simp
theorem V_set (l : List Int) (i : Nat) (x : Int) (h : i < l.length) : V (l.set i x)=V l+P i * (x - rd l (i : Int)):=by
 induction l generalizing i with
 | nil=>cases h
 | cons y l ih =>
  cases i with
  | zero=>simp [V,rd,P];omega
  | succ i =>
   rw [List.set_cons_succ,V_cons,V_cons,ih i (by simpa using h),P_succ]
   have e : rd (y :: l) ((i+1 : Nat) : Int)=rd l (i : Int):=by simp only [rd,Int.toNat_natCast,List.getD_cons_succ]
   rw [e]
   grind
theorem rd_set_eq (l : List Int) (i : Nat) (x : Int) (h : i < l.length) : rd (l.set i x) (i : Int)=x:=by
 simp [rd,List.getD_eq_getElem?_getD,h]
theorem rd_set_ne (l : List Int) (i : Nat) (x : Int) (j : Int) (h : j.toNat≠i) : rd (l.set i x) j=rd l j:=by
 simp only [rd,List.getD_eq_getElem?_getD];rw [List.getElem?_set_ne (by omega)]
theorem rd_replicate (n : Nat) (i : Int) : rd (List.replicate n 0) i=0:=by
 simp only [rd,List.getD_eq_getElem?_getD,List.getElem?_replicate]
 split <;> rfl
def L (n : Int) : List Int:=if h : 0 < n then n % 4294967296 :: L (n / 4294967296) else []
termination_by n.toNat
decreasing_by omega
theorem L_zero : L 0=[]:=by unfold L;rfl
theorem L_pos {n : Int} (h : 0 < n) : L n=n % 4294967296 :: L (n / 4294967296):=by
 conv=>lhs;unfold L
 rw [dif_pos h]
theorem L_neg {n : Int} (h : n≤0) : L n=[]:=by
 unfold L;rw [dif_neg (by omega)]
theorem V_L : ∀ {n : Int},0≤n→V (L n)=n:=by
 have H : ∀ (k : Nat) (n : Int),n.toNat≤k→0≤n→V (L n)=n:=by
  intro k
  induction k with
  | zero=>intro n h h0;rw [show n=0 by omega,L_zero];rfl
  | succ k ih =>
   intro n h h0
   rcases Int.lt_or_eq_of_le h0 with hp|rfl
   ·rw [L_pos hp,V_cons,ih (n / 4294967296) (by omega) (by omega)]
    omega
   ·rw [L_zero];rfl
 exact fun {n} h=>H n.toNat n (Nat.le_refl _) h
theorem W_L : ∀ (n : Int),W (L n):=by
 have H : ∀ (k : Nat) (n : Int),n.toNat≤k→W (L n):=by
  intro k
  induction k with
  | zero=>intro n h;rw [L_neg (by omega)];exact W_nil
  | succ k ih =>
   intro n h
   by_cases hp : 0 < n
   ·rw [L_pos hp]
    exact W_cons.2 ⟨by omega,ih _ (by omega)⟩
   ·rw [L_neg (by omega)];exact W_nil
 exact fun n=>H n.toNat n (Nat.le_refl _)
theorem L_length_le : ∀ (m : Nat) {n : Int},n < P m→(L n).length≤m:=by
 intro m
 induction m with
 | zero =>
  intro n h;rw [P_zero] at h;rw [L_neg (by omega)];exact Nat.le_refl _
 | succ m ih =>
  intro n h;rw [P_succ] at h
  by_cases hp : 0 < n
  ·rw [L_pos hp,List.length_cons]
   have:=ih (n:=n / 4294967296) (by omega);omega
  ·rw [L_neg (by omega)]
   exact Nat.zero_le _
theorem L_length_lt {m : Nat} {n : Int} (h : P m≤n) : m < (L n).length:=by
 rcases Nat.lt_or_ge m (L n).length with hlt|hge
 ·exact hlt
 ·have h0 : 0≤n:=by have:=P_pos m;omega
  have h1:=V_lt (W_L n);rw [V_L h0] at h1;have:=P_le hge;omega
theorem L_nil_iff {n : Int} (h : 0≤n) : L n=[]↔n=0:=by
 constructor
 ·intro e
  have:=V_L h;rw [e] at this;exact this.symm
 ·rintro rfl
  exact L_zero
theorem L_inj {m n : Int} (hm : 0≤m) (hn : 0≤n) (h : L m=L n) : m=n:=by rw [← V_L hm,← V_L hn,h]
theorem L_V : ∀ {l : List Int},W l→(∀ h : l≠[],l.getLast h≠0)→L (V l)=l:=by
 intro l
 induction l with
 | nil=>intro _ _;exact L_zero
 | cons x l ih =>
  intro hw hl;obtain ⟨h1,h2⟩:=W_cons.1 hw;have hv:=V_nonneg h2
  have hih : L (V l)=l:=ih h2 (fun hne=>by
   have:=hl (by simp)
   rwa [List.getLast_cons hne] at this)
  have hp : 0 < V (x :: l):=by
   rw [V_cons]
   by_cases hne : l=[]
   ·subst hne
    have:=hl (by simp);simp at this;simp [V];omega
   ·have : V l≠0:=fun e=>hne (by rw [← hih,e,L_zero])
    omega
  rw [L_pos hp,V_cons,show (x+4294967296 * V l) % 4294967296=x by omega,show (x+4294967296 * V l) / 4294967296=V l by omega,hih]
theorem L_last {n : Int} : ∀ h : L n≠[],(L n).getLast h≠0:=by
 have H : ∀ (k : Nat) (n : Int),n.toNat≤k → ∀ h : L n≠[],(L n).getLast h≠0:=by
  intro k
  induction k with
  | zero=>intro n h hne;exact absurd (L_neg (by omega)) hne
  | succ k ih =>
   intro n h hne
   by_cases hp : 0 < n
   ·have e:=L_pos hp
    by_cases hz : L (n / 4294967296)=[]
    ·have hz0:=(L_nil_iff (show 0≤n / 4294967296 by omega)).1 hz
     have : (L n).getLast hne=n % 4294967296:=by
      simp only [e,hz,List.getLast_singleton]
     rw [this];omega
    ·have:=ih (n / 4294967296) (by omega) hz
     have e2 : (L n).getLast hne=(L (n / 4294967296)).getLast hz:=by
      simp only [e,List.getLast_cons hz]
     rw [e2];exact this
   ·exact absurd (L_neg (by omega)) hne
 exact H n.toNat n (Nat.le_refl _)
theorem V_take_lt {a : List Int} (h : W a) (i : Nat) : V (a.take i) < P i:=by
 have h1:=V_lt (W_take h i);have h2 : (a.take i).length≤i:=List.length_take_le _ _;have:=P_le h2;omega
theorem P_mul_lt {i : Nat} {x y p q : Int} (hp0 : 0≤p) (hp : p < P i) (hq0 : 0≤q) (h : x < y) : p+P i * x < q+P i * y:=by
 have h1 : P i * (x+1)≤P i * y:=Int.mul_le_mul_of_nonneg_left (by omega) (by have:=P_pos i;omega);rw [Int.mul_add] at h1;omega
theorem wrap_u64_of {x : Int} (h0 : 0≤x) (h1 : x < 18446744073709551616) : IntKind.u64.wrap x=x:=by
 simp only [IntKind.wrap,IntKind.bits,IntKind.signed];simp;omega
attribute [irreducible] P V
end Go.Proofs.Ytjiaobcoeegioaa.N
end
section
namespace Go.Proofs.Ytjiaobcoeegioaa.N
open Go.RowKit Go.Proofs.YtjiaobcoeegioaaW.PrintWords Go.Proofs.YtjiaobcoeegioaaW.PrintLast Go.Proofs.Ytjiaobcoeegioaa.Pq
theorem Ev_pos {α : Type} {c : Prop} [Decidable c] {f g : Nat→Option α} {r : α} (hc : c) (h : Ev f r) : Ev (fun k=>if c then f k else g k) r:=Ev.congr (fun k=>if_pos hc) h
theorem Ev_neg {α : Type} {c : Prop} [Decidable c] {f g : Nat→Option α} {r : α} (hc : ¬ c) (h : Ev g r) : Ev (fun k=>if c then f k else g k) r:=Ev.congr (fun k=>if_neg hc) h
theorem Ev_some {α β : Type} {o : Option α} {f : Nat→α→Option β} {a : α} {r : β} (h : o=some a) (k : Ev (fun n=>f n a) r) : Ev (fun n=>o.bind (f n)) r:=by
 subst h;exact k
theorem Ev_now {α : Type} {o : Option α} {r : α} (h : o=some r) : Ev (fun _=>o) r:=⟨0,fun _ _=>h⟩
theorem Ev_eq {α : Type} {f : Nat→Option α} {r s : α} (h : Ev f r) (e : r=s) : Ev f s:=e ▸ h
theorem Ev_up {α : Type} {f : Nat→Option α} {r : α} (h : Ev (fun k=>f (k+1)) r) : Ev f r:=Ev.step (fun k=>rfl) h
theorem n_take {l : List Int} (hw : W l) : ∀ m,m≤l.length→l.take (nat_trim.n l m)=L (V (l.take m))
 | 0,_=>by
  show l.take 0=_
  rw [List.take_zero,V_nil,L_zero]
 | m+1,h=>by
  have hv:=V_take_succ l m (by omega)
  show l.take (if l.getD m 0=0 then nat_trim.n l m else m+1)=_
  have hrd : rd l (m : Int)=l.getD m 0:=rfl
  by_cases hz : l.getD m 0=0
  ·rw [if_pos hz,n_take hw m (by omega),hv,hrd,hz]
   simp
  ·rw [if_neg hz]
   refine (L_V (W_take hw _) (fun hne=>?_)).symm;have e:=take_succ_rd l m (by omega)
   have : (l.take (m+1)).getLast hne=rd l (m : Int):=by
    simp only [e,List.getLast_append,List.getLast_singleton];simp
   rw [this,hrd];exact hz
theorem trim_f {l : List Int} (hw : W l) : nat_trim.f l=some (L (V l)):=by
 unfold nat_trim.f;rw [n_take hw l.length (Nat.le_refl _),List.take_length]
theorem L_len_le {l : List Int} (hw : W l) : (L (V l)).length≤l.length:=L_length_le _ (V_lt hw)
abbrev Sm (l : List Int) : Prop:=l.length < 35184372087809
theorem Sm_L {l : List Int} (hw : W l) (h : Sm l) : Sm (L (V l)):=Nat.lt_of_le_of_lt (L_len_le hw) h
theorem clone_f {l : List Int} (h : l.length < 35184372088832) : slices_Clone_uint32_uint32.f l=some l:=if_pos h
theorem norm_f {l : List Int} (hw : W l) (h : Sm l) : nat_Norm.f l=some (L (V l)):=by
 have hl:=Sm_L hw h;unfold nat_Norm.f;rw [trim_f hw,Option.bind_some,clone_f (by unfold Sm at hl;omega),Option.bind_some]
theorem rnorm_l {l : List Int} (h : l.length < 35184372088832) : ∀ (m : Nat),m≤l.length→Ev (fun k=>penumbraref01_Norm.l0 k l (m : Int)) (l.take (nat_trim.n l m))
 | 0,_=>by
  refine Ev.step (fun k=>rfl) ?_;refine Ev_neg (by omega) ?_;refine Ev_some rfl ?_;refine Ev_pos (by omega) ?_;refine Ev_pos (by omega) ?_;refine Ev_pos (by simp) ?_;exact Ev_now (by simp [nat_trim.n])
 | m+1,hm=>by
  have w1 : wrap64 (((m+1 : Nat) : Int) - 1)=(m : Int):=by unfold wrap64;omega
  refine Ev.step (fun k=>rfl) ?_;refine Ev_pos (by omega) ?_;rw [w1];refine Ev_pos (by omega) ?_;refine Ev_pos (by omega) ?_;have hrd : rd l (m : Int)=l.getD m 0:=rfl
  by_cases hz : l.getD m 0=0
  ·refine Ev_pos (hrd.trans hz) ?_
   refine Ev_eq (rnorm_l h m (by omega)) ?_
   show _=l.take (if l.getD m 0=0 then nat_trim.n l m else m+1)
   rw [if_pos hz]
  ·refine Ev_neg (fun e=>hz (hrd.symm.trans e)) ?_
   refine Ev_some rfl ?_;refine Ev_pos (by omega) ?_;refine Ev_pos (by omega) ?_;refine Ev_pos (by simp;omega) ?_;refine Ev_now ?_
   show _=some (l.take (if l.getD m 0=0 then nat_trim.n l m else m+1))
   rw [if_neg hz];simp only [List.nil_append,Int.toNat_natCast]
theorem rnorm_f {l : List Int} (hw : W l) (h : l.length < 35184372088832) : Ev (fun k=>penumbraref01_Norm.f k l) (L (V l)):=by
 refine Ev_eq (rnorm_l h l.length (Nat.le_refl _)) ?_;rw [n_take hw l.length (Nat.le_refl _),List.take_length]
theorem same_l (a : List Int) (h : a.length < 4611686018427387904) : ∀ (d m : Nat),a.length - m=d→m≤a.length→Ev (fun k=>penumbraref01_Same.l0 k a a (m : Int)) true
 | 0,m,hd,hm=>by
  refine Ev.step (fun k=>rfl) ?_;refine Ev_neg (by omega) ?_;exact Ev.now _
 | d+1,m,hd,hm=>by
  have w1 : wrap64 ((m : Int)+1)=((m+1 : Nat) : Int):=by unfold wrap64;omega
  refine Ev.step (fun k=>rfl) ?_;refine Ev_pos (by omega) ?_;refine Ev_pos (by omega) ?_;refine Ev_pos (by omega) ?_;refine Ev_pos rfl ?_;rw [w1];exact same_l a h d (m+1) (by omega) (by omega)
theorem same_f {a : List Int} (h : a.length < 4611686018427387904) : Ev (fun k=>penumbraref01_Same.f k a a) true:=by
 refine Ev_pos rfl ?_;exact same_l a h a.length 0 (by omega) (by omega)
theorem limb_f {a : List Int} (hw : W a) (i : Nat) : penumbraref01_limb.f a (i : Int)=some (rd a (i : Int)):=by
 unfold penumbraref01_limb.f;have hb:=W_rd hw (i : Int)
 by_cases h : (i : Int) < (a.length : Int)
 ·rw [if_pos h,if_pos (by omega),wrap_u64_of hb.1 (by omega)]
 ·rw [if_neg h,rd_beyond a i (by omega)]
theorem add32_f {a b c : Int} (ha : 0≤a∧a < 4294967296) (hb : 0≤b∧b < 4294967296) (hc : 0≤c∧c≤1) : bits_Add32.f a b c=some ((a+b+c) % 4294967296,(a+b+c) / 4294967296):=by
 unfold bits_Add32.f;rw [wrap_u64_of ha.1 (by omega),wrap_u64_of hb.1 (by omega),wrap_u64_of hc.1 (by omega),wrap_u64_of (x:=a+b) (by omega) (by omega),wrap_u64_of (x:=a+b+c) (by omega) (by omega)];rw [show ((a+b+c) / 4294967296) % 4294967296=(a+b+c) / 4294967296 by omega]
theorem sub32_f {a b c : Int} (ha : 0≤a∧a < 4294967296) (hb : 0≤b∧b < 4294967296) (hc : 0≤c∧c≤1) : bits_Sub32.f a b c=some ((a - b - c) % 4294967296,bits_Sub32.b a b c):=by
 unfold bits_Sub32.f;rw [if_pos ⟨ha,hb,hc⟩]
theorem sub32_b (a b c : Int) : (a < b+c→bits_Sub32.b a b c=1)∧(b+c≤a→bits_Sub32.b a b c=0):=by
 unfold bits_Sub32.b;constructor
 ·intro h;rw [if_pos h]
 ·intro h;rw [if_neg (by omega)]
def cm (x y : Int) : Int:=if x < y then -1 else if y < x then 1 else 0
theorem cmp_step (a b : List Int) (i : Nat) (ha : W a) (hb : W b) : cm (V (a.take (i+1))) (V (b.take (i+1)))=if rd a (i : Int) < rd b (i : Int) then -1 else if rd a (i : Int) > rd b (i : Int) then 1 else cm (V (a.take i)) (V (b.take i)):=by
 rw [V_take_succ',V_take_succ'];have a1:=V_nonneg (W_take ha i);have a2:=V_take_lt ha i;have b1:=V_nonneg (W_take hb i);have b2:=V_take_lt hb i
 rcases Int.lt_trichotomy (rd a (i : Int)) (rd b (i : Int)) with h|h|h
 ·rw [if_pos h]
  unfold cm;rw [if_pos (P_mul_lt a1 a2 b1 h)]
 ·rw [if_neg (by omega),if_neg (by omega),h]
  unfold cm;generalize P i * rd b (i : Int)=z
  by_cases h1 : V (a.take i) < V (b.take i)
  ·rw [if_pos h1,if_pos (by omega)]
  ·rw [if_neg h1,if_neg (by omega)]
   by_cases h2 : V (b.take i) < V (a.take i)
   ·rw [if_pos h2,if_pos (by omega)]
   ·rw [if_neg h2,if_neg (by omega)]
 ·have:=P_mul_lt b1 b2 a1 h
  rw [if_neg (by omega),if_pos h];unfold cm;rw [if_neg (by omega),if_pos this]
theorem ncmp_l {a b : List Int} (ha : W a) (hb : W b) (hl : a.length=b.length) (hs : a.length < 35184372087809) : ∀ (m : Nat),m≤a.length→Ev (fun k=>nat_Cmp.l0 k a b ((m : Int) - 1)) (cm (V (a.take m)) (V (b.take m)))
 | 0,_=>by
  refine Ev.step (fun k=>rfl) ?_;refine Ev_neg (by omega) ?_;exact Ev_now (by simp [cm])
 | m+1,h=>by
  have e : ((m+1 : Nat) : Int) - 1=(m : Int):=by omega
  have w1 : wrap64 ((m : Int) - 1)=(m : Int) - 1:=by unfold wrap64;omega
  rw [e,cmp_step a b m ha hb];refine Ev.step (fun k=>rfl) ?_;refine Ev_pos (by omega) ?_;refine Ev_pos (by omega) ?_;refine Ev_pos (by omega) ?_;refine Ev_pos (by omega) ?_
  by_cases h1 : rd a (m : Int) < rd b (m : Int)
  ·rw [if_pos h1]
   refine Ev_pos h1 ?_;exact Ev.now _
  ·rw [if_neg h1]
   refine Ev_neg h1 ?_
   by_cases h2 : rd a (m : Int) > rd b (m : Int)
   ·rw [if_pos h2]
    refine Ev_pos h2 ?_;exact Ev.now _
   ·rw [if_neg h2,w1]
    refine Ev_neg h2 ?_;exact ncmp_l ha hb hl hs m (by omega)
theorem ncmp_f {a b : List Int} (ha : W a) (hb : W b) (sa : Sm a) (sb : Sm b) : Ev (fun k=>nat_Cmp.f k a b) (cm (V a) (V b)):=by
 have hla:=Sm_L ha sa;have hlb:=Sm_L hb sb;unfold Sm at hla hlb;have va:=V_nonneg ha;have vb:=V_nonneg hb;have A:=V_lt (W_L (V a));have Bv:=V_lt (W_L (V b));rw [V_L va] at A;rw [V_L vb] at Bv;refine Ev_some (trim_f ha) ?_;refine Ev_some (trim_f hb) ?_
 rcases Nat.lt_trichotomy (L (V a)).length (L (V b)).length with h|h|h
 ·refine Ev_neg (by omega) ?_
  refine Ev_pos (by omega) ?_;refine Ev_now ?_
  have : V a < V b:=by
   by_cases h1 : V a < V b
   ·exact h1
   ·have:=L_length_le (L (V a)).length (n:=V b) (by omega)
    omega
  unfold cm;rw [if_pos this]
 ·refine Ev_pos (by omega) ?_
  have w1 : wrap64 (((L (V a)).length : Int) - 1)=((L (V a)).length : Int) - 1:=by unfold wrap64;omega
  rw [w1];refine Ev_eq (ncmp_l (W_L _) (W_L _) h hla _ (Nat.le_refl _)) ?_;rw [List.take_length,h,List.take_length,V_L va,V_L vb]
 ·refine Ev_neg (by omega) ?_
  refine Ev_neg (by omega) ?_;refine Ev_now ?_
  have : V b < V a:=by
   by_cases h1 : V b < V a
   ·exact h1
   ·have:=L_length_le (L (V b)).length (n:=V a) (by omega)
    omega
  unfold cm;rw [if_neg (by omega),if_pos this]
theorem rcmp_l {a b : List Int} (ha : W a) (hb : W b) : ∀ (m : Nat),m < 70368744177664→Ev (fun k=>penumbraref01_Cmp.l0 k a b ((m : Int) - 1)) (cm (V (a.take m)) (V (b.take m)))
 | 0,_=>by
  refine Ev.step (fun k=>rfl) ?_;refine Ev_neg (by omega) ?_;exact Ev_now (by simp [cm])
 | m+1,h=>by
  have e : ((m+1 : Nat) : Int) - 1=(m : Int):=by omega
  have w1 : wrap64 ((m : Int) - 1)=(m : Int) - 1:=by unfold wrap64;omega
  rw [e,cmp_step a b m ha hb];refine Ev.step (fun k=>rfl) ?_;refine Ev_pos (by omega) ?_;refine Ev_some (limb_f ha m) ?_;refine Ev_some (limb_f hb m) ?_
  by_cases h1 : rd a (m : Int) < rd b (m : Int)
  ·rw [if_pos h1]
   refine Ev_pos h1 ?_;exact Ev.now _
  ·rw [if_neg h1]
   refine Ev_neg h1 ?_
   by_cases h2 : rd a (m : Int) > rd b (m : Int)
   ·rw [if_pos h2]
    refine Ev_pos h2 ?_;exact Ev.now _
   ·rw [if_neg h2,w1]
    refine Ev_neg h2 ?_;exact rcmp_l ha hb m (by omega)
theorem rcmp_f {a b : List Int} (ha : W a) (hb : W b) (sa : Sm a) (sb : Sm b) : Ev (fun k=>penumbraref01_Cmp.f k a b) (cm (V a) (V b)):=by
 unfold Sm at sa sb
 have hm : ∃ m : Nat,m < 70368744177664∧a.length≤m∧b.length≤m∧wrap64 ((mx (a.length : Int) (b.length : Int)) - 1)=(m : Int) - 1:=by
  refine ⟨max a.length b.length,by omega,by omega,by omega,?_⟩
  have : mx (a.length : Int) (b.length : Int)=((max a.length b.length : Nat) : Int):=by
   unfold mx
   split <;> omega
  rw [this];unfold wrap64;omega
 obtain ⟨m,h1,h2,h3,e⟩:=hm;have:=rcmp_l ha hb m h1;rw [V_take_all a m h2,V_take_all b m h3] at this
 show Ev (fun k=>penumbraref01_Cmp.l0 k a b (wrap64 ((mx (a.length : Int) (b.length : Int)) - 1))) _
 rw [e];exact this
theorem nadd_l0 {a b : List Int} (ha : W a) (hb : W b) (hl : b.length≤a.length) (sa : Sm a) : ∀ (d i : Nat) (p : List Int) (c : Int),a.length - i=d→i≤a.length→W p→p.length=i→0≤c∧c≤1 →
  V p+P i * c=V (a.take i)+V (b.take i)→Ev (fun k=>nat_Add.l0 k b p c a (a.length : Int) (i : Int)) (L (V a+V b)):=by
 intro d
 induction d with
 | zero =>
  intro i p c hd hi hp hpl hc hv;have sa' : a.length < 35184372087809:=sa
  obtain rfl : i=a.length:=by omega
  refine Ev.step (fun k=>rfl) ?_;refine Ev_neg (by omega) ?_;refine Ev_pos (by omega) ?_;refine Ev_some (trim_f (W_append hp (W_one hc.1 (by omega)))) ?_;refine Ev_now ?_;rw [V_snoc,hpl,hv,List.take_length,V_take_all b _ hl]
 | succ d ih =>
  intro i p c hd hi hp hpl hc hv;have HV:=Aside0.mk hv;clear hv;have sa' : a.length < 35184372087809:=sa
  have w1 : wrap64 ((i : Int)+1)=((i+1 : Nat) : Int):=by unfold wrap64;omega
  have ra:=W_rd ha (i : Int);have rb:=W_rd hb (i : Int)
  have key : Aside0 (V (p++[(rd a (i : Int)+rd b (i : Int)+c) % 4294967296])+P (i+1) * ((rd a (i : Int)+rd b (i : Int)+c) / 4294967296)=V (a.take (i+1))+V (b.take (i+1))):=⟨by
   have hv:=HV.out;rw [V_snoc,hpl,V_take_succ' a i,V_take_succ' b i,P_succ];have:=Int.emod_add_mul_ediv (rd a (i : Int)+rd b (i : Int)+c) 4294967296
   grind⟩
  have hrec:=ih (i+1) (p++[(rd a (i : Int)+rd b (i : Int)+c) % 4294967296]) ((rd a (i : Int)+rd b (i : Int)+c) / 4294967296) (by omega) (by omega) (W_append hp (W_one (by omega) (by omega))) (by simp [hpl]) (by omega) key.out;refine Ev.step (fun k=>rfl) ?_;refine Ev_pos (by omega) ?_;refine Ev_pos (by omega) ?_;refine Ev_pos (by omega) ?_
  by_cases hib : (i : Int) < (b.length : Int)
  ·refine Ev_pos hib ?_
   refine Ev_some (add32_f ra rb hc) ?_;refine Ev_pos (by omega) ?_;rw [w1];exact hrec
  ·have hz : rd b (i : Int)=0:=rd_beyond b _ (by omega)
   rw [hz] at hrec rb;refine Ev_neg hib ?_;refine Ev_some (add32_f ra rb hc) ?_;refine Ev_pos (by omega) ?_;rw [w1];exact hrec
theorem nadd_l100 {a b : List Int} (ha : W a) (hb : W b) (hl : b.length≤a.length) (sa : Sm a) : ∀ (d i : Nat) (p : List Int) (c : Int),a.length - i=d→i≤a.length→W p→p.length=i→0≤c∧c≤1 →
  V p+P i * c=V (a.take i)+V (b.take i)→Ev (fun k=>nat_Add.l100 k b p c a (a.length : Int) (i : Int)) (L (V a+V b)):=by
 intro d
 induction d with
 | zero =>
  intro i p c hd hi hp hpl hc hv;have sa' : a.length < 35184372087809:=sa
  obtain rfl : i=a.length:=by omega
  refine Ev.step (fun k=>rfl) ?_;refine Ev_neg (by omega) ?_;refine Ev_pos (by omega) ?_;refine Ev_some (trim_f (W_append hp (W_one hc.1 (by omega)))) ?_;refine Ev_now ?_;rw [V_snoc,hpl,hv,List.take_length,V_take_all b _ hl]
 | succ d ih =>
  intro i p c hd hi hp hpl hc hv;have HV:=Aside0.mk hv;clear hv;have sa' : a.length < 35184372087809:=sa
  have w1 : wrap64 ((i : Int)+1)=((i+1 : Nat) : Int):=by unfold wrap64;omega
  have ra:=W_rd ha (i : Int);have rb:=W_rd hb (i : Int)
  have key : Aside0 (V (p++[(rd a (i : Int)+rd b (i : Int)+c) % 4294967296])+P (i+1) * ((rd a (i : Int)+rd b (i : Int)+c) / 4294967296)=V (a.take (i+1))+V (b.take (i+1))):=⟨by
   have hv:=HV.out;rw [V_snoc,hpl,V_take_succ' a i,V_take_succ' b i,P_succ];have:=Int.emod_add_mul_ediv (rd a (i : Int)+rd b (i : Int)+c) 4294967296
   grind⟩
  have hrec:=ih (i+1) (p++[(rd a (i : Int)+rd b (i : Int)+c) % 4294967296]) ((rd a (i : Int)+rd b (i : Int)+c) / 4294967296) (by omega) (by omega) (W_append hp (W_one (by omega) (by omega))) (by simp [hpl]) (by omega) key.out;refine Ev.step (fun k=>rfl) ?_;refine Ev_pos (by omega) ?_;refine Ev_pos (by omega) ?_;refine Ev_pos (by omega) ?_
  by_cases hib : (i : Int) < (b.length : Int)
  ·refine Ev_pos hib ?_
   refine Ev_some (add32_f ra rb hc) ?_;refine Ev_pos (by omega) ?_;rw [w1];exact hrec
  ·have hz : rd b (i : Int)=0:=rd_beyond b _ (by omega)
   rw [hz] at hrec rb;refine Ev_neg hib ?_;refine Ev_some (add32_f ra rb hc) ?_;refine Ev_pos (by omega) ?_;rw [w1];exact hrec
theorem nadd_f {a b : List Int} (ha : W a) (hb : W b) (sa : Sm a) (sb : Sm b) : Ev (fun k=>nat_Add.f k a b) (L (V a+V b)):=by
 have hla:=Sm_L ha sa;have hlb:=Sm_L hb sb;have va:=V_nonneg ha;have vb:=V_nonneg hb;have hla':=hla;have hlb':=hlb;unfold Sm at hla' hlb';refine Ev_some (trim_f ha) ?_;refine Ev_some (trim_f hb) ?_
 by_cases h : ((L (V a)).length : Int) < ((L (V b)).length : Int)
 ·have w1 : wrap64 (((L (V b)).length : Int)+1)=((L (V b)).length : Int)+1:=by unfold wrap64;omega
  refine Ev_pos h ?_;rw [w1];refine Ev_pos (by omega) ?_;refine Ev_pos (by omega) ?_;refine Ev_eq (nadd_l0 (W_L _) (W_L _) (by omega) hlb _ 0 [] 0 rfl (Nat.zero_le _) W_nil rfl (by omega) (by simp [V])) ?_;rw [V_L va,V_L vb,Int.add_comm]
 ·have w1 : wrap64 (((L (V a)).length : Int)+1)=((L (V a)).length : Int)+1:=by unfold wrap64;omega
  refine Ev_neg h ?_;rw [w1];refine Ev_pos (by omega) ?_;refine Ev_pos (by omega) ?_;refine Ev_eq (nadd_l100 (W_L _) (W_L _) (by omega) hla _ 0 [] 0 rfl (Nat.zero_le _) W_nil rfl (by omega) (by simp [V])) ?_;rw [V_L va,V_L vb]
theorem radd_l {a b : List Int} (ha : W a) (hb : W b) (sa : Sm a) (sb : Sm b) : ∀ (d i : Nat) (p : List Int) (c : Int),max a.length b.length - i=d→i≤max a.length b.length→W p→p.length=i→0≤c∧c≤1 →
  V p+P i * c=V (a.take i)+V (b.take i)→Ev (fun k=>penumbraref01_Add.l0 k a b p c (i : Int)) (L (V a+V b)):=by
 intro d
 induction d with
 | zero =>
  intro i p c hd hi hp hpl hc hv;have sa' : a.length < 35184372087809:=sa;have sb' : b.length < 35184372087809:=sb;refine Ev.step (fun k=>rfl) ?_;refine Ev_neg (by omega) ?_;have hdec : decide ((i : Int) < (b.length : Int))=false:=decide_eq_false (by omega);rw [hdec];refine Ev_up ?_;unfold penumbraref01_Add.j1;refine Ev_neg (by decide) ?_;refine Ev_pos (by omega) ?_
  have ec : c % 4294967296=c:=by omega
  rw [ec];refine Ev.bind (rnorm_f (W_append hp (W_one hc.1 (by omega))) (by simp;omega)) ?_;refine Ev_now ?_;rw [V_snoc,hpl,hv,V_take_all a _ (by omega),V_take_all b _ (by omega)]
 | succ d ih =>
  intro i p c hd hi hp hpl hc hv;have HV:=Aside0.mk hv;clear hv;have sa' : a.length < 35184372087809:=sa;have sb' : b.length < 35184372087809:=sb
  have w1 : wrap64 ((i : Int)+1)=((i+1 : Nat) : Int):=by unfold wrap64;omega
  have ra:=W_rd ha (i : Int);have rb:=W_rd hb (i : Int)
  have key : Aside0 (V (p++[(rd a (i : Int)+rd b (i : Int)+c) % 4294967296])+P (i+1) * ((rd a (i : Int)+rd b (i : Int)+c) / 4294967296)=V (a.take (i+1))+V (b.take (i+1))):=⟨by
   have hv:=HV.out;rw [V_snoc,hpl,V_take_succ' a i,V_take_succ' b i,P_succ];have:=Int.emod_add_mul_ediv (rd a (i : Int)+rd b (i : Int)+c) 4294967296
   grind⟩
  have hrec:=ih (i+1) (p++[(rd a (i : Int)+rd b (i : Int)+c) % 4294967296]) ((rd a (i : Int)+rd b (i : Int)+c) / 4294967296) (by omega) (by omega) (W_append hp (W_one (by omega) (by omega))) (by simp [hpl]) (by omega) key.out
  have hx : Ev (fun k=>penumbraref01_Add.j1 k a b p c (i : Int) true) (L (V a+V b)):=by
   refine Ev_up ?_;unfold penumbraref01_Add.j1;refine Ev_pos rfl ?_;refine Ev_some (limb_f ha i) ?_;refine Ev_some (limb_f hb i) ?_;refine Ev_pos (by omega) ?_
   have w2 : IntKind.u64.wrap (IntKind.u64.wrap (rd a (i : Int)+rd b (i : Int))+c)=rd a (i : Int)+rd b (i : Int)+c:=by rw [wrap_u64_of (x:=rd a (i : Int)+rd b (i : Int)) (by omega) (by omega),wrap_u64_of (by omega) (by omega)]
   rw [w2,w1,Int.tmod_eq_emod_of_nonneg (by omega),Int.tdiv_eq_ediv_of_nonneg (by omega),wrap_u64_of (by omega) (by omega),Int.emod_emod];exact hrec
  refine Ev.step (fun k=>rfl) ?_
  by_cases hia : (i : Int) < (a.length : Int)
  ·refine Ev_pos hia ?_
   exact hx
  ·refine Ev_neg hia ?_
   have hdec : decide ((i : Int) < (b.length : Int))=true:=decide_eq_true (by omega);rw [hdec];exact hx
theorem radd_f {a b : List Int} (ha : W a) (hb : W b) (sa : Sm a) (sb : Sm b) : Ev (fun k=>penumbraref01_Add.f k a b) (L (V a+V b)) :=
 radd_l ha hb sa sb _ 0 [] 0 rfl (Nat.zero_le _) W_nil rfl (by omega) (by simp [V])
theorem nsub_l {a b : List Int} (ha : W a) (hb : W b) (hl : b.length≤a.length) (sa : Sm a) (hle : V b≤V a) : ∀ (d i : Nat) (p : List Int) (c : Int),a.length - i=d→i≤a.length→W p→p.length=i→0≤c∧c≤1 →
  V p - P i * c=V (a.take i) - V (b.take i)→Ev (fun k=>nat_Sub.l0 k b p c a (a.length : Int) (i : Int)) (L (V a - V b),true):=by
 intro d
 induction d with
 | zero =>
  intro i p c hd hi hp hpl hc hv;have sa' : a.length < 35184372087809:=sa
  obtain rfl : i=a.length:=by omega
  refine Ev.step (fun k=>rfl) ?_;refine Ev_neg (by omega) ?_;refine Ev_some (trim_f hp) ?_;refine Ev_now ?_;rw [List.take_length,V_take_all b _ hl] at hv;have h1:=V_lt hp;rw [hpl] at h1;have h2:=P_pos a.length
  have hc0 : c=0:=by
   rcases (show c=0∨c=1 by omega) with h|h
   ·exact h
   ·rw [h] at hv;omega
  rw [hc0] at hv;rw [show V p=V a - V b by simpa using hv]
 | succ d ih =>
  intro i p c hd hi hp hpl hc hv;have HV:=Aside0.mk hv;clear hv;have sa' : a.length < 35184372087809:=sa
  have w1 : wrap64 ((i : Int)+1)=((i+1 : Nat) : Int):=by unfold wrap64;omega
  have ra:=W_rd ha (i : Int);have rb:=W_rd hb (i : Int);have hbb:=sub32_b (rd a (i : Int)) (rd b (i : Int)) c
  have hb01 : bits_Sub32.b (rd a (i : Int)) (rd b (i : Int)) c=0∨bits_Sub32.b (rd a (i : Int)) (rd b (i : Int)) c=1:=by
   rcases Int.lt_or_le (rd a (i : Int)) (rd b (i : Int)+c) with h|h
   ·exact .inr (hbb.1 h)
   ·exact .inl (hbb.2 h)
  have hlim : (rd a (i : Int) - rd b (i : Int) - c) % 4294967296 - 4294967296 * bits_Sub32.b (rd a (i : Int)) (rd b (i : Int)) c=rd a (i : Int) - rd b (i : Int) - c:=by
   rcases Int.lt_or_le (rd a (i : Int)) (rd b (i : Int)+c) with h|h
   ·rw [hbb.1 h];omega
   ·rw [hbb.2 h];omega
  have key : Aside0 (V (p++[(rd a (i : Int) - rd b (i : Int) - c) % 4294967296]) - P (i+1) * (bits_Sub32.b (rd a (i : Int)) (rd b (i : Int)) c)=V (a.take (i+1)) - V (b.take (i+1))):=⟨by
   have hv:=HV.out;rw [V_snoc,hpl,V_take_succ' a i,V_take_succ' b i,P_succ]
   grind⟩
  have hrec:=ih (i+1) (p++[(rd a (i : Int) - rd b (i : Int) - c) % 4294967296]) (bits_Sub32.b (rd a (i : Int)) (rd b (i : Int)) c) (by omega) (by omega) (W_append hp (W_one (by omega) (by omega))) (by simp [hpl]) (by omega) key.out;refine Ev.step (fun k=>rfl) ?_;refine Ev_pos (by omega) ?_;refine Ev_pos (by omega) ?_;refine Ev_pos (by omega) ?_
  by_cases hib : (i : Int) < (b.length : Int)
  ·refine Ev_pos hib ?_
   refine Ev_some (sub32_f ra rb hc) ?_;refine Ev_pos (by omega) ?_;rw [w1];exact hrec
  ·have hz : rd b (i : Int)=0:=rd_beyond b _ (by omega)
   rw [hz] at hrec rb;refine Ev_neg hib ?_;refine Ev_some (sub32_f ra rb hc) ?_;refine Ev_pos (by omega) ?_;rw [w1];exact hrec
def subS (x y : Int) : List Int × Bool:=if x < y then ([],false) else (L (x - y),true)
theorem cm_neg {x y : Int} : cm x y < 0↔x < y:=by
 unfold cm
 split
 ·simp [*]
 ·split <;> simp [*]
theorem nsub_f {a b : List Int} (ha : W a) (hb : W b) (sa : Sm a) (sb : Sm b) : Ev (fun k=>nat_Sub.f k a b) (subS (V a) (V b)):=by
 have hla:=Sm_L ha sa;have hlb:=Sm_L hb sb;have va:=V_nonneg ha;have vb:=V_nonneg hb;have hla':=hla;have hlb':=hlb;unfold Sm at hla' hlb';refine Ev.bind (ncmp_f ha hb sa sb) ?_;unfold subS
 by_cases h : V a < V b
 ·rw [if_pos h]
  refine Ev_pos (cm_neg.2 h) ?_;exact Ev.now _
 ·rw [if_neg h]
  refine Ev_neg (fun e=>h (cm_neg.1 e)) ?_;refine Ev_some (trim_f ha) ?_;refine Ev_some (trim_f hb) ?_;refine Ev_pos (by omega) ?_;refine Ev_pos (by omega) ?_
  have hle : (L (V b)).length≤(L (V a)).length:=by
   apply L_length_le;have h1:=V_lt (W_L (V a));rw [V_L va] at h1;omega
  refine Ev_eq (nsub_l (W_L _) (W_L _) hle hla (by rw [V_L va,V_L vb];omega) _ 0 [] 0 rfl (Nat.zero_le _) W_nil rfl (by omega) (by simp [V])) ?_;rw [V_L va,V_L vb]
theorem rsub_l {a b : List Int} (ha : W a) (hb : W b) (sa : Sm a) (hle : V b≤V a) : ∀ (d i : Nat) (p : List Int) (c : Int),a.length - i=d→i≤a.length→W p→p.length=i→0≤c∧c≤1 →
  V p - P i * c=V (a.take i) - V (b.take i)→Ev (fun k=>penumbraref01_Sub.l0 k a b p c (i : Int)) (L (V a - V b),true):=by
 intro d
 induction d with
 | zero =>
  intro i p c hd hi hp hpl hc hv;have sa' : a.length < 35184372087809:=sa
  obtain rfl : i=a.length:=by omega
  refine Ev.step (fun k=>rfl) ?_;refine Ev_neg (by omega) ?_;refine Ev.bind (rnorm_f hp (by omega)) ?_;refine Ev_now ?_;rw [List.take_length] at hv;have h1:=V_lt hp;rw [hpl] at h1;have h2:=P_pos a.length;have h3:=V_nonneg hp;have h4:=V_split' b a.length;have h5:=V_nonneg (W_take hb a.length);have h6:=V_nonneg (W_drop hb a.length);have h7:=V_lt ha
  have h8 : V (b.drop a.length)=0:=by
   rcases (show V (b.drop a.length)=0∨1≤V (b.drop a.length) by omega) with h|h
   ·exact h
   ·have : P a.length * 1≤P a.length * V (b.drop a.length):=Int.mul_le_mul_of_nonneg_left h (by omega)
    omega
  rw [h8] at h4
  have hc0 : c=0:=by
   rcases (show c=0∨c=1 by omega) with h|h
   ·exact h
   ·rw [h] at hv;omega
  rw [hc0] at hv;rw [show V p=V a - V b by simp at hv h4;omega]
 | succ d ih =>
  intro i p c hd hi hp hpl hc hv;have HV:=Aside0.mk hv;clear hv;have sa' : a.length < 35184372087809:=sa
  have w1 : wrap64 ((i : Int)+1)=((i+1 : Nat) : Int):=by unfold wrap64;omega
  have ra:=W_rd ha (i : Int);have rb:=W_rd hb (i : Int);have hbb:=sub32_b (rd a (i : Int)) (rd b (i : Int)) c
  have hlim : (rd a (i : Int) - rd b (i : Int) - c) % 4294967296 - 4294967296 * bits_Sub32.b (rd a (i : Int)) (rd b (i : Int)) c=rd a (i : Int) - rd b (i : Int) - c:=by
   rcases Int.lt_or_le (rd a (i : Int)) (rd b (i : Int)+c) with h|h
   ·rw [hbb.1 h];omega
   ·rw [hbb.2 h];omega
  have hq : 1 - (4294967296+rd a (i : Int) - rd b (i : Int) - c) / 4294967296=bits_Sub32.b (rd a (i : Int)) (rd b (i : Int)) c:=by
   rcases Int.lt_or_le (rd a (i : Int)) (rd b (i : Int)+c) with h|h
   ·rw [hbb.1 h];omega
   ·rw [hbb.2 h];omega
  have key : Aside0 (V (p++[(rd a (i : Int) - rd b (i : Int) - c) % 4294967296]) - P (i+1) * (bits_Sub32.b (rd a (i : Int)) (rd b (i : Int)) c)=V (a.take (i+1)) - V (b.take (i+1))):=⟨by
   have hv:=HV.out;rw [V_snoc,hpl,V_take_succ' a i,V_take_succ' b i,P_succ]
   grind⟩
  have hrec:=ih (i+1) (p++[(rd a (i : Int) - rd b (i : Int) - c) % 4294967296]) (bits_Sub32.b (rd a (i : Int)) (rd b (i : Int)) c) (by omega) (by omega) (W_append hp (W_one (by omega) (by omega))) (by simp [hpl]) (by omega) key.out;refine Ev.step (fun k=>rfl) ?_;refine Ev_pos (by omega) ?_;refine Ev_some (limb_f ha i) ?_;refine Ev_some (limb_f hb i) ?_;refine Ev_pos (by omega) ?_
  have w2 : IntKind.u64.wrap (IntKind.u64.wrap (IntKind.u64.wrap (4294967296+rd a (i : Int)) - rd b (i : Int)) - c)=4294967296+rd a (i : Int) - rd b (i : Int) - c:=by
   rw [wrap_u64_of (x:=4294967296+rd a (i : Int)) (by omega) (by omega),wrap_u64_of (x:=4294967296+rd a (i : Int) - rd b (i : Int)) (by omega) (by omega),wrap_u64_of (by omega) (by omega)]
  rw [w2,w1,Int.tmod_eq_emod_of_nonneg (by omega),Int.tdiv_eq_ediv_of_nonneg (by omega),wrap_u64_of (x:=(4294967296+rd a (i : Int) - rd b (i : Int) - c) / 4294967296) (by omega) (by omega),wrap_u64_of (x:=1 - _) (by omega) (by omega),hq,
   show (4294967296+rd a (i : Int) - rd b (i : Int) - c) % 4294967296 % 4294967296=(rd a (i : Int) - rd b (i : Int) - c) % 4294967296 by omega]
  exact hrec
theorem rsub_f {a b : List Int} (ha : W a) (hb : W b) (sa : Sm a) (sb : Sm b) : Ev (fun k=>penumbraref01_Sub.f k a b) (subS (V a) (V b)):=by
 refine Ev.bind (rcmp_f ha hb sa sb) ?_;unfold subS
 by_cases h : V a < V b
 ·rw [if_pos h]
  refine Ev_pos (cm_neg.2 h) ?_;exact Ev.now _
 ·rw [if_neg h]
  refine Ev_neg (fun e=>h (cm_neg.1 e)) ?_;exact rsub_l ha hb sa (by omega) _ 0 [] 0 rfl (Nat.zero_le _) W_nil rfl (by omega) (by simp [V])
theorem two_limbs {n : Int} (h0 : 0≤n) (h1 : n < 18446744073709551616) : W [n % 4294967296,(n / 4294967296) % 4294967296]∧V [n % 4294967296,(n / 4294967296) % 4294967296]=n :=
 ⟨W_cons.2 ⟨by omega,W_one (by omega) (by omega)⟩,by simp [V];omega⟩
theorem nof_f {n : Int} (h0 : 0≤n) (h1 : n < 18446744073709551616) : nat_Of.f n=some (L n):=by
 obtain ⟨hw,hv⟩:=two_limbs h0 h1;unfold nat_Of.f;rw [norm_f hw (by unfold Sm;simp),hv,Option.bind_some]
end Go.Proofs.Ytjiaobcoeegioaa.N
end
section
namespace Go.Proofs.Ytjiaobcoeegioaa.N
open Go.RowKit Go.Proofs.YtjiaobcoeegioaaW.PrintWords Go.Proofs.YtjiaobcoeegioaaW.PrintLast Go.Proofs.Ytjiaobcoeegioaa.Pq
def bl (n : Int) : Int:=if 0 < n then (Nat.log2 n.toNat : Int)+1 else 0
theorem bl_zero : bl 0=0:=by decide +kernel
theorem bl_nonneg (n : Int) : 0≤bl n:=by unfold bl;split <;> omega
theorem bl_pos {n : Int} (h : 0 < n) : 0 < bl n:=by unfold bl;rw [if_pos h];omega
theorem bl_half {x : Int} (h : 0 < x) : bl x=bl (x / 2)+1:=by
 unfold bl;rw [if_pos h,Nat.log2_def]
 by_cases h2 : x.toNat ≥ 2
 ·rw [if_pos h2,if_pos (by omega),show (x / 2).toNat=x.toNat / 2 by omega]
  omega
 ·rw [if_neg h2,if_neg (by omega)]
  rfl
theorem bl_log {n : Int} (h : 0 < n) : (2 : Int) ^ (n.toNat.log2)≤n∧n < (2 : Int) ^ (n.toNat.log2+1):=by
 have hne : n.toNat≠0:=by omega
 have h1:=Nat.log2_self_le hne;have h2:=(Nat.log2_lt (k:=n.toNat.log2+1) hne).1 (Nat.lt_succ_self _)
 have e : n=(n.toNat : Int):=by omega
 constructor
 ·rw [e];exact_mod_cast h1
 ·rw [e];exact_mod_cast h2
theorem bl_of {n : Int} {m : Nat} (h1 : (2 : Int) ^ m≤n) (h2 : n < (2 : Int) ^ (m+1)) : bl n=(m : Int)+1:=by
 have hp : (0 : Int) < 2 ^ m:=Int.pow_pos (by decide)
 have hn : 0 < n:=by omega
 obtain ⟨k,rfl⟩ : ∃ k : Nat,n=(k : Int):=⟨n.toNat,by omega⟩
 have g1 : 2 ^ m≤k:=by exact_mod_cast h1
 have g2 : k < 2 ^ (m+1):=by exact_mod_cast h2
 have hk : k≠0:=by omega
 have e1:=(Nat.le_log2 (k:=m) hk).2 g1;have e2:=(Nat.log2_lt (k:=m+1) hk).2 g2;unfold bl;rw [if_pos hn,Int.toNat_natCast];omega
theorem bl_le {m n : Int} (h : m≤n) : bl m≤bl n:=by
 by_cases hm : 0 < m
 ·unfold bl
  rw [if_pos hm,if_pos (by omega)]
  have hn0 : n.toNat≠0:=by omega
  have h1:=Nat.log2_self_le (n:=m.toNat) (by omega);have:=(Nat.le_log2 (k:=m.toNat.log2) hn0).2 (by omega);omega
 ·have:=bl_nonneg n
  have e : bl m=0:=by unfold bl;rw [if_neg hm]
  omega
theorem P_pow (i : Nat) : P i=(2 : Int) ^ (32 * i):=by
 induction i with
 | zero=>exact P_zero
 | succ i ih=>rw [P_succ,ih,show 32 * (i+1)=32 * i+32 by omega,Int.pow_add];omega
theorem bl_V {l : List Int} (hw : W l) (i : Nat) (hi : l.length=i+1) (hp : 0 < rd l (i : Int)) : bl (V l)=32 * (i : Int)+bl (rd l (i : Int)):=by
 have h:=bl_log hp;have hv:=V_take_succ' l i;rw [List.take_of_length_le (by omega)] at hv;have h0:=V_nonneg (W_take hw i);have h1:=V_take_lt hw i;have hP:=P_pos i;have k1 : P i * (2 : Int) ^ ((rd l (i : Int)).toNat.log2)≤P i * rd l (i : Int):=Int.mul_le_mul_of_nonneg_left h.1 (by omega);have k2 : P i * (rd l (i : Int)+1)≤P i * (2 : Int) ^ ((rd l (i : Int)).toNat.log2+1):=Int.mul_le_mul_of_nonneg_left (by omega) (by omega);rw [Int.mul_add] at k2
 have e1 : (2 : Int) ^ (32 * i+(rd l (i : Int)).toNat.log2)=P i * (2 : Int) ^ ((rd l (i : Int)).toNat.log2):=by rw [Int.pow_add,P_pow]
 have e2 : (2 : Int) ^ (32 * i+(rd l (i : Int)).toNat.log2+1)=P i * (2 : Int) ^ ((rd l (i : Int)).toNat.log2+1):=by rw [Nat.add_assoc,Int.pow_add,P_pow]
 rw [bl_of (m:=32 * i+(rd l (i : Int)).toNat.log2) (by rw [e1];omega) (by rw [e2];omega)];unfold bl;rw [if_pos hp];omega
theorem rd_last {n : Int} (h : 0 < n) : ∃ i,(L n).length=i+1∧0 < rd (L n) (i : Int):=by
 have hne : L n≠[]:=fun e=>by
  have:=(L_nil_iff (by omega)).1 e;omega
 have hl:=List.length_pos_iff.2 hne;refine ⟨(L n).length - 1,by omega,?_⟩;have h1:=L_last hne;have h2:=W_rd (W_L n) (((L n).length - 1 : Nat) : Int)
 have e : rd (L n) (((L n).length - 1 : Nat) : Int)=(L n).getLast hne:=by
  rw [List.getLast_eq_getElem];simp only [rd,Int.toNat_natCast,List.getD_eq_getElem?_getD];rw [List.getElem?_eq_getElem (by omega),Option.getD_some]
 omega
attribute [irreducible] bl
theorem tab_bl' : ∀ y : Fin 256,bt (⟨#[0,1,2,2,3,3,3,3,4,4,4,4,4,4,4,4,5,5,5,5,5,5,5,5,5,5,5,5,5,5,5,5,6,6,6,6,6,6,6,6,6,6,6,6,6,6,6,6,6,6,6,6,6,6,6,6,6,6,6,6,6,6,6,6,7,7,7,7,7,7,7,7,7,7,7,7,7,7,7,7,7,7,7,7,7,7,7,7,7,7,7,7,7,7,7,7,7,7,7,7,7,7,7,7,7,7,7,7,7,7,7,7,7,7,7,7,7,7,7,7,7,7,7,7,7,7,7,7,8,8,8,8,8,8,8,8,8,8,8,8,8,8,8,8,8,8,8,8,8,8,8,8,8,8,8,8,8,8,8,8,8,8,8,8,8,8,8,8,8,8,8,8,8,8,8,8,8,8,8,8,8,8,8,8,8,8,8,8,8,8,8,8,8,8,8,8,8,8,8,8,8,8,8,8,8,8,8,8,8,8,8,8,8,8,8,8,8,8,8,8,8,8,8,8,8,8,8,8,8,8,8,8,8,8,8,8,8,8,8,8,8,8,8,8,8,8,8,8,8,8,8,8,8,8,8,8]⟩ : ByteArray) (y.val : Int)=bl (y.val : Int):=by decide +kernel
set_option maxRecDepth 20000 in
theorem tab_bl {y : Int} (h0 : 0≤y) (h1 : y < 256) : bt (⟨#[0,1,2,2,3,3,3,3,4,4,4,4,4,4,4,4,5,5,5,5,5,5,5,5,5,5,5,5,5,5,5,5,6,6,6,6,6,6,6,6,6,6,6,6,6,6,6,6,6,6,6,6,6,6,6,6,6,6,6,6,6,6,6,6,7,7,7,7,7,7,7,7,7,7,7,7,7,7,7,7,7,7,7,7,7,7,7,7,7,7,7,7,7,7,7,7,7,7,7,7,7,7,7,7,7,7,7,7,7,7,7,7,7,7,7,7,7,7,7,7,7,7,7,7,7,7,7,7,8,8,8,8,8,8,8,8,8,8,8,8,8,8,8,8,8,8,8,8,8,8,8,8,8,8,8,8,8,8,8,8,8,8,8,8,8,8,8,8,8,8,8,8,8,8,8,8,8,8,8,8,8,8,8,8,8,8,8,8,8,8,8,8,8,8,8,8,8,8,8,8,8,8,8,8,8,8,8,8,8,8,8,8,8,8,8,8,8,8,8,8,8,8,8,8,8,8,8,8,8,8,8,8,8,8,8,8,8,8,8,8,8,8,8,8,8,8,8,8,8,8,8,8,8,8,8,8]⟩ : ByteArray) y=bl y:=by
 have h : bt (⟨#[0,1,2,2,3,3,3,3,4,4,4,4,4,4,4,4,5,5,5,5,5,5,5,5,5,5,5,5,5,5,5,5,6,6,6,6,6,6,6,6,6,6,6,6,6,6,6,6,6,6,6,6,6,6,6,6,6,6,6,6,6,6,6,6,7,7,7,7,7,7,7,7,7,7,7,7,7,7,7,7,7,7,7,7,7,7,7,7,7,7,7,7,7,7,7,7,7,7,7,7,7,7,7,7,7,7,7,7,7,7,7,7,7,7,7,7,7,7,7,7,7,7,7,7,7,7,7,7,8,8,8,8,8,8,8,8,8,8,8,8,8,8,8,8,8,8,8,8,8,8,8,8,8,8,8,8,8,8,8,8,8,8,8,8,8,8,8,8,8,8,8,8,8,8,8,8,8,8,8,8,8,8,8,8,8,8,8,8,8,8,8,8,8,8,8,8,8,8,8,8,8,8,8,8,8,8,8,8,8,8,8,8,8,8,8,8,8,8,8,8,8,8,8,8,8,8,8,8,8,8,8,8,8,8,8,8,8,8,8,8,8,8,8,8,8,8,8,8,8,8,8,8,8,8,8,8]⟩ : ByteArray) (y.toNat : Int)=bl (y.toNat : Int):=tab_bl' ⟨y.toNat,by omega⟩;rw [show ((y.toNat : Nat) : Int)=y by omega] at h;exact h
theorem bl_shift8 {x : Int} (h : 256≤x) : bl x=bl (x / 256)+8:=by
 rw [bl_half (x:=x) (by omega),bl_half (x:=x / 2) (by omega),bl_half (x:=x / 2 / 2) (by omega),bl_half (x:=x / 2 / 2 / 2) (by omega),bl_half (x:=x / 2 / 2 / 2 / 2) (by omega),
  bl_half (x:=x / 2 / 2 / 2 / 2 / 2) (by omega),bl_half (x:=x / 2 / 2 / 2 / 2 / 2 / 2) (by omega),bl_half (x:=x / 2 / 2 / 2 / 2 / 2 / 2 / 2) (by omega),show x / 2 / 2 / 2 / 2 / 2 / 2 / 2 / 2=x / 256 by omega]
 omega
theorem bl_small {x : Int} (h0 : 0≤x) (h1 : x < 256) : 0≤bl x∧bl x≤8:=by
 refine ⟨bl_nonneg x,?_⟩;have:=bl_le (show x≤255 by omega)
 have e : bl 255=8:=by decide +kernel
 omega
set_option maxRecDepth 20000 in
theorem len32_f {x : Int} (h0 : 0≤x) (h1 : x < 4294967296) : bits_Len32.f x=some (bl x):=by
 unfold bits_Len32.f
 by_cases c1 : x ≥ 65536
 ·rw [if_pos c1]
  by_cases c2 : x / 65536 ≥ 256
  ·rw [if_pos c2,if_pos (by omega),if_pos (by omega),show x / 65536 / 256 % 256=x / 65536 / 256 by omega,tab_bl (by omega) (by omega)]
   have:=bl_small (x:=x / 65536 / 256) (by omega) (by omega);rw [bl_shift8 (x:=x) (by omega),bl_shift8 (x:=x / 256) (by omega),bl_shift8 (x:=x / 256 / 256) (by omega),show x / 256 / 256 / 256=x / 65536 / 256 by omega];unfold wrap64;refine congrArg some ?_;omega
  ·rw [if_neg c2,if_pos (by omega),if_pos (by omega),show x / 65536 % 256=x / 65536 by omega,tab_bl (by omega) (by omega)]
   have:=bl_small (x:=x / 65536) (by omega) (by omega);rw [bl_shift8 (x:=x) (by omega),bl_shift8 (x:=x / 256) (by omega),show x / 256 / 256=x / 65536 by omega];unfold wrap64;refine congrArg some ?_;omega
 ·rw [if_neg c1]
  by_cases c2 : x ≥ 256
  ·rw [if_pos c2,if_pos (by omega),if_pos (by omega),show x / 256 % 256=x / 256 by omega,tab_bl (by omega) (by omega)]
   have:=bl_small (x:=x / 256) (by omega) (by omega);rw [bl_shift8 (x:=x) (by omega)];unfold wrap64;refine congrArg some ?_;omega
  ·rw [if_neg c2,if_pos (by omega),if_pos (by omega),show x % 256=x by omega,tab_bl (by omega) (by omega)]
   have:=bl_small (x:=x) (by omega) (by omega);unfold wrap64;refine congrArg some ?_;omega
theorem bl_32 {x : Int} (h1 : x < 4294967296) : bl x≤32:=by
 have:=bl_le (show x≤4294967295 by omega)
 have e : bl 4294967295=32:=by decide +kernel
 omega
theorem bits_arith {n i t : Int} (h : n=i+1) (hi : 0≤i) (hn : n < 35184372087809) (h0 : 0≤t) (h1 : t≤32) : wrap64 (wrap64 (32 * n) - wrap64 (32 - t))=32 * i+t:=by
 unfold wrap64;omega
theorem nbits_f {a : List Int} (ha : W a) (sa : Sm a) : nat_Bits.f a=some (bl (V a)):=by
 have va:=V_nonneg ha;have la:=L_len_le ha;have sa' : a.length < 35184372087809:=sa;unfold nat_Bits.f;rw [trim_f ha,Option.bind_some]
 by_cases hz : V a=0
 ·rw [hz,L_zero,bl_zero]
  exact if_pos rfl
 ·obtain ⟨i,hi,hp⟩:=rd_last (n:=V a) (by omega)
  have w1 : wrap64 (((L (V a)).length : Int) - 1)=(i : Int):=by unfold wrap64;omega
  have hb:=bl_V (W_L (V a)) i hi hp;rw [V_L va] at hb;have hr:=W_rd (W_L (V a)) (i : Int);have h32:=bl_32 hr.2;have h32':=bl_nonneg (rd (L (V a)) (i : Int));rw [if_neg (by omega),w1,if_pos (by omega),if_pos (by omega)];unfold bits_LeadingZeros32.f;rw [len32_f hr.1 hr.2,Option.bind_some,Option.bind_some,hb];exact congrArg some (bits_arith (by omega) (by omega) (by omega) h32' h32)
end Go.Proofs.Ytjiaobcoeegioaa.N
end
section
namespace Go.Proofs.Ytjiaobcoeegioaa.N
open Go.RowKit Go.Proofs.YtjiaobcoeegioaaW.PrintWords Go.Proofs.YtjiaobcoeegioaaW.PrintLast Go.Proofs.Ytjiaobcoeegioaa.Pq
theorem limb_mul {x y o c : Int} (hx : 0≤x∧x < 4294967296) (hy : 0≤y∧y < 4294967296) (ho : 0≤o∧o < 4294967296) (hc : 0≤c∧c < 4294967296) :
  0≤x * y∧x * y≤18446744065119617025:=by
 constructor
 ·exact Int.mul_nonneg hx.1 hy.1
 ·have h1 : x * y≤4294967295 * y:=Int.mul_le_mul_of_nonneg_right (by omega) hy.1
  omega
theorem mul_wrap {x y o c : Int} (hx : 0≤x∧x < 4294967296) (hy : 0≤y∧y < 4294967296) (ho : 0≤o∧o < 4294967296) (hc : 0≤c∧c < 4294967296) :
  IntKind.u64.wrap (IntKind.u64.wrap (IntKind.u64.wrap (IntKind.u64.wrap x * IntKind.u64.wrap y)+IntKind.u64.wrap o)+c)=x * y+o+c:=by
 have h:=limb_mul hx hy ho hc;rw [wrap_u64_of (x:=x) (by omega) (by omega),wrap_u64_of (x:=y) (by omega) (by omega),wrap_u64_of (x:=o) (by omega) (by omega),wrap_u64_of (x:=x * y) (by omega) (by omega),wrap_u64_of (x:=x * y+o) (by omega) (by omega),wrap_u64_of (by omega) (by omega)]
theorem mul_wrap' {x y o c : Int} (hx : 0≤x∧x < 4294967296) (hy : 0≤y∧y < 4294967296) (ho : 0≤o∧o < 4294967296) (hc : 0≤c∧c < 4294967296) :
  Int.tmod (IntKind.u64.wrap (IntKind.u64.wrap (IntKind.u64.wrap (IntKind.u64.wrap x * IntKind.u64.wrap y)+IntKind.u64.wrap o)+c)) 4294967296 % 4294967296=(x * y+o+c) % 4294967296 ∧
  IntKind.u64.wrap (Int.tdiv (IntKind.u64.wrap (IntKind.u64.wrap (IntKind.u64.wrap (IntKind.u64.wrap x * IntKind.u64.wrap y)+IntKind.u64.wrap o)+c)) 4294967296)=(x * y+o+c) / 4294967296:=by
 have h:=limb_mul hx hy ho hc;rw [mul_wrap hx hy ho hc,Int.tmod_eq_emod_of_nonneg (by omega),Int.tdiv_eq_ediv_of_nonneg (by omega),wrap_u64_of (by omega) (by omega),Int.emod_emod];exact ⟨rfl,rfl⟩
theorem mul_step {o : List Int} (n : Nat) (h : n < o.length) (x y c : Int) :
  V (o.set n ((x * y+rd o (n : Int)+c) % 4294967296))+P (n+1) * ((x * y+rd o (n : Int)+c) / 4294967296)=V o+P n * (x * y+c):=by
 rw [V_set o n _ h,P_succ];have:=Int.emod_add_mul_ediv (x * y+rd o (n : Int)+c) 4294967296
 grind
structure MulI (a b o : List Int) (n i : Nat) : Prop where
 w : W o
 len : o.length=n
 val : V o=V (a.take i) * V b
 zero : ∀ j : Nat,i+b.length≤j→rd o (j : Int)=0
structure MulJ (a b o : List Int) (n i j : Nat) (c : Int) : Prop where
 w : W o
 len : o.length=n
 c0 : 0≤c∧c < 4294967296
 val : V o+P (i+j) * c=V (a.take i) * V b+P i * (rd a (i : Int) * V (b.take j))
 zero : ∀ m : Nat,i+b.length≤m→rd o (m : Int)=0
theorem MulI.start (a b : List Int) (n : Nat) : MulI a b (List.replicate n 0) n 0 :=
 ⟨W_replicate n,by simp,by simp [V_replicate,V_nil],fun j _=>rd_replicate n j⟩
theorem MulI.inner {a b o : List Int} {n i : Nat} (h : MulI a b o n i) : MulJ a b o n i 0 0 :=
 ⟨h.w,h.len,by omega,by rw [h.val];simp [V_nil],h.zero⟩
theorem MulJ.step {a b o : List Int} {n i j : Nat} {c : Int} (h : MulJ a b o n i j c) (hb : W b) (ha : W a) (hj : j < b.length) (hn : i+b.length < n) :
  MulJ a b (o.set (i+j) ((rd a (i : Int) * rd b (j : Int)+rd o ((i+j : Nat) : Int)+c) % 4294967296)) n i (j+1) ((rd a (i : Int) * rd b (j : Int)+rd o ((i+j : Nat) : Int)+c) / 4294967296):=by
 have hlt : i+j < o.length:=by rw [h.len];omega
 have ra:=W_rd ha (i : Int);have rb:=W_rd hb (j : Int);have ro:=W_rd h.w ((i+j : Nat) : Int);have hm:=limb_mul ra rb ro h.c0;have hc:=h.c0;refine ⟨W_set h.w _ (by omega) (by omega),by rw [List.length_set,h.len],by omega,?_,?_⟩
 ·have e:=mul_step (i+j) hlt (rd a (i : Int)) (rd b (j : Int)) c
  have hv:=h.val;have ep:=P_add i j;rw [V_take_succ' b j,show i+(j+1)=i+j+1 by omega];clear hm hc ro rb ra
  grind
 ·intro m hm
  rw [rd_set_ne _ _ _ _ (by omega)];exact h.zero m hm
theorem MulJ.done {a b o : List Int} {n i : Nat} {c : Int} (h : MulJ a b o n i b.length c) (hn : i+b.length < n) : MulI a b (o.set (i+b.length) (c % 4294967296)) n (i+1):=by
 have hc:=h.c0;rw [Int.emod_eq_of_lt hc.1 hc.2];refine ⟨W_set h.w _ hc.1 hc.2,by rw [List.length_set,h.len],?_,?_⟩
 ·rw [V_set _ _ _ (by rw [h.len];omega),h.zero (i+b.length) (Nat.le_refl _),V_take_succ' a i]
  have hv:=h.val;rw [List.take_length] at hv
  grind
 ·intro m hm
  rw [rd_set_ne _ _ _ _ (by omega)];exact h.zero m (by omega)
theorem nmul_l1 {a b : List Int} (ha : W a) (hb : W b) (hl : a.length+b.length≤70368744177664) {i : Nat} (hi : i < a.length) (R : List Int)
  (hnext : ∀ o,MulI a b o (a.length+b.length) (i+1)→Ev (fun k=>nat_Mul.l0 k b o a (a.length : Int) ((i+1 : Nat) : Int)) R) :
  ∀ (d j : Nat) (o : List Int) (c : Int),b.length - j=d→j≤b.length→MulJ a b o (a.length+b.length) i j c →
   Ev (fun k=>nat_Mul.l1 k b o (i : Int) (rd a (i : Int)) c a (a.length : Int) (i : Int) b (b.length : Int) (j : Int)) R:=by
 intro d
 induction d with
 | zero =>
  intro j o c hd hj h
  obtain rfl : j=b.length:=by omega
  have hlen:=h.len
  have w1 : wrap64 ((i : Int)+(b.length : Int))=((i+b.length : Nat) : Int):=by unfold wrap64;omega
  have w2 : wrap64 ((i : Int)+1)=((i+1 : Nat) : Int):=by unfold wrap64;omega
  refine Ev_up ?_;unfold nat_Mul.l1;refine Ev_neg (by omega) ?_;rw [w1,w2,Int.toNat_natCast];refine Ev_pos (by omega) ?_;refine Ev_pos (by omega) ?_;exact hnext _ (h.done (by omega))
 | succ d ih =>
  intro j o c hd hj h;have hlen:=h.len
  have w1 : wrap64 ((i : Int)+(j : Int))=((i+j : Nat) : Int):=by unfold wrap64;omega
  have w2 : wrap64 ((j : Int)+1)=((j+1 : Nat) : Int):=by unfold wrap64;omega
  refine Ev_up ?_;unfold nat_Mul.l1;refine Ev_pos (by omega) ?_;refine Ev_pos (by omega) ?_;refine Ev_pos (by omega) ?_;rw [w1,w2,Int.toNat_natCast];refine Ev_pos (by omega) ?_;refine Ev_pos (by omega) ?_;rw [mul_wrap (W_rd ha _) (W_rd hb _) (W_rd h.w _) h.c0];exact ih (j+1) _ _ (by omega) (by omega) (h.step hb ha (by omega) (by omega))
theorem nmul_l0 {a b : List Int} (ha : W a) (hb : W b) (hl : a.length+b.length≤70368744177664) : ∀ (d i : Nat) (o : List Int),a.length - i=d→i≤a.length→MulI a b o (a.length+b.length) i →
  Ev (fun k=>nat_Mul.l0 k b o a (a.length : Int) (i : Int)) (L (V a * V b)):=by
 intro d
 induction d with
 | zero =>
  intro i o hd hi h
  obtain rfl : i=a.length:=by omega
  refine Ev_up ?_;unfold nat_Mul.l0;refine Ev_neg (by omega) ?_;refine Ev_some (trim_f h.w) ?_;refine Ev_now ?_;rw [h.val,List.take_length]
 | succ d ih =>
  intro i o hd hi h;refine Ev_up ?_;unfold nat_Mul.l0;refine Ev_pos (by omega) ?_;refine Ev_pos (by omega) ?_;refine Ev_pos (by omega) ?_;exact nmul_l1 ha hb hl (by omega) _ (fun o' h'=>ih (i+1) o' (by omega) (by omega) h') _ 0 o 0 rfl (Nat.zero_le _) h.inner
theorem nmul_f {a b : List Int} (ha : W a) (hb : W b) (hl : a.length+b.length≤70368744177664) : Ev (fun k=>nat_Mul.f k a b) (L (V a * V b)):=by
 have la:=L_len_le ha;have lb:=L_len_le hb;have va:=V_nonneg ha;have vb:=V_nonneg hb;refine Ev_some (trim_f ha) ?_;refine Ev_some (trim_f hb) ?_
 have w1 : wrap64 (((L (V a)).length : Int)+((L (V b)).length : Int))=(((L (V a)).length+(L (V b)).length : Nat) : Int):=by unfold wrap64;omega
 rw [w1,Int.toNat_natCast];refine Ev_pos (by omega) ?_;refine Ev_pos (by omega) ?_;have:=nmul_l0 (W_L (V a)) (W_L (V b)) (by omega) _ 0 _ rfl (Nat.zero_le _) (MulI.start _ _ _);rw [V_L va,V_L vb] at this;exact this
theorem rmul_l1 {a b : List Int} (ha : W a) (hb : W b) (hl : a.length+b.length < 35184372088830) {i : Nat} (hi : i < a.length) (R : List Int)
  (hnext : ∀ o,MulI a b o (a.length+b.length+1) (i+1)→Ev (fun k=>penumbraref01_Mul.l0 k a b o ((i+1 : Nat) : Int)) R) :
  ∀ (d j : Nat) (o : List Int) (c : Int),b.length - j=d→j≤b.length→MulJ a b o (a.length+b.length+1) i j c →
   Ev (fun k=>penumbraref01_Mul.l1 k a b o (i : Int) c (j : Int)) R:=by
 intro d
 induction d with
 | zero =>
  intro j o c hd hj h
  obtain rfl : j=b.length:=by omega
  have hlen:=h.len
  have w1 : wrap64 ((i : Int)+(b.length : Int))=((i+b.length : Nat) : Int):=by unfold wrap64;omega
  have w2 : wrap64 ((i : Int)+1)=((i+1 : Nat) : Int):=by unfold wrap64;omega
  refine Ev_up ?_;unfold penumbraref01_Mul.l1;refine Ev_neg (by omega) ?_;rw [w1,w2,Int.toNat_natCast];refine Ev_pos (by omega) ?_;refine Ev_pos (by omega) ?_;exact hnext _ (h.done (by omega))
 | succ d ih =>
  intro j o c hd hj h;have hlen:=h.len
  have w1 : wrap64 ((i : Int)+(j : Int))=((i+j : Nat) : Int):=by unfold wrap64;omega
  have w2 : wrap64 ((j : Int)+1)=((j+1 : Nat) : Int):=by unfold wrap64;omega
  refine Ev_up ?_;unfold penumbraref01_Mul.l1;refine Ev_pos (by omega) ?_;refine Ev_pos (by omega) ?_;refine Ev_pos (by omega) ?_;refine Ev_pos (by omega) ?_;rw [w1,w2,Int.toNat_natCast];refine Ev_pos (by omega) ?_;refine Ev_pos (by omega) ?_;have e:=mul_wrap' (W_rd ha (i : Int)) (W_rd hb (j : Int)) (W_rd h.w ((i+j : Nat) : Int)) h.c0;rw [e.1,e.2];exact ih (j+1) _ _ (by omega) (by omega) (h.step hb ha (by omega) (by omega))
theorem rmul_l0 {a b : List Int} (ha : W a) (hb : W b) (hl : a.length+b.length < 35184372088830) : ∀ (d i : Nat) (o : List Int),a.length - i=d→i≤a.length→MulI a b o (a.length+b.length+1) i →
  Ev (fun k=>penumbraref01_Mul.l0 k a b o (i : Int)) (L (V a * V b)):=by
 intro d
 induction d with
 | zero =>
  intro i o hd hi h
  obtain rfl : i=a.length:=by omega
  have hlen:=h.len;refine Ev_up ?_;unfold penumbraref01_Mul.l0;refine Ev_neg (by omega) ?_;refine Ev.bind (rnorm_f h.w (by omega)) ?_;refine Ev_now ?_;rw [h.val,List.take_length]
 | succ d ih =>
  intro i o hd hi h;refine Ev_up ?_;unfold penumbraref01_Mul.l0;refine Ev_pos (by omega) ?_;exact rmul_l1 ha hb hl (by omega) _ (fun o' h'=>ih (i+1) o' (by omega) (by omega) h') _ 0 o 0 rfl (Nat.zero_le _) h.inner
theorem rmul_f {a b : List Int} (ha : W a) (hb : W b) (hl : a.length+b.length < 35184372088830) : Ev (fun k=>penumbraref01_Mul.f k a b) (L (V a * V b)):=by
 have w0 : wrap64 ((a.length : Int)+(b.length : Int))=((a.length+b.length : Nat) : Int):=by unfold wrap64;omega
 have w1 : wrap64 (((a.length+b.length : Nat) : Int)+1)=((a.length+b.length+1 : Nat) : Int):=by unfold wrap64;omega
 unfold penumbraref01_Mul.f;rw [w0,w1,Int.toNat_natCast];refine Ev_pos (by omega) ?_;refine Ev_pos (by omega) ?_;exact rmul_l0 ha hb hl _ 0 _ rfl (Nat.zero_le _) (MulI.start _ _ _)
end Go.Proofs.Ytjiaobcoeegioaa.N
end
section
namespace Go.Proofs.Ytjiaobcoeegioaa.N
open Go.RowKit Go.Proofs.YtjiaobcoeegioaaW.PrintWords Go.Proofs.YtjiaobcoeegioaaW.PrintLast Go.Proofs.Ytjiaobcoeegioaa.Pq
structure Nm (l : List Int) (n : Nat) (x : Int) : Prop where
 w : W l
 v : V l=x
 le : l.length≤n
theorem Nm.pos {l : List Int} {n : Nat} {x : Int} (h : Nm l n x) : 0≤x:=h.v ▸ V_nonneg h.w
theorem Nm.lt {l : List Int} {n : Nat} {x : Int} (h : Nm l n x) : x < P n:=by
 have h1:=V_lt h.w;have h2:=P_le h.le;have h3:=h.v;omega
theorem Nm.L {n : Nat} {x : Int} (h0 : 0≤x) (h1 : x < P n) : Nm (L x) n x:=⟨W_L x,V_L h0,L_length_le n h1⟩
theorem Nm.nil : Nm [] 0 0:=⟨W_nil,V_nil,Nat.le_refl _⟩
theorem Nm.one : Nm [1] 1 1:=⟨W_one (by decide) (by decide),V_one 1,Nat.le_refl _⟩
theorem Nm.up {l : List Int} {m n : Nat} {x : Int} (h : Nm l m x) (hmn : m≤n) : Nm l n x:=⟨h.w,h.v,Nat.le_trans h.le hmn⟩
theorem Nm.norm {l : List Int} {n : Nat} {x : Int} (h : Nm l n x) : Nm (N.L x) n x:=Nm.L h.pos h.lt
theorem Nm.sumL {a b : List Int} {m n : Nat} {x y : Int} (h : Nm a m x) (k : Nm b n y) : Nm (N.L (x+y)) (m+n+1) (x+y):=by
 have h1:=h.lt;have h2:=k.lt;have h3:=h.pos;have h4:=k.pos;have h5:=P_le (show m≤m+n by omega);have h6:=P_le (show n≤m+n by omega);refine Nm.L (by omega) ?_;rw [P_succ];omega
theorem Nm.mulL {a b : List Int} {m n : Nat} {x y : Int} (h : Nm a m x) (k : Nm b n y) : Nm (N.L (x * y)) (m+n) (x * y):=by
 refine Nm.L (Int.mul_nonneg h.pos k.pos) ?_;rw [P_add];have h1 : x * y≤x * (P n - 1):=Int.mul_le_mul_of_nonneg_left (by have:=k.lt;omega) h.pos;have h2 : x * P n < P m * P n:=Int.mul_lt_mul_of_pos_right h.lt (P_pos n);have h3:=h.pos;rw [Int.mul_sub] at h1;omega
theorem Nm.add {a b : List Int} {m n : Nat} {x y : Int} (h : Nm a m x) (k : Nm b n y) (hm : m < 35184372087809) (hn : n < 35184372087809) : Ev (fun r=>nat_Add.f r a b) (N.L (x+y)):=by
 have h1:=h.le;have h2:=k.le;have e:=nadd_f h.w k.w (by unfold Sm;omega) (by unfold Sm;omega)
 rwa [h.v,k.v] at e
theorem Nm.sub {a b : List Int} {m n : Nat} {x y : Int} (h : Nm a m x) (k : Nm b n y) (hm : m < 35184372087809) (hn : n < 35184372087809) : Ev (fun r=>nat_Sub.f r a b) (subS x y):=by
 have h1:=h.le;have h2:=k.le;have e:=nsub_f h.w k.w (by unfold Sm;omega) (by unfold Sm;omega)
 rwa [h.v,k.v] at e
theorem Nm.mul {a b : List Int} {m n : Nat} {x y : Int} (h : Nm a m x) (k : Nm b n y) (hm : m < 35184372087809) (hn : n < 35184372087809) : Ev (fun r=>nat_Mul.f r a b) (N.L (x * y)):=by
 have h1:=h.le;have h2:=k.le;have e:=nmul_f h.w k.w (by omega)
 rwa [h.v,k.v] at e
theorem Nm.nrm {a : List Int} {m : Nat} {x : Int} (h : Nm a m x) (hm : m < 35184372087809) : nat_Norm.f a=some (N.L x):=by
 have h1:=h.le;have e:=norm_f h.w (by unfold Sm;omega)
 rwa [h.v] at e
theorem cm_lt {x y : Int} (h : x < y) : cm x y = -1:=if_pos h
end Go.Proofs.Ytjiaobcoeegioaa.N
end
section
namespace Go.Proofs.Ytjiaobcoeegioaa.N
open Go Go.RowKit Go.Proofs.YtjiaobcoeegioaaW.PrintWords Go.Proofs.YtjiaobcoeegioaaW.PrintLast Go.Proofs.YtjiaobcoeegioaaW.PrintMore Go.Proofs.Ytjiaobcoeegioaa.Pq
def shS (x s : Int) : List Int × Bool:=if s < 0 then ([],false) else if s > 65536 then ([],false) else (L (x * 2 ^ s.toNat),true)
theorem u32_wrap (x : Int) : IntKind.u32.wrap x=x % 4294967296:=by
 simp only [IntKind.wrap,IntKind.bits,IntKind.signed];simp
theorem shl_limb {r : Nat} (hr : r < 32) {x c : Int} (hx : 0≤x∧x < 4294967296) (hc : 0≤c∧c < 2 ^ r) :
  Go.bits .or .u32 (shl .u32 x (r : Int)) c=x * 2 ^ r % 4294967296+c∧shr .u64 (IntKind.u64.wrap x) (32 - (r : Int)) % 4294967296=x * 2 ^ r / 4294967296 ∧
   0≤x * 2 ^ r % 4294967296+c∧x * 2 ^ r % 4294967296+c < 4294967296∧0≤x * 2 ^ r / 4294967296∧x * 2 ^ r / 4294967296 < 2 ^ r:=by
 have hT : (0 : Int) < 2 ^ r:=Int.pow_pos (by decide);have hU : (0 : Int) < 2 ^ (32 - r):=Int.pow_pos (by decide)
 have hTU : (2 : Int) ^ r * 2 ^ (32 - r)=4294967296:=by rw [← Int.pow_add,show r+(32 - r)=32 by omega];rfl
 have e1 : shl .u32 x (r : Int)=x * 2 ^ r % 4294967296:=by
  unfold shl;rw [u32_wrap,Int.toNat_natCast,Nat.min_eq_left (show r≤IntKind.u32.bits by show r≤32;omega)]
 have e2 : shr .u64 (IntKind.u64.wrap x) (32 - (r : Int))=x / 2 ^ (32 - r):=by
  unfold shr;rw [wrap_u64_of hx.1 (by omega),show (32 - (r : Int)).toNat=32 - r by omega,Nat.min_eq_left (show 32 - r≤IntKind.u64.bits by show 32 - r≤64;omega)]
 have key : x * 2 ^ r % 4294967296 % 2 ^ r=0:=by
  rw [← hTU,Int.emod_emod_of_dvd _ (Int.dvd_mul_right _ _)];exact Int.mul_emod_left _ _
 have hTle : (2 : Int) ^ r≤4294967296:=by
  have : (2 : Int) ^ r * 1≤2 ^ r * 2 ^ (32 - r):=Int.mul_le_mul_of_nonneg_left (by omega) (by omega);rw [hTU] at this;omega
 have jo : ∀ y : Int,0≤y→y % 2 ^ r=0→y < 4294967296→Go.bits .or .u32 y c=y+c:=fun y h0 h1 h2 =>
  bits_join .u32 32 (Nat.le_refl _) (fun n h0 h1=>by rw [u32_wrap];omega) r y c h0 h1 (by omega) hc.1 hc.2 (by omega)
 rw [e1,e2,jo _ (by omega) key (by omega)];clear jo e1 e2;generalize (2 : Int) ^ r=T at *;generalize (2 : Int) ^ (32 - r)=U at *
 have m1 : x * T % 4294967296=T * (x % U):=by rw [← hTU,Int.mul_comm x T,Int.mul_emod_mul_of_pos _ _ hT]
 have d1 : x * T / 4294967296=x / U:=by rw [← hTU,Int.mul_comm x T,Int.mul_ediv_mul_of_pos _ _ hT]
 have xu0:=Int.emod_nonneg x (show U≠0 by omega);have xu1:=Int.emod_lt_of_pos x hU;have xd0 : 0≤x / U:=Int.ediv_nonneg hx.1 (by omega);have xd1 : x / U < T:=Int.ediv_lt_of_lt_mul hU (by rw [hTU];exact hx.2);have p0 : 0≤T * (x % U):=Int.mul_nonneg (by omega) xu0;have p1 : T * (x % U+1)≤T * U:=Int.mul_le_mul_of_nonneg_left (by omega) (by omega);rw [Int.mul_add,hTU] at p1;rw [m1,d1];clear m1 d1 key;refine ⟨rfl,?_,by omega,by omega,xd0,xd1⟩;rw [Int.emod_eq_of_lt xd0 (by omega)]
theorem shl_step {r : Nat} (hr : r < 32) {x c : Int} (hx : 0≤x∧x < 4294967296) (hc : 0≤c∧c < 2 ^ r) :
  ∃ dg cy,Go.bits .or .u32 (shl .u32 x (r : Int)) c=dg∧shr .u64 (IntKind.u64.wrap x) (32 - (r : Int)) % 4294967296=cy∧0≤dg∧dg < 4294967296∧0≤cy∧cy < 2 ^ r∧dg+4294967296 * cy=x * 2 ^ r+c:=by
 obtain ⟨e1,e2,b1,b2,b3,b4⟩:=shl_limb hr hx hc;have e:=Int.emod_add_mul_ediv (x * 2 ^ r) 4294967296;refine ⟨_,_,e1,e2,b1,b2,b3,b4,?_⟩;clear e1 e2 b1 b2 b3 b4 hc hx;generalize x * 2 ^ r=X at *;omega
theorem two_pow_le' : ∀ r : Fin 32,(2 : Int) ^ r.val≤4294967296:=by decide +kernel
theorem two_pow_le {r : Nat} (hr : r < 32) : (2 : Int) ^ r≤4294967296:=two_pow_le' ⟨r,hr⟩
theorem nshl_l {t : List Int} (ht : W t) {s : Int} {q r : Nat} {T : Int} (hTB : T≤4294967296) (hr : r < 32) (hs : Aside0 (Int.tmod s 32=(r : Int))) (hl : q+t.length < 35184372088832)
  (step : ∀ x c : Int,0≤x∧x < 4294967296→0≤c∧c < T → ∃ dg cy,Go.bits .or .u32 (shl .u32 x (r : Int)) c=dg∧shr .u64 (IntKind.u64.wrap x) (32 - (r : Int)) % 4294967296=cy∧0≤dg∧dg < 4294967296∧0≤cy∧cy < T∧dg+4294967296 * cy=x * T+c) :
  ∀ (d i : Nat) (o : List Int) (c : Int),t.length - i=d→i≤t.length→W o→o.length=q+i→0≤c∧c < T →
   Aside0 (V o+P (q+i) * c=P q * (T * V (t.take i)))→Ev (fun k=>nat_Shl.l0 k s o c t (t.length : Int) (i : Int)) (L (P q * (T * V t)),true):=by
 intro d
 induction d with
 | zero =>
  intro i o c hd hi hw ho hc HV
  obtain rfl : i=t.length:=by omega
  refine Ev_up ?_;unfold nat_Shl.l0;refine Ev_neg (by omega) ?_;refine Ev_pos (by omega) ?_;refine Ev_some (trim_f (W_append hw (W_one hc.1 (by omega)))) ?_;refine Ev_now ?_;have hv:=HV.out;rw [List.take_length] at hv;rw [V_snoc,ho,hv]
 | succ d ih =>
  intro i o c hd hi hw ho hc HV
  have w1 : wrap64 ((i : Int)+1)=((i+1 : Nat) : Int):=by unfold wrap64;omega
  have w2 : wrap64 (32 - (r : Int))=32 - (r : Int):=by unfold wrap64;omega
  have rt:=W_rd ht (i : Int);obtain ⟨dg,cy,e1,e2,b1,b2,b3,b4,hs0⟩:=step _ c rt hc;have HS:=Aside0.mk hs0;clear hs0
  have key : Aside0 (V (o++[dg])+P (q+(i+1)) * cy=P q * (T * V (t.take (i+1)))):=⟨by
   have hv:=HV.out;have hs1:=HS.out;rw [V_snoc,ho,V_take_succ' t i,show q+(i+1)=q+i+1 by omega,P_succ,P_add];rw [P_add] at hv;clear e1 e2 ih
   grind⟩
  have hrec:=ih (i+1) (o++[dg]) cy (by omega) (by omega) (W_append hw (W_one b1 b2)) (by simp [ho];omega) ⟨b3,b4⟩ key;refine Ev_up ?_;unfold nat_Shl.l0;refine Ev_pos (by omega) ?_;refine Ev_pos (by omega) ?_;refine Ev_pos (by omega) ?_;rw [hs.out,w1,w2,e1,e2];refine Ev_pos (by omega) ?_;refine Ev_pos (by omega) ?_;refine Ev_pos (by omega) ?_;exact hrec
theorem two_pow_split {s : Int} {q r : Nat} (h : s=32 * (q : Int)+(r : Int)) : (2 : Int) ^ s.toNat=P q * 2 ^ r:=by
 rw [show s.toNat=32 * q+r by omega,Int.pow_add,P_pow]
theorem nshl_f {a : List Int} (ha : W a) (sa : a.length < 35184370000000) (s : Int) : Ev (fun k=>nat_Shl.f k a s) (shS (V a) s):=by
 have la:=L_len_le ha;have va:=V_nonneg ha;unfold shS
 by_cases h0 : s < 0
 ·rw [if_pos h0]
  refine Ev_pos h0 ?_;refine Ev_up ?_;unfold nat_Shl.j0;refine Ev_pos rfl ?_;exact Ev.now _
 ·rw [if_neg h0]
  refine Ev_neg h0 ?_;refine Ev_up ?_;unfold nat_Shl.j0
  by_cases h1 : s > 65536
  ·rw [if_pos h1,decide_eq_true h1]
   refine Ev_pos rfl ?_;exact Ev.now _
  ·rw [if_neg h1,decide_eq_false h1]
   refine Ev_neg (by decide) ?_;have e1 : Int.tdiv s 32=s / 32:=Int.tdiv_eq_ediv_of_nonneg (by omega);have e2 : Aside0 (Int.tmod s 32=((s % 32).toNat : Int)):=⟨by rw [Int.tmod_eq_emod_of_nonneg (by omega)];omega⟩
   have w1 : wrap64 (Int.tdiv s 32)=((s / 32).toNat : Int):=by rw [e1];clear e1;unfold wrap64;omega
   clear e1;rw [w1,Int.toNat_natCast];refine Ev_pos (by omega) ?_;refine Ev_pos (by omega) ?_;refine Ev_some (trim_f ha) ?_;have h:=nshl_l (W_L (V a)) (s:=s) (q:=(s / 32).toNat) (r:=(s % 32).toNat) (two_pow_le (by omega)) (by omega) e2 (by omega) (fun x c hx hc=>shl_step (by omega) hx hc) _ 0 (List.replicate (s / 32).toNat 0) 0 rfl (Nat.zero_le _) (W_replicate _) (by simp) ⟨by omega,Int.pow_pos (by decide)⟩ ⟨by simp [V_replicate,V_nil]⟩;refine Ev_eq h ?_;rw [V_L va,two_pow_split (s:=s) (q:=(s / 32).toNat) (r:=(s % 32).toNat) (by omega),Int.mul_comm (V a),Int.mul_assoc]
theorem rdouble_l {x : List Int} (hx : W x) (hl : x.length < 35184372088830) (c0 : Int) : ∀ (d i : Nat) (p : List Int) (c : Int),x.length - i=d→i≤x.length→W p→p.length=i→0≤c∧c≤1 →
  V p+P i * c=2 * V (x.take i)+c0→Ev (fun k=>penumbraref01_Double.l0 k x p c (i : Int)) (L (2 * V x+c0)):=by
 intro d
 induction d with
 | zero =>
  intro i p c hd hi hp hpl hc hv
  obtain rfl : i=x.length:=by omega
  rw [List.take_length] at hv;refine Ev_up ?_;unfold penumbraref01_Double.l0;refine Ev_neg (by omega) ?_;refine Ev_pos (by omega) ?_;rw [show c % 4294967296=c by omega];refine Ev.bind (rnorm_f (W_append hp (W_one hc.1 (by omega))) (by simp;omega)) ?_;refine Ev_now ?_;rw [V_snoc,hpl,hv]
 | succ d ih =>
  intro i p c hd hi hp hpl hc hv;have HV:=Aside0.mk hv;clear hv
  have w1 : wrap64 ((i : Int)+1)=((i+1 : Nat) : Int):=by unfold wrap64;omega
  have rx:=W_rd hx (i : Int)
  have key : Aside0 (V (p++[(2 * rd x (i : Int)+c) % 4294967296])+P (i+1) * ((2 * rd x (i : Int)+c) / 4294967296)=2 * V (x.take (i+1))+c0):=⟨by
   have hv:=HV.out;have e:=Int.emod_add_mul_ediv (2 * rd x (i : Int)+c) 4294967296;rw [V_snoc,hpl,V_take_succ' x i,P_succ]
   grind⟩
  have hrec:=ih (i+1) _ _ (by omega) (by omega) (W_append hp (W_one (by omega) (by omega))) (by simp [hpl]) (by omega) key.out;refine Ev_up ?_;unfold penumbraref01_Double.l0;refine Ev_pos (by omega) ?_;refine Ev_pos (by omega) ?_;refine Ev_pos (by omega) ?_
  have w2 : IntKind.u64.wrap (IntKind.u64.wrap (2 * IntKind.u64.wrap (rd x (i : Int)))+c)=2 * rd x (i : Int)+c:=by
   rw [wrap_u64_of (x:=rd x (i : Int)) (by omega) (by omega),wrap_u64_of (x:=2 * rd x (i : Int)) (by omega) (by omega),wrap_u64_of (by omega) (by omega)]
  rw [w2,w1,Int.tmod_eq_emod_of_nonneg (by omega),Int.tdiv_eq_ediv_of_nonneg (by omega),wrap_u64_of (by omega) (by omega),Int.emod_emod];exact hrec
theorem Nm.double {x : List Int} {n : Nat} {v : Int} (h : Nm x n v) (hn : n < 35184372088830) (b : Bool) : Ev (fun k=>penumbraref01_Double.f k x b) (N.L (2 * v+if b then 1 else 0)):=by
 have hle:=h.le;refine Ev_some rfl ?_
 cases b with
 | true =>
  refine Ev_pos rfl ?_;refine Ev_up ?_;unfold penumbraref01_Double.j0;have e:=rdouble_l h.w (by omega) 1 _ 0 [] 1 rfl (Nat.zero_le _) W_nil rfl (by omega) (by simp [V_nil,P_zero]);rw [h.v] at e;exact e
 | false =>
  refine Ev_neg (by decide) ?_;refine Ev_up ?_;unfold penumbraref01_Double.j0;have e:=rdouble_l h.w (by omega) 0 _ 0 [] 0 rfl (Nat.zero_le _) W_nil rfl (by omega) (by simp [V_nil]);rw [h.v] at e;exact e
end Go.Proofs.Ytjiaobcoeegioaa.N
end
section
namespace Go.Proofs.Ytjiaobcoeegioaa.N
open Go.RowKit Go.Proofs.YtjiaobcoeegioaaW.PrintWords Go.Proofs.YtjiaobcoeegioaaW.PrintLast Go.Proofs.Ytjiaobcoeegioaa.Pq
theorem two_pow_mono {m n : Nat} (h : m≤n) : (2 : Int) ^ m≤2 ^ n:=by
 obtain ⟨d,rfl⟩:=Nat.exists_eq_add_of_le h;rw [Int.pow_add];have h1 : (0 : Int) < 2 ^ m:=Int.pow_pos (by decide);have h2 : (0 : Int) < 2 ^ d:=Int.pow_pos (by decide);have h3 : (2 : Int) ^ m * 1≤2 ^ m * 2 ^ d:=Int.mul_le_mul_of_nonneg_left (by omega) (by omega);omega
theorem shS_ok {x s : Int} (h0 : 0≤s) (h1 : s≤65536) : shS x s=(L (x * 2 ^ s.toNat),true):=by
 unfold shS;rw [if_neg (by omega),if_neg (by omega)]
theorem Nm.shl {a : List Int} {n : Nat} {x : Int} (h : Nm a n x) (hn : n < 35184360000000) (s : Int) : Ev (fun k=>nat_Shl.f k a s) (shS x s):=by
 have h1:=h.le;have e:=nshl_f h.w (by omega) s
 rwa [h.v] at e
theorem Nm.bits {a : List Int} {n : Nat} {x : Int} (h : Nm a n x) (hn : n < 35184360000000) : nat_Bits.f a=some (bl x):=by
 have h1:=h.le;have e:=nbits_f h.w (by unfold Sm;omega)
 rwa [h.v] at e
theorem Nm.rmul {a b : List Int} {m n : Nat} {x y : Int} (h : Nm a m x) (k : Nm b n y) (hm : m+n < 35184372087809) : Ev (fun r=>penumbraref01_Mul.f r a b) (N.L (x * y)):=by
 have h1:=h.le;have h2:=k.le;have e:=rmul_f h.w k.w (by omega)
 rwa [h.v,k.v] at e
theorem bl_shift {x : Int} (h : 0 < x) (n : Nat) : bl (x * 2 ^ n)=bl x+(n : Int):=by
 have h1:=bl_log h;have hT : (0 : Int) < 2 ^ n:=Int.pow_pos (by decide);have k1 : (2 : Int) ^ x.toNat.log2 * 2 ^ n≤x * 2 ^ n:=Int.mul_le_mul_of_nonneg_right h1.1 (by omega);have k2 : x * 2 ^ n < (2 : Int) ^ (x.toNat.log2+1) * 2 ^ n:=Int.mul_lt_mul_of_pos_right h1.2 hT;rw [← Int.pow_add] at k1 k2;rw [bl_of (m:=x.toNat.log2+n) k1 (by rw [show x.toNat.log2+n+1=x.toNat.log2+1+n by omega];exact k2)];have e : bl x=(x.toNat.log2 : Int)+1:=bl_of h1.1 h1.2;omega
theorem Nm.bl_le {l : List Int} {n : Nat} {x : Int} (h : Nm l n x) : bl x≤32 * (n : Int):=by
 by_cases hp : 0 < x
 ·obtain ⟨i,hi,hr⟩:=rd_last hp
  have h1:=bl_V (W_L x) i hi hr;rw [V_L h.pos] at h1;have h2:=bl_32 (W_rd (W_L x) (i : Int)).2;have h3:=h.norm.le;omega
 ·have:=h.pos
  obtain rfl : x=0:=by omega
  rw [bl_zero];omega
end Go.Proofs.Ytjiaobcoeegioaa.N
end
section
namespace Go.Proofs.Ytjiaobcoeegioaa.N
open Go Go.RowKit Go.Proofs.YtjiaobcoeegioaaW.PrintWords Go.Proofs.YtjiaobcoeegioaaW.PrintLast Go.Proofs.YtjiaobcoeegioaaW.PrintMore Go.Proofs.Ytjiaobcoeegioaa.Pq
theorem div32_f {a b d : Int} (ha : 0≤a∧a < d) (hb : 0≤b∧b < 4294967296) (hd : d < 4294967296) : bits_Div32.f a b d=some ((a * 4294967296+b) / d,(a * 4294967296+b) % d):=if_pos ⟨ha,hb,hd⟩
theorem small_l {x : List Int} (hx : W x) {dv : Int} (hd : 0 < dv∧dv < 4294967296) (hl : x.length < 35184372087809) : ∀ (i : Nat) (o : List Int) (r : Int),i≤x.length→W o→o.length=x.length→0≤r∧r < dv →
  (∀ j : Nat,j < i→rd o (j : Int)=0)→Aside0 (P i * r+dv * V o+V (x.take i)=V x) →
  Ev (fun k=>nat_small.l0 k x dv o r ((i : Int) - 1)) (L (V x / dv),L (V x % dv)):=by
 intro i
 induction i with
 | zero =>
  intro o r hi hw ho hr hz HV;refine Ev_up ?_;unfold nat_small.l0;refine Ev_neg (by omega) ?_;refine Ev_some (trim_f hw) ?_;refine Ev_some (trim_f (W_one hr.1 (by omega))) ?_;refine Ev_now ?_;have hv:=HV.out;rw [List.take_zero,V_nil,P_zero] at hv
  have h1 : V x / dv=V o:=by
   rw [← hv,show 1 * r+dv * V o+0=r+dv * V o by omega,Int.add_mul_ediv_left _ _ (by omega),Int.ediv_eq_zero_of_lt hr.1 hr.2];omega
  have h2 : V x % dv=r:=by
   rw [← hv,show 1 * r+dv * V o+0=r+dv * V o by omega,Int.add_mul_emod_self_left,Int.emod_eq_of_lt hr.1 hr.2]
  rw [h1,h2,V_one]
 | succ i ih =>
  intro o r hi hw ho hr hz HV;have rx:=W_rd hx (i : Int)
  have w1 : wrap64 (((i+1 : Nat) : Int) - 1 - 1)=(i : Int) - 1:=by unfold wrap64;omega
  have w0 : ((i+1 : Nat) : Int) - 1=(i : Int):=by omega
  have q0 : 0≤(r * 4294967296+rd x (i : Int)) / dv:=Int.ediv_nonneg (by omega) (by omega);have q1 : (r * 4294967296+rd x (i : Int)) / dv < 4294967296:=Int.ediv_lt_of_lt_mul hd.1 (by omega);have r0:=Int.emod_nonneg (r * 4294967296+rd x (i : Int)) (show dv≠0 by omega);have r1:=Int.emod_lt_of_pos (r * 4294967296+rd x (i : Int)) hd.1
  have key : Aside0 (P i * ((r * 4294967296+rd x (i : Int)) % dv)+dv * V (o.set i ((r * 4294967296+rd x (i : Int)) / dv))+V (x.take i)=V x):=⟨by
   have hv:=HV.out;have e:=Int.emod_add_mul_ediv (r * 4294967296+rd x (i : Int)) dv;rw [V_set o i _ (by omega),hz i (by omega)];rw [V_take_succ' x i,P_succ] at hv;clear ih hz
   grind⟩
  have hrec:=ih (o.set i ((r * 4294967296+rd x (i : Int)) / dv)) ((r * 4294967296+rd x (i : Int)) % dv) (by omega) (W_set hw _ q0 q1) (by rw [List.length_set,ho]) ⟨r0,r1⟩
   (fun j hj=>by rw [rd_set_ne _ _ _ _ (by omega)];exact hz j (by omega)) key
  refine Ev_up ?_;unfold nat_small.l0;rw [w1,w0];refine Ev_pos (by omega) ?_;refine Ev_pos (by omega) ?_;refine Ev_pos (by omega) ?_;refine Ev_some (div32_f hr rx hd.2) ?_;rw [Int.toNat_natCast];refine Ev_pos (by omega) ?_;exact hrec
theorem small_f {x : List Int} (hx : W x) {dv : Int} (hd : 0 < dv∧dv < 4294967296) (hl : x.length < 35184372087809) : Ev (fun k=>nat_small.f k x dv) (L (V x / dv),L (V x % dv)):=by
 have w1 : wrap64 ((x.length : Int) - 1)=(x.length : Int) - 1:=by unfold wrap64;omega
 unfold nat_small.f;refine Ev_pos (by omega) ?_;refine Ev_pos (by omega) ?_;rw [w1,Int.toNat_natCast];exact small_l hx hd hl x.length _ 0 (Nat.le_refl _) (W_replicate _) (by simp) ⟨by omega,hd.1⟩ (fun j _=>rd_replicate _ _) ⟨by simp [V_replicate]⟩
theorem V_drop (l : List Int) (i : Nat) : V (l.drop i)=rd l (i : Int)+4294967296 * V (l.drop (i+1)):=by
 by_cases h : i < l.length
 ·rw [List.drop_eq_getElem_cons h,V_cons]
  simp [rd,List.getD_eq_getElem?_getD,h]
 ·rw [rd_beyond l i (by simpa using h),List.drop_of_length_le (by omega),List.drop_of_length_le (by omega),V_nil]
  rfl
theorem or64_f {h x : Int} (hh : 0≤h∧h < 4294967296) (hx : 0≤x∧x < 4294967296) : Go.bits .or .u64 (h * 4294967296) x=h * 4294967296+x :=
 bits_join .u64 64 (Nat.le_refl _) (fun n h0 h1=>wrap_u64_of h0 h1) 32 _ _ (by omega) (by omega) (by omega) hx.1 hx.2 (by omega)
theorem or64_w {h x : Int} (hh : 0≤h∧h < 4294967296) (hx : 0≤x∧x < 4294967296) : Go.bits .or .u64 (IntKind.u64.wrap (IntKind.u64.wrap h * 4294967296)) (IntKind.u64.wrap x)=h * 4294967296+x:=by
 rw [wrap_u64_of hh.1 (by omega),wrap_u64_of (x:=h * 4294967296) (by omega) (by omega),wrap_u64_of hx.1 (by omega),or64_f hh hx]
theorem or64_z {x : Int} (hx : 0≤x∧x < 4294967296) : Go.bits .or .u64 0 (IntKind.u64.wrap x)=0 * 4294967296+x:=by
 rw [wrap_u64_of hx.1 (by omega)];exact or64_f (h:=0) (by omega) hx
theorem shr_limb {T U lo Y hi Z : Int} (hT : 0 < T) (hTU : T * U=4294967296) (hlo : 0≤lo∧lo < 4294967296) (hY : Y=hi+4294967296 * Z) :
  (lo+4294967296 * Y) / T=(hi * 4294967296+lo) / T % 4294967296+4294967296 * (Y / T):=by
 have eY:=Int.emod_add_mul_ediv Y T;have eh:=Int.emod_add_mul_ediv hi T;have y0:=Int.emod_nonneg Y (show T≠0 by omega);have y1:=Int.emod_lt_of_pos Y hT
 have em : hi % T=Y % T:=by
  rw [hY,← hTU,Int.mul_assoc,Int.add_mul_emod_self_left]
 have a1 : (lo+4294967296 * Y) / T=(lo+4294967296 * (Y % T)) / T+4294967296 * (Y / T):=by
  rw [show lo+4294967296 * Y=lo+4294967296 * (Y % T)+T * (4294967296 * (Y / T)) by grind,Int.add_mul_ediv_left _ _ (by omega)]
 have a2 : (hi * 4294967296+lo) / T=(lo+4294967296 * (Y % T)) / T+4294967296 * (hi / T):=by
  rw [show hi * 4294967296+lo=lo+4294967296 * (Y % T)+T * (4294967296 * (hi / T)) by grind,Int.add_mul_ediv_left _ _ (by omega)]
 have b0 : 0≤(lo+4294967296 * (Y % T)) / T:=Int.ediv_nonneg (by omega) (by omega);have b1 : (lo+4294967296 * (Y % T)) / T < 4294967296:=Int.ediv_lt_of_lt_mul hT (by omega);rw [a1,a2];generalize (lo+4294967296 * (Y % T)) / T=d at *;generalize hi / T=h2 at *;omega
theorem shr_w {r : Nat} (hr : r < 32) (x : Int) : shr .u64 x (r : Int)=x / 2 ^ r:=by
 unfold shr;rw [Int.toNat_natCast,Nat.min_eq_left (show r≤IntKind.u64.bits by show r≤64;omega)]
theorem nshr_l {l : List Int} (hl : W l) (hn : l.length < 35184372087809) {r : Nat} (hr : r < 32) : ∀ (d i : Nat) (o : List Int),l.length - i=d→i≤l.length→W o→o.length=l.length →
  Aside0 (V (o.take i)+P i * (V (l.drop i) / 2 ^ r)=V l / 2 ^ r)→Ev (fun k=>nat_shr.l0 k l (r : Int) o l (l.length : Int) (i : Int)) (L (V l / 2 ^ r)):=by
 have hT : (0 : Int) < 2 ^ r:=Int.pow_pos (by decide);have HTU : Aside0 ((2 : Int) ^ r * 2 ^ (32 - r)=4294967296):=⟨by rw [← Int.pow_add,show r+(32 - r)=32 by omega];rfl⟩;have hT':=Aside0.mk hT;clear hT;intro d
 induction d with
 | zero =>
  intro i o hd hi hw ho HV
  obtain rfl : i=l.length:=by omega
  refine Ev_up ?_;unfold nat_shr.l0;refine Ev_neg (by omega) ?_;refine Ev_some (trim_f hw) ?_;refine Ev_now ?_;have hv:=HV.out;rw [List.drop_length,V_nil,V_take_all o _ (by omega),Int.zero_ediv,Int.mul_zero,Int.add_zero] at hv;rw [hv]
 | succ d ih =>
  intro i o hd hi hw ho HV
  have w1 : wrap64 ((i : Int)+1)=((i+1 : Nat) : Int):=by unfold wrap64;omega
  have rl:=W_rd hl (i : Int);have rh:=W_rd hl ((i+1 : Nat) : Int);have SL:=Aside0.mk (shr_limb hT'.out HTU.out rl (V_drop l (i+1)));have D0:=Aside0.mk (V_drop l i);have hq0 : 0≤(rd l ((i+1 : Nat) : Int) * 4294967296+rd l (i : Int)) / 2 ^ r % 4294967296:=Int.emod_nonneg _ (by decide);have hq1 : (rd l ((i+1 : Nat) : Int) * 4294967296+rd l (i : Int)) / 2 ^ r % 4294967296 < 4294967296:=Int.emod_lt_of_pos _ (by decide)
  have hrec:=ih (i+1) (o.set i ((rd l ((i+1 : Nat) : Int) * 4294967296+rd l (i : Int)) / 2 ^ r % 4294967296)) (by omega) (by omega) (W_set hw _ hq0 hq1) (by rw [List.length_set,ho]) ⟨by
   have hv:=HV.out;rw [D0.out,SL.out] at hv;rw [V_take_succ' _ i,rd_set_eq _ _ _ (by omega),P_succ,show (o.set i ((rd l ((i+1 : Nat) : Int) * 4294967296+rd l (i : Int)) / 2 ^ r % 4294967296)).take i=o.take i by rw [List.take_set_of_le (Nat.le_refl _)]];clear ih
   grind⟩
  refine Ev_up ?_;unfold nat_shr.l0;rw [w1,Int.toNat_natCast];refine Ev_pos (by omega) ?_;refine Ev_pos (by omega) ?_;refine Ev_pos (by omega) ?_
  by_cases hh : ((i+1 : Nat) : Int) < (l.length : Int)
  ·refine Ev_pos hh ?_
   refine Ev_pos (by omega) ?_;refine Ev_pos (by omega) ?_;refine Ev_pos (by omega) ?_;rw [or64_w rh rl,shr_w hr];exact hrec
  ·rw [rd_beyond l ((i+1 : Nat) : Int) (by omega)] at hrec
   refine Ev_neg hh ?_;refine Ev_pos (by omega) ?_;refine Ev_pos (by omega) ?_;rw [or64_z rl,shr_w hr];exact hrec
theorem nshr_f {l : List Int} (hl : W l) (hn : l.length < 35184372087809) {r : Nat} (hr : r < 32) : Ev (fun k=>nat_shr.f k l (r : Int)) (L (V l / 2 ^ r)):=by
 unfold nat_shr.f;refine Ev_pos (by omega) ?_;refine Ev_pos (by omega) ?_;rw [Int.toNat_natCast];exact nshr_l hl hn hr _ 0 _ rfl (Nat.zero_le _) (W_replicate _) (by simp) ⟨by simp [V_nil,P_zero]⟩
end Go.Proofs.Ytjiaobcoeegioaa.N
end
section
namespace Go.Proofs.Ytjiaobcoeegioaa.N
open Go Go.RowKit Go.Proofs.YtjiaobcoeegioaaW.PrintWords Go.Proofs.YtjiaobcoeegioaaW.PrintLast Go.Proofs.YtjiaobcoeegioaaW.PrintMore Go.Proofs.Ytjiaobcoeegioaa.Pq
theorem b01 (x y c : Int) : bits_Sub32.b x y c=0∨bits_Sub32.b x y c=1:=by
 unfold bits_Sub32.b
 split
 ·exact .inr rfl
 ·exact .inl rfl
theorem sub_limb {x y c : Int} (hx : 0≤x∧x < 4294967296) (hy : 0≤y∧y < 4294967296) (hc : 0≤c∧c≤1) :
  (x - y - c) % 4294967296=x - y - c+4294967296 * bits_Sub32.b x y c:=by
 unfold bits_Sub32.b
 split <;> omega
theorem less_at {u v : List Int} (hu : W u) (hv : W v) (j : Nat) {g : Int} (hg : 0≤g∧g < 4294967296) : ∀ (i : Nat),i≤v.length→j+v.length≤u.length →
  ∃ u' c b,nat_less.at u v j g i=some (u',c,b)∧W u'∧u'.length=u.length∧0≤c∧c < 4294967296∧(b=0∨b=1)∧(∀ m : Nat,j+i≤m→rd u' (m : Int)=rd u (m : Int)) ∧
   Aside0 (V u'=V u - P j * (g * V (v.take i))+P (j+i) * (c+b)):=by
 intro i
 induction i with
 | zero =>
  intro _ _;exact ⟨u,0,0,rfl,hu,rfl,by omega,by omega,.inl rfl,fun _ _=>rfl,⟨by simp [V_nil]⟩⟩
 | succ i ih =>
  intro hi hl;obtain ⟨u',c,b,e,hw,hlen,c0,c1,hb,hrd,HV⟩:=ih (by omega) hl;have rv:=W_rd hv (i : Int);have ru:=W_rd hw ((j+i : Nat) : Int);have hm:=limb_mul hg rv (o:=0) (c:=0) (by omega) (by omega)
  have t0 : 0≤(g * rd v (i : Int)+c) % 4294967296:=by omega
  have t1 : (g * rd v (i : Int)+c) % 4294967296 < 4294967296:=by omega
  have hs:=sub_limb ru ⟨t0,t1⟩ (show 0≤b∧b≤1 by omega)
  have s0 : 0≤(rd u' ((j+i : Nat) : Int) - (g * rd v (i : Int)+c) % 4294967296 - b) % 4294967296:=by omega
  have s1 : (rd u' ((j+i : Nat) : Int) - (g * rd v (i : Int)+c) % 4294967296 - b) % 4294967296 < 4294967296:=by omega
  refine ⟨u'.set (j+i) ((rd u' ((j+i : Nat) : Int) - (g * rd v (i : Int)+c) % 4294967296 - b) % 4294967296),(g * rd v (i : Int)+c) / 4294967296,bits_Sub32.b (rd u' ((j+i : Nat) : Int)) ((g * rd v (i : Int)+c) % 4294967296) b,?_,W_set hw _ s0 s1,by rw [List.length_set,hlen],by omega,by omega,b01 _ _ _,?_,⟨?_⟩⟩
  ·show (nat_less.at u v j g i).bind _=_
   rw [e,Option.bind_some];dsimp only;rw [if_pos ⟨⟨hg.1,by omega⟩,rv,c0,hm.1,by omega⟩,sub32_f ru ⟨t0,t1⟩ (by omega),Option.bind_some]
  ·intro m hm'
   rw [rd_set_ne _ _ _ _ (by omega)];exact hrd m (by omega)
  ·have hv':=HV.out
   have ed:=Int.emod_add_mul_ediv (g * rd v (i : Int)+c) 4294967296;rw [V_set _ _ _ (by omega),hv',V_take_succ' v i,show j+(i+1)=j+i+1 by omega,P_succ,P_add j i,hs];clear ih hs s0 s1 t0 t1 hm
   grind
theorem less_f {u v : List Int} (hu : W u) (hv : W v) (j : Nat) {g : Int} (hg : 0≤g∧g < 4294967296) (hl : j+v.length < u.length) :
  ∃ u' b,nat_less.f u j v g=some (decide (b=1),u')∧W u'∧u'.length=u.length∧(b=0∨b=1)∧(∀ m : Nat,j+v.length < m→rd u' (m : Int)=rd u (m : Int)) ∧
   Aside0 (V u'=V u - P j * (g * V v)+P (j+v.length+1) * b):=by
 obtain ⟨u1,c,b,e,hw,hlen,c0,c1,hb,hrd,HV⟩:=less_at hu hv j hg v.length (Nat.le_refl _) (by omega);have ru:=W_rd hw ((j+v.length : Nat) : Int);have hs:=sub_limb ru ⟨c0,c1⟩ (show 0≤b∧b≤1 by omega)
 have ec : c % 4294967296=c:=by omega
 refine ⟨u1.set (j+v.length) ((rd u1 ((j+v.length : Nat) : Int) - c - b) % 4294967296),bits_Sub32.b (rd u1 ((j+v.length : Nat) : Int)) c b,?_,W_set hw _ (by omega) (by omega),by rw [List.length_set,hlen],b01 _ _ _,?_,⟨?_⟩⟩
 ·unfold nat_less.f
  rw [e,Option.bind_some];dsimp only;rw [if_pos ⟨c0,by omega⟩,ec,sub32_f ru ⟨c0,c1⟩ (by omega),Option.bind_some]
  rcases b01 (rd u1 ((j+v.length : Nat) : Int)) c b with h|h <;> rw [h] <;> rfl
 ·intro m hm
  rw [rd_set_ne _ _ _ _ (by omega)];exact hrd m (by omega)
 ·have hv':=HV.out
  rw [List.take_length] at hv';rw [V_set _ _ _ (by omega),hv',P_succ,hs]
  grind
theorem back_at {u v : List Int} (hu : W u) (hv : W v) (j : Nat) : ∀ (i : Nat),i≤v.length→j+v.length≤u.length →
  ∃ u' c,nat_back.at u v j i=some (u',c)∧W u'∧u'.length=u.length∧0≤c∧c≤1∧(∀ m : Nat,j+i≤m→rd u' (m : Int)=rd u (m : Int)) ∧
   Aside0 (V u'+P (j+i) * c=V u+P j * V (v.take i)):=by
 intro i
 induction i with
 | zero =>
  intro _ _;exact ⟨u,0,rfl,hu,rfl,by omega,by omega,fun _ _=>rfl,⟨by simp [V_nil]⟩⟩
 | succ i ih =>
  intro hi hl;obtain ⟨u',c,e,hw,hlen,c0,c1,hrd,HV⟩:=ih (by omega) hl;have rv:=W_rd hv (i : Int);have ru:=W_rd hw ((j+i : Nat) : Int);refine ⟨u'.set (j+i) ((rd u' ((j+i : Nat) : Int)+rd v (i : Int)+c) % 4294967296),(rd u' ((j+i : Nat) : Int)+rd v (i : Int)+c) / 4294967296,?_,W_set hw _ (by omega) (by omega),by rw [List.length_set,hlen],by omega,by omega,?_,⟨?_⟩⟩
  ·show (nat_back.at u v j i).bind _=_
   rw [e,Option.bind_some];dsimp only;rw [add32_f ru rv ⟨c0,c1⟩,Option.bind_some]
  ·intro m hm'
   rw [rd_set_ne _ _ _ _ (by omega)];exact hrd m (by omega)
  ·have hv':=HV.out
   have ed:=Int.emod_add_mul_ediv (rd u' ((j+i : Nat) : Int)+rd v (i : Int)+c) 4294967296;rw [V_set _ _ _ (by omega),V_take_succ' v i,show j+(i+1)=j+i+1 by omega,P_succ];rw [P_add j i] at *;clear ih
   grind
theorem back_f {u v : List Int} (hu : W u) (hv : W v) (j : Nat) (hl : j+v.length < u.length) :
  ∃ u' b,nat_back.f u j v=some u'∧W u'∧u'.length=u.length∧(b=0∨b=1)∧(∀ m : Nat,j+v.length < m→rd u' (m : Int)=rd u (m : Int)) ∧
   Aside0 (V u'=V u+P j * V v - P (j+v.length+1) * b):=by
 obtain ⟨u1,c,e,hw,hlen,c0,c1,hrd,HV⟩:=back_at hu hv j v.length (Nat.le_refl _) (by omega);have ru:=W_rd hw ((j+v.length : Nat) : Int);refine ⟨u1.set (j+v.length) ((rd u1 ((j+v.length : Nat) : Int)+c) % 4294967296),(rd u1 ((j+v.length : Nat) : Int)+c) / 4294967296,?_,W_set hw _ (by omega) (by omega),by rw [List.length_set,hlen],by omega,?_,⟨?_⟩⟩
 ·unfold nat_back.f
  rw [e,Option.bind_some]
 ·intro m hm
  rw [rd_set_ne _ _ _ _ (by omega)];exact hrd m (by omega)
 ·have hv':=HV.out
  have ed:=Int.emod_add_mul_ediv (rd u1 ((j+v.length : Nat) : Int)+c) 4294967296;rw [List.take_length] at hv';rw [V_set _ _ _ (by omega),P_succ]
  grind
end Go.Proofs.Ytjiaobcoeegioaa.N
end
section
namespace Go.Proofs.Ytjiaobcoeegioaa.N
open Go Go.RowKit Go.Proofs.YtjiaobcoeegioaaW.PrintWords Go.Proofs.YtjiaobcoeegioaaW.PrintLast Go.Proofs.YtjiaobcoeegioaaW.PrintMore Go.Proofs.Ytjiaobcoeegioaa.Pq
structure Two (X D top u2 v1 v2 Q xl dl : Int) : Prop where
 q : 0 < Q
 x : X=(top * 4294967296+u2) * Q+xl
 d : D=(v1 * 4294967296+v2) * Q+dl
 xl : 0≤xl∧xl < Q
 dl : 0≤dl∧dl < Q
 u2 : 0≤u2∧u2 < 4294967296
 v2 : 0≤v2∧v2 < 4294967296
 v1 : 0 < v1∧v1 < 4294967296
 top : 0≤top∧top < 18446744073709551616
 lt : X < 4294967296 * D
theorem Two.x0 {X D top u2 v1 v2 Q xl dl : Int} (h : Two X D top u2 v1 v2 Q xl dl) : 0≤X:=by
 have h1 : 0≤(top * 4294967296+u2) * Q:=Int.mul_nonneg (by have:=h.top;have:=h.u2;omega) (by have:=h.q;omega);have:=h.x;have:=h.xl;omega
theorem Two.d0 {X D top u2 v1 v2 Q xl dl : Int} (h : Two X D top u2 v1 v2 Q xl dl) : 4294967296 * Q≤D:=by
 have h1 : 4294967296 * Q≤(v1 * 4294967296+v2) * Q:=Int.mul_le_mul_of_nonneg_right (by have:=h.v1;have:=h.v2;omega) (by have:=h.q;omega);have:=h.d;have:=h.dl;omega
theorem Two.more {X D top u2 v1 v2 Q xl dl : Int} (h : Two X D top u2 v1 v2 Q xl dl) {g r : Int} (g0 : 0≤g) (e : g * v1+r=top) (hc : r * 4294967296+u2 < g * v2) : X < g * D:=by
 have h1 : (top * 4294967296+u2+1) * Q≤(g * (v1 * 4294967296+v2)) * Q:=Int.mul_le_mul_of_nonneg_right (by
  have : g * (v1 * 4294967296+v2)=(g * v1) * 4294967296+g * v2:=by grind
  rw [this]
  omega) (by have:=h.q;omega)
 have h2 : 0≤g * dl:=Int.mul_nonneg g0 h.dl.1
 have h3 : g * D=(g * (v1 * 4294967296+v2)) * Q+g * dl:=by rw [h.d];grind
 have h4 : (top * 4294967296+u2+1) * Q=(top * 4294967296+u2) * Q+Q:=by grind
 have:=h.x;have:=h.xl;omega
theorem Two.less {X D top u2 v1 v2 Q xl dl : Int} (h : Two X D top u2 v1 v2 Q xl dl) {g r : Int} (g0 : 0≤g) (g1 : g < 4294967296) (e : g * v1+r=top) (hc : g * v2≤r * 4294967296+u2) : (g - 1) * D≤X:=by
 have h1 : (g * (v1 * 4294967296+v2)) * Q≤(top * 4294967296+u2) * Q:=Int.mul_le_mul_of_nonneg_right (by
  have : g * (v1 * 4294967296+v2)=(g * v1) * 4294967296+g * v2:=by grind
  rw [this]
  omega) (by have:=h.q;omega)
 have h2 : g * dl≤4294967296 * dl:=Int.mul_le_mul_of_nonneg_right (by omega) h.dl.1
 have h3 : g * D=(g * (v1 * 4294967296+v2)) * Q+g * dl:=by rw [h.d];grind
 have h4 : (g - 1) * D=g * D - D:=by grind
 have:=h.x;have:=h.xl;have:=h.dl;have:=h.d0;omega
theorem Two.first {X D top u2 v1 v2 Q xl dl : Int} (h : Two X D top u2 v1 v2 Q xl dl) : X < (top / v1+1) * D:=by
 have e:=Int.emod_add_mul_ediv top v1;have e1:=Int.emod_lt_of_pos top h.v1.1
 have h1 : (top+1)≤(top / v1+1) * v1:=by grind
 have q:=h.q;have g0 : 0≤top / v1:=Int.ediv_nonneg h.top.1 (by have:=h.v1;omega);have h2 : (top+1) * (4294967296 * Q)≤(top / v1+1) * v1 * (4294967296 * Q):=Int.mul_le_mul_of_nonneg_right h1 (by omega)
 have h3 : v1 * (4294967296 * Q)≤D:=by
  rw [h.d];have : 0≤v2 * Q:=Int.mul_nonneg h.v2.1 (by omega);have:=h.dl
  grind
 have h4 : (top / v1+1) * (v1 * (4294967296 * Q))≤(top / v1+1) * D:=Int.mul_le_mul_of_nonneg_left h3 (by omega)
 have h5 : X < (top+1) * (4294967296 * Q):=by
  rw [h.x];have h6 : u2 * Q≤4294967295 * Q:=Int.mul_le_mul_of_nonneg_right (by have:=h.u2;omega) (by omega);have:=h.xl
  grind
 rw [← Int.mul_assoc] at h4;omega
theorem Two.small {X D top u2 v1 v2 Q xl dl : Int} (h : Two X D top u2 v1 v2 Q xl dl) {g r : Int} (e : g * v1+r=top) (hr : 4294967296≤r) : g < 4294967296:=by
 have q:=h.q
 have h1 : top * 4294967296 * Q≤X:=by
  rw [h.x];have : 0≤u2 * Q:=Int.mul_nonneg h.u2.1 (by omega);have:=h.xl
  grind
 have h2 : D < (v1 * 4294967296+v2+1) * Q:=by
  rw [h.d];have:=h.dl
  grind
 have h3 : top < v1 * 4294967296+4294967296:=by
  rcases Int.lt_or_le top (v1 * 4294967296+4294967296) with k|k
  ·exact k
  ·exfalso
   have h4 : (v1 * 4294967296+v2+1) * Q≤top * Q:=Int.mul_le_mul_of_nonneg_right (by have:=h.v2;omega) (by omega);have:=h.lt
   have : top * 4294967296 * Q=4294967296 * (top * Q):=by grind
   omega
 have h5 : g * v1 < 4294967296 * v1:=by omega
 exact Int.lt_of_mul_lt_mul_right h5 (by have:=h.v1;omega)
structure Gs (X D top v1 g r : Int) : Prop where
 lt : X < (g+1) * D
 e : g * v1+r=top
 r : 0≤r∧r < 4294967296
 g : 0≤g∧g < 18446744073709551616
theorem Two.pos {X D top u2 v1 v2 Q xl dl : Int} (h : Two X D top u2 v1 v2 Q xl dl) {g : Int} (k : X < g * D) : 0 < g:=by
 rcases Int.lt_or_le 0 g with h1|h1
 ·exact h1
 ·exfalso
  have h2 : g * D≤0 * D:=Int.mul_le_mul_of_nonneg_right h1 (by have:=h.d0;have:=h.q;omega);have:=h.x0;omega
end Go.Proofs.Ytjiaobcoeegioaa.N
end
section
namespace Go.Proofs.Ytjiaobcoeegioaa.N
open Go Go.RowKit Go.Proofs.YtjiaobcoeegioaaW.PrintWords Go.Proofs.YtjiaobcoeegioaaW.PrintLast Go.Proofs.YtjiaobcoeegioaaW.PrintMore Go.Proofs.Ytjiaobcoeegioaa.Pq
theorem guess_l {u v q : List Int} {sh : Int} (hu : W u) (hv : W v) {j n : Nat} (hn : v.length=n+2) (hlen : j+n+2 < u.length) (hul : u.length < 35184372088832) {X D top u2 v1 v2 Q xl dl : Int}
  (h : Two X D top u2 v1 v2 Q xl dl) (e1 : v1=rd v ((n+1 : Nat) : Int)) (e2 : v2=rd v (n : Int)) (eu : u2=rd u ((j+n : Nat) : Int)) (R : List Int × List Int)
  (next : ∀ g,0≤g→g < 4294967296→(g - 1) * D≤X→X < (g+1) * D→Ev (fun k=>nat_long.j4 k sh v u ((n+2 : Nat) : Int) q (j : Int) g) R) :
  ∀ (m : Nat) (g r : Int),g.toNat≤m→Gs X D top v1 g r→Ev (fun k=>nat_long.l2 k sh v u ((n+2 : Nat) : Int) q (j : Int) g r) R:=by
 have b2 : (n : Int) < (v.length : Int):=by omega
 have b4 : ((j+n : Nat) : Int) < (u.length : Int):=by omega
 have w1 : wrap64 (((n+2 : Nat) : Int) - 1)=((n+1 : Nat) : Int):=by unfold wrap64;omega
 have w2 : wrap64 (((n+2 : Nat) : Int) - 2)=(n : Int):=by unfold wrap64;omega
 have w3 : wrap64 (wrap64 ((j : Int)+((n+2 : Nat) : Int)) - 2)=((j+n : Nat) : Int):=by
  rw [show wrap64 ((j : Int)+((n+2 : Nat) : Int))=((j+n+2 : Nat) : Int) by unfold wrap64;omega];unfold wrap64;omega
 have dpos : 0 < D:=by have:=h.d0;have:=h.q;omega
 have hv1:=h.v1;have hv2:=h.v2;have hu2:=h.u2
 have e0 : IntKind.u64.wrap (rd v ((n+1 : Nat) : Int))=v1:=by rw [← e1,wrap_u64_of (by omega) (by omega)]
 -- the way down by one
 have down : ∀ (m : Nat),(∀ (g r : Int),g.toNat≤m→Gs X D top v1 g r→Ev (fun k=>nat_long.l2 k sh v u ((n+2 : Nat) : Int) q (j : Int) g r) R) →
   ∀ (g r : Int),g.toNat≤m+1→Gs X D top v1 g r→X < g * D→Ev (fun k=>nat_long.j3 k sh v u ((n+2 : Nat) : Int) q (j : Int) g r true) R:=by
  intro m ih g r hm hg hlt;have gp:=h.pos hlt;have hr:=hg.r;have gb:=hg.g
  have e' : (g - 1) * v1+(r+v1)=top:=by rw [Int.sub_mul,Int.one_mul];have:=hg.e;omega
  have hlt' : X < (g - 1+1) * D:=by rw [show g - 1+1=g by omega];exact hlt
  refine Ev_up ?_;unfold nat_long.j3;refine Ev_pos rfl ?_;rw [w1,e0,wrap_u64_of (x:=r+v1) (by omega) (by omega),wrap_u64_of (x:=g - 1) (by omega) (by omega)];refine Ev_pos (by omega) ?_;refine Ev_pos (by omega) ?_
  by_cases hb : r+v1 ≥ 4294967296
  ·refine Ev_pos hb ?_
   have gs:=h.small e' hb;have h3 : (g - 1) * v2≤4294967296 * v2:=Int.mul_le_mul_of_nonneg_right (by omega) hv2.1;exact next (g - 1) (by omega) gs (h.less (by omega) gs e' (by omega)) hlt'
  ·refine Ev_neg hb ?_
   exact ih (g - 1) (r+v1) (by omega) ⟨hlt',e',by omega,by omega⟩
 intro m
 have go : ∀ (g r : Int),(X < g * D→Ev (fun k=>nat_long.j3 k sh v u ((n+2 : Nat) : Int) q (j : Int) g r true) R)→Gs X D top v1 g r→Ev (fun k=>nat_long.l2 k sh v u ((n+2 : Nat) : Int) q (j : Int) g r) R:=by
  intro g r hdown hg;have hr:=hg.r;have gb:=hg.g;refine Ev_up ?_;unfold nat_long.l2
  by_cases hb : g ≥ 4294967296
  ·refine Ev_pos hb ?_
   refine hdown ?_;have h1 : 4294967296 * D≤g * D:=Int.mul_le_mul_of_nonneg_right hb (by omega);have:=h.lt;omega
  ·refine Ev_neg hb ?_
   refine Ev_pos (by omega) ?_;have hm:=limb_mul (x:=g) (y:=v2) (o:=0) (c:=0) ⟨gb.1,by omega⟩ hv2 (by omega) (by omega)
   have ew : IntKind.u64.wrap (g * IntKind.u64.wrap (rd v (n : Int)))=g * v2:=by
    rw [← e2,wrap_u64_of hv2.1 (by omega),wrap_u64_of hm.1 (by omega)]
   have eo : Go.bits .or .u64 (IntKind.u64.wrap (r * 4294967296)) (IntKind.u64.wrap (rd u ((j+n : Nat) : Int)))=r * 4294967296+u2:=by
    rw [← eu,wrap_u64_of (x:=r * 4294967296) (by omega) (by omega),wrap_u64_of hu2.1 (by omega),or64_f hr hu2]
   rw [w2,w3,ew,eo];refine Ev_pos (Int.natCast_nonneg _) ?_;refine Ev_pos b2 ?_;refine Ev_pos (Int.natCast_nonneg _) ?_;refine Ev_pos b4 ?_
   by_cases hc : g * v2 > r * 4294967296+u2
   ·rw [decide_eq_true hc]
    exact hdown (h.more gb.1 hg.e hc)
   ·rw [decide_eq_false hc]
    refine Ev_up ?_;unfold nat_long.j3;refine Ev_neg (by decide) ?_;exact next g gb.1 (by omega) (h.less gb.1 (by omega) hg.e (by omega)) hg.lt
 induction m with
 | zero =>
  intro g r hm hg;refine go g r (fun hlt=>?_) hg;have:=h.pos hlt;omega
 | succ m ih =>
  intro g r hm hg;exact go g r (fun hlt=>down m ih g r hm hg hlt) hg
end Go.Proofs.Ytjiaobcoeegioaa.N
end
section
namespace Go.Proofs.Ytjiaobcoeegioaa.N
open Go Go.RowKit Go.Proofs.YtjiaobcoeegioaaW.PrintWords Go.Proofs.YtjiaobcoeegioaaW.PrintLast Go.Proofs.YtjiaobcoeegioaaW.PrintMore Go.Proofs.Ytjiaobcoeegioaa.Pq
theorem drop_eq {l m : List Int} {k : Nat} (hl : l.length=m.length) (h : ∀ i : Nat,k≤i→rd l (i : Int)=rd m (i : Int)) : l.drop k=m.drop k:=by
 apply List.ext_getElem (by simp [hl]);intro i h1 h2;have h3:=h (k+i) (by omega);simp only [List.length_drop] at h1 h2
 have e1 : rd l ((k+i : Nat) : Int)=l[k+i]:=by simp only [rd,Int.toNat_natCast,List.getD_eq_getElem?_getD,List.getElem?_eq_getElem (show k+i < l.length by omega),Option.getD_some]
 have e2 : rd m ((k+i : Nat) : Int)=m[k+i]:=by simp only [rd,Int.toNat_natCast,List.getD_eq_getElem?_getD,List.getElem?_eq_getElem (show k+i < m.length by omega),Option.getD_some]
 rw [e1,e2] at h3;rw [List.getElem_drop,List.getElem_drop];exact h3
structure Dg (v : List Int) (A : Int) (N : Nat) (u q : List Int) (j : Nat) : Prop where
 wu : W u
 wq : W q
 lu : u.length=N
 lq : q.length+v.length=N
 lt : V u < P j * V v
 e : V u+V v * V q=A
 z : ∀ m : Nat,m < j→rd q (m : Int)=0
theorem Dg.top {v : List Int} {A : Int} {N : Nat} {u q : List Int} {j : Nat} (h : Dg v A N u q (j+1)) (hv : W v) : V (u.drop (j+v.length+1))=0:=by
 have h1:=V_split' u (j+v.length+1);have h2:=V_nonneg (W_take h.wu (j+v.length+1));have h3:=V_nonneg (W_drop h.wu (j+v.length+1));have h4 : P (j+1) * V v < P (j+1) * P v.length:=Int.mul_lt_mul_of_pos_left (V_lt hv) (P_pos _);rw [← P_add,show j+1+v.length=j+v.length+1 by omega] at h4;have h5:=h.lt
 rcases (show V (u.drop (j+v.length+1))=0∨1≤V (u.drop (j+v.length+1)) by omega) with h6|h6
 ·exact h6
 ·have h7 : P (j+v.length+1) * 1≤P (j+v.length+1) * V (u.drop (j+v.length+1)):=Int.mul_le_mul_of_nonneg_left h6 (by have:=P_pos (j+v.length+1);omega)
  omega
theorem Dg.x {v : List Int} {A : Int} {N : Nat} {u q : List Int} {j : Nat} (h : Dg v A N u q (j+1)) : V (u.drop j) < 4294967296 * V v:=by
 have h1:=V_split' u j;have h2:=V_nonneg (W_take h.wu j);have h3:=h.lt
 have h4 : P (j+1) * V v=P j * (4294967296 * V v):=by rw [P_succ];grind
 have h5 : P j * V (u.drop j) < P j * (4294967296 * V v):=by omega
 exact Int.lt_of_mul_lt_mul_left h5 (by have:=P_pos j;omega)
theorem Dg.next {v : List Int} {A : Int} {N : Nat} {u q u' : List Int} {j : Nat} (h : Dg v A N u q (j+1)) (hw : W u') (hl : u'.length=N) {t : Int} (ht : 0≤t∧t < 4294967296)
  (hV : V u'=V u - P j * (t * V v)) (h1 : V (u.drop j) < (t+1) * V v) (hj : j < q.length) : Dg v A N u' (q.set j t) j where
 wu:=hw
 wq:=W_set h.wq _ ht.1 ht.2
 lu:=hl
 lq:=by rw [List.length_set];exact h.lq
 lt:=by
  have h2:=V_split' u j
  have h3:=V_take_lt h.wu j
  have h4 : P j * (V (u.drop j)+1)≤P j * ((t+1) * V v):=Int.mul_le_mul_of_nonneg_left (by omega) (by have:=P_pos j;omega)
  have h5 : P j * ((t+1) * V v)=P j * (t * V v)+P j * V v:=by grind
  rw [Int.mul_add] at h4
  omega
 e:=by
  have h2:=h.e
  rw [V_set _ _ _ hj,h.z j (by omega),hV]
  grind
 z:=fun m hm=>by rw [rd_set_ne _ _ _ _ (by omega)];exact h.z m (by omega)
theorem V_lt_of_drop {l : List Int} (h : W l) {k : Nat} (hz : V (l.drop k)=0) : V l < P k:=by
 have h1:=V_split' l k;have h2:=V_take_lt h k;rw [hz,Int.mul_zero] at h1;omega
theorem digit_b2 {U V1 V2 G D M T X b2 : Int} (hv1 : V1=U - G+M * 1) (hv2 : V2=V1+D - M * b2) (hb2 : b2=0∨b2=1) (k1 : G - D≤X) (hx : U=T+X) (T0 : 0≤T) (hlt : V2 < M) : b2=1:=by
 rcases hb2 with rfl|rfl
 ·exfalso
  omega
 ·rfl
theorem digit_lt {U V1 G M T X : Int} (hv1 : V1=U - G+M * 1) (hx : U=T+X) (T0 : 0≤T) (hlt : V1 < M) : X < G:=by omega
theorem digit_new {U V1 V2 G D M : Int} (hv1 : V1=U - G+M * 1) (hv2 : V2=V1+D - M * 1) : V2=U - (G - D):=by omega
theorem digit_steps {v : List Int} (hv : W v) {A : Int} {N : Nat} {u q : List Int} {j : Nat} (h : Dg v A N u q (j+1)) {g : Int} (hg : 0≤g∧g < 4294967296)
  (h0 : (g - 1) * V v≤V (u.drop j)) (h1 : V (u.drop j) < (g+1) * V v) (hj : j < q.length) :
  ∃ u1,W u1∧u1.length=N∧((nat_less.f u j v g=some (false,u1)∧Dg v A N u1 (q.set j g) j) ∨
   (nat_less.f u j v g=some (true,u1)∧0 < g ∧ ∃ u2,nat_back.f u1 j v=some u2∧Dg v A N u2 (q.set j (g - 1)) j)):=by
 have hlu:=h.lu;have hlq:=h.lq
 have hjN : j+v.length < u.length:=by clear h0 h1;omega
 have htop:=h.top hv;have X0:=Aside0.mk (V_split' u j);have XT:=Aside0.mk (V_nonneg (W_take h.wu j));have hPj:=Aside0.mk (P_pos j);have H0:=Aside0.mk h0;have H1:=Aside0.mk h1;clear h0 h1;obtain ⟨u1,b,e1,hw1,hl1,hb,hrd1,HV1⟩:=less_f h.wu hv j hg hjN
 have hd1 : V (u1.drop (j+v.length+1))=0:=by rw [drop_eq hl1 (fun i hi=>hrd1 i (by omega)),htop]
 have hlt1:=Aside0.mk (V_lt_of_drop hw1 hd1);refine ⟨u1,hw1,by omega,?_⟩
 rcases hb with hb|hb
 ·subst hb
  refine .inl ⟨e1,h.next hw1 (by omega) hg ?_ H1.out hj⟩;have hv1:=HV1.out;rw [Int.mul_zero,Int.add_zero] at hv1;exact hv1
 ·subst hb
  obtain ⟨u2,b2,e2,hw2,hl2,hb2,hrd2,HV2⟩:=back_f hw1 hv j (by omega)
  have hd2 : V (u2.drop (j+v.length+1))=0:=by rw [drop_eq hl2 (fun i hi=>hrd2 i (by omega)),hd1]
  have hlt2:=Aside0.mk (V_lt_of_drop hw2 hd2);have k2 : Aside0 (P j * ((g - 1) * V v)=P j * (g * V v) - P j * V v):=⟨by rw [Int.sub_mul,Int.one_mul,Int.mul_sub]⟩
  have k1 : Aside0 (P j * (g * V v) - P j * V v≤P j * V (u.drop j)):=⟨by
   rw [← k2.out]
   exact Int.mul_le_mul_of_nonneg_left H0.out (Int.le_of_lt hPj.out)⟩
  obtain rfl:=digit_b2 HV1.out HV2.out hb2 k1.out X0.out XT.out hlt2.out;have k4 : Aside0 (V (u.drop j) < g * V v):=⟨Int.lt_of_mul_lt_mul_left (digit_lt HV1.out X0.out XT.out hlt1.out) (Int.le_of_lt hPj.out)⟩
  have gp : 0 < g:=by
   rcases Int.lt_or_le 0 g with h2|h2
   ·exact h2
   ·exfalso
    obtain rfl : g=0:=by omega
    have h3:=k4.out;rw [Int.zero_mul] at h3;have:=V_nonneg (W_drop h.wu j);omega
  refine .inr ⟨e1,gp,u2,e2,h.next hw2 (by omega) (by omega) ?_ ?_ hj⟩
  ·rw [k2.out]
   exact digit_new HV1.out HV2.out
  ·rw [Int.sub_add_cancel]
   exact k4.out
theorem digit {v : List Int} (hv : W v) {A : Int} {N : Nat} (hN : N < 35184372088832) {sh : Int} {u q : List Int} {j : Nat} (h : Dg v A N u q (j+1)) {g : Int} (hg : 0≤g∧g < 4294967296)
  (h0 : Aside0 ((g - 1) * V v≤V (u.drop j))) (h1 : Aside0 (V (u.drop j) < (g+1) * V v)) (hj : j < q.length) (R : List Int × List Int)
  (next : ∀ u' q',Dg v A N u' q' j→Ev (fun k=>nat_long.l1 k sh v u' (v.length : Int) q' ((j : Int) - 1)) R) :
  Ev (fun k=>nat_long.j4 k sh v u (v.length : Int) q (j : Int) g) R:=by
 have hlu:=h.lu;have hlq:=h.lq
 have w1 : wrap64 (wrap64 ((j : Int)+(v.length : Int))+1)=((j+v.length+1 : Nat) : Int):=by
  rw [show wrap64 ((j : Int)+(v.length : Int))=((j+v.length : Nat) : Int) by unfold wrap64;omega];unfold wrap64;omega
 have w2 : wrap64 ((j : Int) - 1)=(j : Int) - 1:=by unfold wrap64;omega
 have c2 : (j : Int) < ((j+v.length+1 : Nat) : Int):=by omega
 have c3 : ((j+v.length+1 : Nat) : Int)≤(u.length : Int):=by omega
 have c4 : (j : Int)+(v.length : Int) < ((j+v.length+1 : Nat) : Int):=by omega
 have c5 : (j : Int) < (q.length : Int):=by omega
 obtain ⟨u1,hw1,hl1,hs⟩:=digit_steps hv h hg h0.out h1.out hj;refine Ev_up ?_;unfold nat_long.j4;rw [w1,w2,Int.toNat_natCast];refine Ev_pos (Int.natCast_nonneg _) ?_;refine Ev_pos c2 ?_;refine Ev_pos c3 ?_;refine Ev_pos c4 ?_
 rcases hs with ⟨e1,hd⟩|⟨e1,gp,u2,e2,hd⟩
 ·refine Ev_some e1 ?_
  refine Ev_neg (by simp) ?_;refine Ev_pos c5 ?_;rw [show g % 4294967296=g by omega];exact next _ _ hd
 ·refine Ev_some e1 ?_
  refine Ev_pos rfl ?_;refine Ev_some e2 ?_;refine Ev_pos c5 ?_;rw [wrap_u64_of (x:=g - 1) (by omega) (by omega),show (g - 1) % 4294967296=g - 1 by omega];exact next _ _ hd
theorem Dg.two {v : List Int} (hv : W v) {A : Int} {N n : Nat} {u q : List Int} {j : Nat} (h : Dg v A N u q (j+1)) (hn : v.length=n+2) (hp : 0 < rd v ((n+1 : Nat) : Int)) :
  Two (V (u.drop j)) (V v) (rd u ((j+n+2 : Nat) : Int) * 4294967296+rd u ((j+n+1 : Nat) : Int)) (rd u ((j+n : Nat) : Int)) (rd v ((n+1 : Nat) : Int)) (rd v (n : Int)) (P n) (V ((u.drop j).take n)) (V (v.take n)) where
 q:=P_pos n
 x:=by
  have h1:=V_split' (u.drop j) n
  rw [List.drop_drop,V_drop u (j+n),V_drop u (j+n+1),V_drop u (j+n+1+1)] at h1
  have h2:=h.top hv
  rw [hn] at h2
  rw [show j+n+1+1+1=j+(n+2)+1 by omega,h2,show j+n+1+1=j+n+2 by omega] at h1
  rw [h1]
  grind
 d:=by
  have h1:=V_split' v n
  rw [V_drop v n,V_drop v (n+1),List.drop_of_length_le (by omega),V_nil] at h1
  rw [h1]
  grind
 xl:=⟨V_nonneg (W_take (W_drop h.wu j) n),V_take_lt (W_drop h.wu j) n⟩
 dl:=⟨V_nonneg (W_take hv n),V_take_lt hv n⟩
 u2:=W_rd h.wu _
 v2:=W_rd hv _
 v1:=⟨hp,(W_rd hv _).2⟩
 top:=by
  have h1:=W_rd h.wu ((j+n+2 : Nat) : Int)
  have h2:=W_rd h.wu ((j+n+1 : Nat) : Int)
  omega
 lt:=h.x
theorem Two.start {X D top u2 v1 v2 Q xl dl : Int} (h : Two X D top u2 v1 v2 Q xl dl) : Gs X D top v1 (top / v1) (top % v1) where
 lt:=h.first
 e:=by
  have:=Int.emod_add_mul_ediv top v1
  rw [Int.mul_comm]
  omega
 r:=by
  have h1:=h.v1
  have h2:=Int.emod_nonneg top (show v1≠0 by omega)
  have h3:=Int.emod_lt_of_pos top h1.1
  omega
 g:=by
  have h1:=h.top
  have h2:=Int.ediv_nonneg h1.1 (Int.le_of_lt h.v1.1)
  have h3:=Int.ediv_le_self v1 h1.1
  omega
theorem v_pos {v : List Int} (hv : W v) {n : Nat} (hn : v.length=n+2) (hp : 0 < rd v ((n+1 : Nat) : Int)) : 0 < V v:=by
 have h1:=V_split' v (n+1);have h2:=V_nonneg (W_take hv (n+1));rw [V_drop v (n+1),List.drop_of_length_le (by omega),V_nil,Int.mul_zero,Int.add_zero] at h1;have h4 : 0 < P (n+1) * rd v ((n+1 : Nat) : Int):=Int.mul_pos (P_pos (n+1)) hp;omega
theorem Dg.done {v : List Int} (hv : W v) (hvp : 0 < V v) {A : Int} {N : Nat} {u q : List Int} (h : Dg v A N u q 0) : V q=A / V v∧V (u.take v.length)=A % V v:=by
 have hlt:=h.lt;have hge:=V_nonneg h.wu;rw [P_zero,Int.one_mul] at hlt;have e:=h.e
 have h2 : V (u.take v.length)=V u:=by
  have h3:=V_split' u v.length;have h4:=V_nonneg (W_drop h.wu v.length);have h5:=V_lt hv;have h6:=V_nonneg (W_take h.wu v.length)
  rcases (show V (u.drop v.length)=0∨1≤V (u.drop v.length) by omega) with h7|h7
  ·rw [h7,Int.mul_zero] at h3
   omega
  ·have h8 : P v.length * 1≤P v.length * V (u.drop v.length):=Int.mul_le_mul_of_nonneg_left h7 (by have:=P_pos v.length;omega)
   omega
 have d1 : A / V v=V q:=by rw [← e,Int.add_mul_ediv_left _ _ (by omega),Int.ediv_eq_zero_of_lt hge hlt];omega
 have d2 : A % V v=V u:=by rw [← e,Int.add_mul_emod_self_left,Int.emod_eq_of_lt hge hlt]
 exact ⟨d1.symm,by rw [h2,d2]⟩
theorem long_l1 {v : List Int} (hv : W v) {n : Nat} (hn : v.length=n+2) (hp : 0 < rd v ((n+1 : Nat) : Int)) {A : Int} {N : Nat} (hN : N < 35184372087809) {r : Nat} (hr : r < 32) : ∀ (j : Nat) (u q : List Int),j≤q.length→Dg v A N u q j →
  Ev (fun k=>nat_long.l1 k (r : Int) v u (v.length : Int) q ((j : Int) - 1)) (L (A / V v),L (A % V v / 2 ^ r)):=by
 have hvp:=Aside0.mk (v_pos hv hn hp);intro j
 induction j with
 | zero =>
  intro u q hj h;have hlu:=h.lu;have hlq:=h.lq;have hd:=h.done hv hvp.out
  have c1 : ((v.length : Nat) : Int)≤(u.length : Int):=by omega
  have c2 : (u.take v.length).length < 35184372087809:=by rw [List.length_take];omega
  refine Ev_up ?_;unfold nat_long.l1;refine Ev_neg (by omega) ?_;refine Ev_some (trim_f h.wq) ?_;refine Ev_pos (Int.natCast_nonneg _) ?_;refine Ev_pos c1 ?_;rw [Int.toNat_natCast];refine Ev.bind (nshr_f (W_take h.wu _) c2 hr) ?_;refine Ev_now ?_;rw [hd.1,hd.2]
 | succ j ih =>
  intro u q hj h;have hlu:=h.lu;have hlq:=h.lq
  have w0 : ((j+1 : Nat) : Int) - 1=(j : Int):=by omega
  have w1 : wrap64 ((j : Int)+(v.length : Int))=((j+n+2 : Nat) : Int):=by unfold wrap64;omega
  have w2 : wrap64 (((j+n+2 : Nat) : Int) - 1)=((j+n+1 : Nat) : Int):=by unfold wrap64;omega
  have w3 : wrap64 ((v.length : Int) - 1)=((n+1 : Nat) : Int):=by unfold wrap64;omega
  have c1 : ((j+n+2 : Nat) : Int) < (u.length : Int):=by omega
  have c2 : ((j+n+1 : Nat) : Int) < (u.length : Int):=by omega
  have c3 : ((n+1 : Nat) : Int) < (v.length : Int):=by omega
  have c4 : j+n+2 < u.length:=by omega
  have c5 : u.length < 35184372088832:=by omega
  have c6 : N < 35184372088832:=by omega
  have c7 : j < q.length:=by omega
  have c8 : ((v.length : Int))=((n+2 : Nat) : Int):=by omega
  have h2:=h.two hv hn hp;have hs:=h2.start;have r0:=W_rd h.wu ((j+n+2 : Nat) : Int);have r1:=W_rd h.wu ((j+n+1 : Nat) : Int);have rv:=W_rd hv ((n+1 : Nat) : Int);have htop:=h2.top
  have eo : Go.bits .or .u64 (IntKind.u64.wrap (IntKind.u64.wrap (rd u ((j+n+2 : Nat) : Int)) * 4294967296)) (IntKind.u64.wrap (rd u ((j+n+1 : Nat) : Int)))=rd u ((j+n+2 : Nat) : Int) * 4294967296+rd u ((j+n+1 : Nat) : Int):=by
   rw [wrap_u64_of (x:=rd u ((j+n+2 : Nat) : Int)) (by omega) (by omega),wrap_u64_of (x:=rd u ((j+n+2 : Nat) : Int) * 4294967296) (by omega) (by omega),wrap_u64_of (x:=rd u ((j+n+1 : Nat) : Int)) (by omega) (by omega),or64_f r0 r1]
  have ev : IntKind.u64.wrap (rd v ((n+1 : Nat) : Int))=rd v ((n+1 : Nat) : Int):=wrap_u64_of (by omega) (by omega);have wg:=wrap_u64_of hs.g.1 hs.g.2
  have np : ¬ rd v ((n+1 : Nat) : Int)=0:=by omega
  refine Ev_up ?_;unfold nat_long.l1;rw [w0,w1,w2,w3,eo,ev,Int.tdiv_eq_ediv_of_nonneg htop.1,Int.tmod_eq_emod_of_nonneg htop.1,wg];refine Ev_pos (Int.natCast_nonneg _) ?_;refine Ev_pos (Int.natCast_nonneg _) ?_;refine Ev_pos c1 ?_;refine Ev_pos (Int.natCast_nonneg _) ?_;refine Ev_pos c2 ?_;refine Ev_pos (Int.natCast_nonneg _) ?_;refine Ev_pos c3 ?_;refine Ev_neg np ?_;rw [c8];refine guess_l h.wu hv hn c4 c5 h2 rfl rfl rfl _ (fun g' ga gb gc gd=>?_) _ _ _ (Nat.le_refl _) hs;rw [← c8];exact digit hv c6 h ⟨ga,gb⟩ ⟨gc⟩ ⟨gd⟩ c7 _ (fun u' q' hd=>ih u' q' (by have:=hd.lq;omega) hd)
end Go.Proofs.Ytjiaobcoeegioaa.N
end
section
namespace Go.Proofs.Ytjiaobcoeegioaa.N
open Go Go.RowKit Go.Proofs.YtjiaobcoeegioaaW.PrintWords Go.Proofs.YtjiaobcoeegioaaW.PrintLast Go.Proofs.YtjiaobcoeegioaaW.PrintMore Go.Proofs.Ytjiaobcoeegioaa.Pq
theorem shifted_length {y : Int} (hy : 0 < y) {i r : Nat} (hi : (L y).length=i+1) (hr : (r : Int)=32 - bl (rd (L y) (i : Int))) (hp : 0 < rd (L y) (i : Int)) : (L (y * 2 ^ r)).length=i+1:=by
 have h1:=bl_V (W_L y) i hi hp;rw [V_L (by omega)] at h1;have h2:=bl_shift hy r;have hpow : (0 : Int) < 2 ^ r:=Int.pow_pos (by decide);have hpos : 0 < y * 2 ^ r:=Int.mul_pos hy hpow;have h3:=bl_log hpos;have h4 : bl (y * 2 ^ r)=((y * 2 ^ r).toNat.log2 : Int)+1:=bl_of h3.1 h3.2
 have h5 : (y * 2 ^ r).toNat.log2+1=32 * (i+1):=by omega
 rw [h5,← P_pow] at h3
 have h6 : P i≤2 ^ (y * 2 ^ r).toNat.log2:=by
  rw [P_pow];exact two_pow_mono (by omega)
 have h7:=L_length_le (i+1) h3.2;have h8:=L_length_lt (Int.le_trans h6 h3.1);omega
theorem L_le {x : Int} (h0 : 0≤x) : x < P (L x).length:=by
 have:=V_lt (W_L x)
 rwa [V_L h0] at this
theorem P_le_of_length {y : Int} (hy : 0≤y) {i : Nat} (hi : (L y).length=i+1) : P i≤y:=by
 rcases Int.lt_or_le y (P i) with h|h
 ·have:=L_length_le i h
  omega
 ·exact h
theorem long_l0 {a v : List Int} {A : Int} {r : Nat} {R : List Int × List Int} (ha : a.length < 35184372087800) {n : Nat} (hn : n≤a.length)
  (next : ∀ u,W u→u.length=a.length+1→Aside0 (V u=A)→Ev (fun k=>nat_long.l1 k (r : Int) v u (n : Int) (List.replicate (a.length+1 - n) 0) (((a.length+1 - n : Nat) : Int) - 1)) R) :
  ∀ (d : Nat) (u : List Int),a.length+1 - u.length=d→u.length≤a.length+1→W u→Aside0 (V u=A)→Ev (fun k=>nat_long.l0 k a (r : Int) v u (n : Int)) R:=by
 intro d
 induction d with
 | zero =>
  intro u hd hl hw hv
  have hul : u.length=a.length+1:=by omega
  have w1 : wrap64 ((u.length : Int) - (n : Int))=((a.length+1 - n : Nat) : Int):=by unfold wrap64;omega
  have w2 : wrap64 (((a.length+1 - n : Nat) : Int) - 1)=((a.length+1 - n : Nat) : Int) - 1:=by unfold wrap64;omega
  refine Ev_up ?_;unfold nat_long.l0;rw [w1,w2,Int.toNat_natCast];refine Ev_neg (by omega) ?_;refine Ev_pos (Int.natCast_nonneg _) ?_;refine Ev_pos (by omega) ?_;exact next u hw hul hv
 | succ d ih =>
  intro u hd hl hw hv;refine Ev_up ?_;unfold nat_long.l0;refine Ev_pos (by omega) ?_;refine Ev_pos (by omega) ?_;refine ih (u++[0]) (by simp;omega) (by simp;omega) (W_append hw (W_one (by decide) (by decide))) ⟨?_⟩;rw [V_snoc,Int.mul_zero,Int.add_zero];exact hv.out
theorem dg_start {x y : Int} {v u : List Int} {i r la : Nat} (hx0 : 0≤x) (hxl : x < P la) (hyl : P i≤y) (hvv : V v=y * 2 ^ r) (hvl : v.length=i+1) (hila : i+1≤la)
  (hu : W u) (hul : u.length=la+1) (huv : V u=x * 2 ^ r) : Dg v (x * 2 ^ r) (la+1) u (List.replicate (la+1 - (i+1)) 0) (la+1 - (i+1)) where
 wu:=hu
 wq:=W_replicate _
 lu:=hul
 lq:=by rw [List.length_replicate];omega
 lt:=by
  have hpow : (0 : Int) < 2 ^ r:=Int.pow_pos (by decide)
  have h1 : P (la+1 - (i+1)) * P i≤P (la+1 - (i+1)) * y:=Int.mul_le_mul_of_nonneg_left hyl (Int.le_of_lt (P_pos _))
  rw [← P_add,show la+1 - (i+1)+i=la by omega] at h1
  have h2 : x * 2 ^ r < P (la+1 - (i+1)) * y * 2 ^ r:=Int.mul_lt_mul_of_pos_right (Int.lt_of_lt_of_le hxl h1) hpow
  rw [huv,hvv,← Int.mul_assoc]
  exact h2
 e:=by rw [V_replicate,Int.mul_zero,Int.add_zero,huv]
 z:=fun m _=>rd_replicate _ _
theorem lz_f {t : Int} (h0 : 0 < t) (h1 : t < 4294967296) : bits_LeadingZeros32.f t=some (32 - bl t):=by
 have h2:=bl_pos h0;have h3:=bl_32 h1;unfold bits_LeadingZeros32.f;rw [len32_f (Int.le_of_lt h0) h1,Option.bind_some,show wrap64 (32 - bl t)=32 - bl t by unfold wrap64;omega]
theorem div_shift {x y : Int} (hy : 0 < y) (r : Nat) : x * 2 ^ r / (y * 2 ^ r)=x / y∧x * 2 ^ r % (y * 2 ^ r) / 2 ^ r=x % y:=by
 have hpow : (0 : Int) < 2 ^ r:=Int.pow_pos (by decide);constructor
 ·exact Int.mul_ediv_mul_of_pos_left x y hpow
 ·rw [Int.mul_comm x,Int.mul_comm y,Int.mul_emod_mul_of_pos _ _ hpow,Int.mul_comm]
  exact Int.mul_ediv_cancel _ (by omega)
theorem long_f {x y : Int} (hy : 0 < y) (hyx : y≤x) (h2 : 2≤(L y).length) (hl : (L x).length < 35184360000000) : Ev (fun k=>nat_long.f k (L x) (L y)) (L (x / y),L (x % y)):=by
 obtain ⟨i,hi,hp⟩:=rd_last hy;have rt:=W_rd (W_L y) (i : Int);have hb1:=bl_pos hp;have hb2:=bl_32 rt.2;obtain ⟨r,hr⟩ : ∃ r : Nat,(r : Int)=32 - bl (rd (L y) (i : Int)):=⟨(32 - bl (rd (L y) (i : Int))).toNat,by omega⟩
 have hr32 : r < 32:=by omega
 have hr65 : (r : Int)≤65536:=by omega
 have hx0 : 0≤x:=by omega
 have hy0 : 0≤y:=by omega
 have hxl:=L_le hx0;have hyl:=P_le_of_length hy0 hi;have hvl:=shifted_length hy hi hr hp
 have hila : i+1≤(L x).length:=by
  have:=L_length_lt (Int.le_trans hyl hyx);omega
 have hpow : (0 : Int) < 2 ^ r:=Int.pow_pos (by decide);have hys : 0 < y * 2 ^ r:=Int.mul_pos hy hpow;have hxs : 0≤x * 2 ^ r:=Int.mul_nonneg hx0 (by omega);have hvv : V (L (y * 2 ^ r))=y * 2 ^ r:=V_L (by omega);have huv : V (L (x * 2 ^ r))=x * 2 ^ r:=V_L hxs;obtain ⟨n,rfl⟩ : ∃ n,i=n+1:=⟨i - 1,by omega⟩;obtain ⟨i',hi',hp'⟩:=rd_last hys
 have hii : i'=n+1:=by omega
 subst hii
 have hul : (L (x * 2 ^ r)).length≤(L x).length+1:=by
  refine L_length_le _ ?_;rw [P_succ,Int.mul_comm 4294967296];have h3:=two_pow_le hr32;have h4 : x * 2 ^ r < P (L x).length * 2 ^ r:=Int.mul_lt_mul_of_pos_right hxl hpow;have h5 : P (L x).length * 2 ^ r≤P (L x).length * 4294967296:=Int.mul_le_mul_of_nonneg_left h3 (Int.le_of_lt (P_pos _));omega
 have w1 : wrap64 (((L y).length : Int) - 1)=((n+1 : Nat) : Int):=by unfold wrap64;omega
 have c1 : ((n+1 : Nat) : Int) < ((L y).length : Int):=by omega
 have c2 : (L y).length < 35184370000000:=by omega
 have c3 : (L x).length < 35184370000000:=by omega
 have c4 : (L x).length < 35184372087800:=by omega
 have c5 : (L x).length+1 < 35184372087809:=by omega
 have c6 : (L (y * 2 ^ r)).length≤(L x).length:=by omega
 have s1:=nshl_f (W_L y) c2 (r : Int);have s2:=nshl_f (W_L x) c3 (r : Int);rw [V_L hy0,shS_ok (Int.natCast_nonneg _) hr65,Int.toNat_natCast] at s1;rw [V_L hx0,shS_ok (Int.natCast_nonneg _) hr65,Int.toNat_natCast] at s2;have hds:=div_shift (x:=x) hy r;unfold nat_long.f;rw [w1];refine Ev_pos (Int.natCast_nonneg _) ?_;refine Ev_pos c1 ?_;refine Ev_some (lz_f hp rt.2) ?_;rw [← hr];refine Ev.bind s1 ?_;refine Ev.bind s2 ?_;refine long_l0 c4 c6 (A:=x * 2 ^ r) (fun u hu hul' huv'=>?_) _ _ rfl hul (W_L _) ⟨huv⟩;have hdg:=dg_start hx0 hxl hyl hvv (by omega : (L (y * 2 ^ r)).length=n+1+1) hila hu hul' huv'.out;have e:=long_l1 (W_L (y * 2 ^ r)) hi' hp' c5 hr32 _ u _ (by rw [List.length_replicate];exact Nat.le_refl _) hdg;rw [hvv,hds.1,hds.2] at e;rw [hvl];rw [hvl] at e;exact e
def dmS (x y : Int) : List Int × List Int × Bool:=if y=0 then ([],[],false) else (L (x / y),L (x % y),true)
theorem ndm_f {a b : List Int} (ha : W a) (hb : W b) (sa : a.length < 35184360000000) (sb : b.length < 35184360000000) : Ev (fun k=>nat_DivMod.f k a b) (dmS (V a) (V b)):=by
 have va:=V_nonneg ha;have vb:=V_nonneg hb;have la:=L_len_le ha;have lb:=L_len_le hb
 have hsa : Sm (L (V a)):=by unfold Sm;omega
 have hsb : Sm (L (V b)):=by unfold Sm;omega
 have sa' : (L (V a)).length < 35184372087809:=by omega
 have sa2 : (L (V a)).length < 35184360000000:=by omega
 refine Ev_some (trim_f ha) ?_;refine Ev_some (trim_f hb) ?_;generalize V a=x at *;generalize V b=y at *;unfold dmS
 by_cases hy : y=0
 ·subst hy
  rw [if_pos rfl,L_zero];refine Ev_pos rfl ?_;exact Ev.now _
 ·rw [if_neg hy]
  have hne : (L y).length≠0:=fun e=>hy ((L_nil_iff vb).1 (List.eq_nil_of_length_eq_zero e))
  have hyp : 0 < y:=by omega
  have n1 : ¬ ((L y).length : Int)=0:=by omega
  have hc:=ncmp_f (W_L x) (W_L y) hsa hsb;rw [V_L va,V_L vb] at hc;refine Ev_neg n1 ?_;refine Ev.bind hc ?_
  by_cases h : x < y
  ·refine Ev_pos (cm_neg.2 h) ?_
   have hn:=norm_f (W_L x) hsa;rw [V_L va] at hn;refine Ev_some hn ?_;rw [Int.ediv_eq_zero_of_lt va h,Int.emod_eq_of_lt va h,L_zero];exact Ev.now _
  ·refine Ev_neg (fun e=>h (cm_neg.1 e)) ?_
   by_cases h1 : ((L y).length : Int)=1
   ·refine Ev_pos h1 ?_
    refine Ev_pos (by omega) ?_;obtain ⟨z,hz⟩:=List.length_eq_one_iff.1 (show (L y).length=1 by omega);have hv:=V_L vb;rw [hz,V_one] at hv;subst hv;have hw:=W_L z;rw [hz] at hw;have hzb:=hw z (List.mem_singleton.2 rfl);have hs:=small_f (W_L x) (dv:=z) ⟨hyp,hzb.2⟩ sa';rw [V_L va] at hs;rw [hz];refine Ev.bind hs ?_;exact Ev.now _
   ·refine Ev_neg h1 ?_
    refine Ev.bind (long_f hyp (by omega) (by omega) sa2) ?_;exact Ev.now _
end Go.Proofs.Ytjiaobcoeegioaa.N
end
section
namespace Go.Proofs.Ytjiaobcoeegioaa.N
open Go Go.RowKit Go.Proofs.YtjiaobcoeegioaaW.PrintWords Go.Proofs.YtjiaobcoeegioaaW.PrintLast Go.Proofs.YtjiaobcoeegioaaW.PrintMore Go.Proofs.Ytjiaobcoeegioaa.Pq
theorem half_limb {lo hi Y Z X : Int} (h : X=lo+4294967296 * Y) (hY : Y=hi+4294967296 * Z) : X / 2=(hi % 2 * 4294967296+lo) / 2+4294967296 * (Y / 2):=by omega
theorem half_word {h lo : Int} (hh : 0≤h∧h < 4294967296) (hl : 0≤lo∧lo < 4294967296) :
  (IntKind.u64.wrap (Int.tdiv (IntKind.u64.wrap ((IntKind.u64.wrap ((Int.tmod h 2) * 4294967296))+(IntKind.u64.wrap lo))) 2)) % 4294967296=(h % 2 * 4294967296+lo) / 2:=by
 rw [Int.tmod_eq_emod_of_nonneg hh.1,wrap_u64_of (x:=h % 2 * 4294967296) (by omega) (by omega),wrap_u64_of (x:=lo) (by omega) (by omega),wrap_u64_of (x:=h % 2 * 4294967296+lo) (by omega) (by omega),
  Int.tdiv_eq_ediv_of_nonneg (by omega),wrap_u64_of (by omega) (by omega)]
 omega
theorem rhalf_l {l : List Int} (hl : W l) (hn : l.length < 35184372087809) : ∀ (d i : Nat) (p : List Int),l.length - i=d→i≤l.length→W p→p.length=i →
  Aside0 (V p+P i * (V (l.drop i) / 2)=V l / 2)→Ev (fun k=>penumbraref01_Half.l0 k l p (i : Int)) (L (V l / 2)):=by
 intro d
 induction d with
 | zero =>
  intro i p hd hi hw hp HV
  obtain rfl : i=l.length:=by omega
  have hv:=HV.out;rw [List.drop_length,V_nil,Int.zero_ediv,Int.mul_zero,Int.add_zero] at hv;refine Ev_up ?_;unfold penumbraref01_Half.l0;refine Ev_neg (by omega) ?_;refine Ev.bind (rnorm_f hw (by omega)) ?_;refine Ev_now ?_;rw [hv]
 | succ d ih =>
  intro i p hd hi hw hp HV
  have w1 : wrap64 ((i : Int)+1)=((i+1 : Nat) : Int):=by unfold wrap64;omega
  have rl:=W_rd hl (i : Int);have rh:=W_rd hl ((i+1 : Nat) : Int);have SL:=Aside0.mk (half_limb (V_drop l i) (V_drop l (i+1)))
  have c1 : (i : Int) < (l.length : Int):=by omega
  have c2 : p.length < 35184372088832:=by omega
  have c3 : 0≤(rd l ((i+1 : Nat) : Int) % 2 * 4294967296+rd l (i : Int)) / 2:=by omega
  have c4 : (rd l ((i+1 : Nat) : Int) % 2 * 4294967296+rd l (i : Int)) / 2 < 4294967296:=by omega
  have hrec:=ih (i+1) (p++[(rd l ((i+1 : Nat) : Int) % 2 * 4294967296+rd l (i : Int)) / 2]) (by omega) (by omega) (W_append hw (W_one c3 c4)) (by simp [hp]) ⟨by
   have hv:=HV.out;rw [SL.out] at hv;rw [V_snoc,hp,P_succ];clear ih
   grind⟩
  refine Ev_up ?_;unfold penumbraref01_Half.l0;rw [w1];refine Ev_pos c1 ?_;refine Ev_some (limb_f hl (i+1)) ?_;refine Ev_pos (Int.natCast_nonneg _) ?_;refine Ev_pos c2 ?_;rw [half_word rh rl];exact hrec
theorem Nm.half {l : List Int} {n : Nat} {x : Int} (h : Nm l n x) (hn : n < 35184372087809) : Ev (fun k=>penumbraref01_Half.f k l) (N.L (x / 2)):=by
 have h1:=h.le;have e:=rhalf_l h.w (by omega) _ 0 [] rfl (Nat.zero_le _) W_nil rfl ⟨by rw [V_nil,P_zero,List.drop_zero];omega⟩;rw [h.v] at e;exact e
theorem Nm.radd {a b : List Int} {m n : Nat} {x y : Int} (h : Nm a m x) (k : Nm b n y) (hm : m < 35184372087809) (hn : n < 35184372087809) : Ev (fun r=>penumbraref01_Add.f r a b) (N.L (x+y)):=by
 have h1:=h.le;have h2:=k.le;have e:=radd_f h.w k.w (by unfold Sm;omega) (by unfold Sm;omega)
 rwa [h.v,k.v] at e
theorem Nm.rsub {a b : List Int} {m n : Nat} {x y : Int} (h : Nm a m x) (k : Nm b n y) (hm : m < 35184372087809) (hn : n < 35184372087809) : Ev (fun r=>penumbraref01_Sub.f r a b) (subS x y):=by
 have h1:=h.le;have h2:=k.le;have e:=rsub_f h.w k.w (by unfold Sm;omega) (by unfold Sm;omega)
 rwa [h.v,k.v] at e
theorem Nm.rcmp {a b : List Int} {m n : Nat} {x y : Int} (h : Nm a m x) (k : Nm b n y) (hm : m < 35184372087809) (hn : n < 35184372087809) : Ev (fun r=>penumbraref01_Cmp.f r a b) (cm x y):=by
 have h1:=h.le;have h2:=k.le;have e:=rcmp_f h.w k.w (by unfold Sm;omega) (by unfold Sm;omega)
 rwa [h.v,k.v] at e
theorem Nm.rnrm {a : List Int} {m : Nat} {x : Int} (h : Nm a m x) (hm : m < 35184372087809) : Ev (fun r=>penumbraref01_Norm.f r a) (N.L x):=by
 have h1:=h.le;have e:=rnorm_f h.w (by omega)
 rwa [h.v] at e
theorem Nm.zero : Nm (N.L 0) 0 0:=by rw [L_zero];exact Nm.nil
theorem cm_zero_iff {x y : Int} : cm x y=0↔x=y:=by
 unfold cm
 by_cases h1 : x < y
 ·rw [if_pos h1];omega
 ·rw [if_neg h1]
  by_cases h2 : y < x
  ·rw [if_pos h2];omega
  ·rw [if_neg h2];omega
theorem Nm.rzero {a : List Int} {m : Nat} {x : Int} (h : Nm a m x) (hm : m < 35184372087809) : Ev (fun r=>penumbraref01_Zero.f r a) (decide (x=0)):=by
 refine Ev.bind (h.rcmp Nm.nil hm (by decide)) ?_;refine Ev_now ?_
 congr 1
 rw [Bool.eq_iff_iff];simp [cm_zero_iff]
theorem top_le {r : Int} (h0 : 0≤r) {e : Nat} (he : (L r).length=e+1) : rd (L r) (e : Int) * P e≤r∧r < (rd (L r) (e : Int)+1) * P e:=by
 have h1:=V_split' (L r) e;have h2:=V_nonneg (W_take (W_L r) e);have h3:=V_take_lt (W_L r) e;rw [V_drop (L r) e,List.drop_of_length_le (by omega),V_nil,V_L h0,Int.mul_zero,Int.add_zero,Int.mul_comm (P e)] at h1;rw [Int.add_mul,Int.one_mul];omega
theorem top2_le {r : Int} (h0 : 0≤r) {e : Nat} (he : (L r).length=e+2) : (rd (L r) ((e+1 : Nat) : Int) * 4294967296+rd (L r) (e : Int)) * P e≤r:=by
 have h1:=V_split' (L r) e;have h2:=V_nonneg (W_take (W_L r) e);rw [V_drop (L r) e,V_drop (L r) (e+1),List.drop_of_length_le (by omega),V_nil,V_L h0,Int.mul_zero,Int.add_zero,Int.mul_comm (P e),Int.add_comm (rd (L r) (e : Int)),Int.mul_comm 4294967296] at h1;omega
theorem guess_le {a tp t d r : Int} {pl f e : Nat} (he : pl+f=e) (ht0 : 0≤t) (ht : t * tp≤a) (hd : d≤tp * P f) (hr : a * P e≤r) : t * P pl * d≤r:=by
 subst he;have h1 : t * P pl * d≤t * P pl * (tp * P f):=Int.mul_le_mul_of_nonneg_left hd (Int.mul_nonneg ht0 (Int.le_of_lt (P_pos _)));have h2 : t * tp * P (pl+f)≤a * P (pl+f):=Int.mul_le_mul_of_nonneg_right ht (Int.le_of_lt (P_pos _))
 have h3 : t * P pl * (tp * P f)=t * tp * P (pl+f):=by rw [P_add];grind
 rw [h3] at h1;exact Int.le_trans h1 (Int.le_trans h2 hr)
theorem at_f {t : Int} (h0 : 0≤t) (h1 : t < 18446744073709551616) {pl : Nat} (hp : pl < 35184372088000) : ∃ s,penumbraref01_at.f t (pl : Int)=some s∧Nm s (pl+2) (t * P pl):=by
 refine ⟨List.replicate pl 0++[t % 4294967296,t / 4294967296],?_,?_,?_,?_⟩
 ·unfold penumbraref01_at.f
  rw [if_pos (Int.natCast_nonneg _),Int.toNat_natCast,if_pos (by omega),Option.bind_some,Option.bind_some,Int.tmod_eq_emod_of_nonneg h0,Int.tdiv_eq_ediv_of_nonneg h0,wrap_u64_of (x:=t / 4294967296) (by omega) (by omega),
   Int.emod_emod,show t / 4294967296 % 4294967296=t / 4294967296 by omega,if_pos (by simp;omega)]
 ·exact W_append (W_replicate _) (W_cons.2 ⟨by omega,W_one (by omega) (by omega)⟩)
 ·rw [V_append,V_replicate,List.length_replicate,V_cons,V_one,Int.zero_add,Int.mul_comm]
  congr 1
  omega
 ·simp
theorem rdm_j4 {d tp r q t : Int} {f N T pl : Nat} (hN : N < 17592186040000) (hpl : pl≤N) (hd : 0 < d) (hdr : d≤r) (hr : r < P N) (hq : 0≤q) (hqN : q < P N) (ht0 : 0≤t) (ht : t < 18446744073709551616) (hle : t * P pl * d≤r) (R : List Int × List Int × Bool)
  (next : Ev (fun k=>penumbraref01_DivMod.l1 k (L d) (L (r - t * P pl * d)) (T : Int) (L (q+t * P pl)) ((f+1 : Nat) : Int) tp) R) :
  Ev (fun k=>penumbraref01_DivMod.j4 k (L d) (L r) (T : Int) (L q) ((f+1 : Nat) : Int) tp (pl : Int) t) R:=by
 obtain ⟨s,es,hs⟩:=at_f ht0 ht (pl:=pl) (by omega)
 have r0 : 0≤r:=by omega
 have nq:=Nm.L hq hqN;have nd : Nm (L d) N d:=Nm.L (by omega) (by omega);have nr:=Nm.L r0 hr;have g0 : 0≤t * P pl * d:=Int.mul_nonneg (Int.mul_nonneg ht0 (Int.le_of_lt (P_pos _))) (by omega);have ng : Nm (L (t * P pl * d)) N (t * P pl * d):=Nm.L g0 (by omega);refine Ev_up ?_;unfold penumbraref01_DivMod.j4;refine Ev_some es ?_;refine Ev.bind (nq.radd hs (by omega) (by omega)) ?_;refine Ev.bind (hs.rmul nd (by omega)) ?_;refine Ev.bind (nr.rsub ng (by omega) (by omega)) ?_;rw [show subS r (t * P pl * d)=(L (r - t * P pl * d),true) from if_neg (by omega)];exact next
theorem tops {a1 a2 tp : Int} (h1 : 0 < a1∧a1 < 4294967296) (h2 : 0≤a2∧a2 < 4294967296) (h3 : 0 < tp∧tp≤4294967296) :
  IntKind.u64.wrap (Int.tdiv (IntKind.u64.wrap (IntKind.u64.wrap (IntKind.u64.wrap a1 * 4294967296)+IntKind.u64.wrap a2)) tp)=(a1 * 4294967296+a2) / tp∧0 < (a1 * 4294967296+a2) / tp∧(a1 * 4294967296+a2) / tp < 18446744073709551616:=by
 have b1 : (a1 * 4294967296+a2) / tp≤a1 * 4294967296+a2:=Int.ediv_le_self _ (by omega);have b2 : 0 < (a1 * 4294967296+a2) / tp:=Int.le_ediv_of_mul_le h3.1 (by omega);refine ⟨?_,b2,by omega⟩
 rw [wrap_u64_of (x:=a1) (by omega) (by omega),wrap_u64_of (x:=a1 * 4294967296) (by omega) (by omega),wrap_u64_of (x:=a2) (by omega) (by omega),wrap_u64_of (x:=a1 * 4294967296+a2) (by omega) (by omega),Int.tdiv_eq_ediv_of_nonneg (by omega),
  wrap_u64_of (Int.le_of_lt b2) (by omega)]
theorem top1 {a1 tp : Int} (h1 : 0 < a1∧a1 < 4294967296) (h3 : 0 < tp) : IntKind.u64.wrap (Int.tdiv (IntKind.u64.wrap a1) tp)=a1 / tp∧0≤a1 / tp∧a1 / tp < 18446744073709551616:=by
 have b1 : a1 / tp≤a1:=Int.ediv_le_self _ (by omega);have b2 : 0≤a1 / tp:=Int.ediv_nonneg (by omega) (by omega);refine ⟨?_,b2,by omega⟩;rw [wrap_u64_of (x:=a1) (by omega) (by omega),Int.tdiv_eq_ediv_of_nonneg (by omega),wrap_u64_of b2 (by omega)]
theorem rdm_l1 {d : Int} (hd : 0 < d) {f : Nat} (hf : (L d).length=f+1) (hfN : f < 17592186040000) {tp : Int} (htp : tp=rd (L d) (f : Int)+1) {A : Int} {N : Nat} (hN : N < 17592186040000) (hA : A < P N) {T : Nat} (R : List Int × List Int × Bool)
  (next : Ev (fun k=>penumbraref01_DivMod.l2 k (L (A % d)) (T : Int) (L (A / d)) 0) R) : ∀ (M : Nat) (r q : Int),r.toNat < M→0≤r→0≤q→q * d+r=A →
  Ev (fun k=>penumbraref01_DivMod.l1 k (L d) (L r) (T : Int) (L q) ((f+1 : Nat) : Int) tp) R:=by
 have rt:=W_rd (W_L d) (f : Int);have hdt:=top_le (Int.le_of_lt hd) hf;have hPd:=P_le_of_length (Int.le_of_lt hd) hf;rw [← htp] at hdt
 have htp0 : 0 < tp:=by omega
 have htp1 : tp≤4294967296:=by omega
 have htpn : ¬ tp=0:=by omega
 have hdt2:=Aside0.mk (Int.le_of_lt hdt.2);clear hdt;intro M
 induction M with
 | zero=>intro r q h;omega
 | succ M ih =>
  intro r q hM hr hq hA';have hqd : 0≤q * d:=Int.mul_nonneg hq (by omega);have hqq : q * 1≤q * d:=Int.mul_le_mul_of_nonneg_left (by omega) hq
  have hrN : r < P N:=by omega
  have hqN : q < P N:=by omega
  have nr:=Nm.L hr hrN;have hrl:=nr.le;have hc:=rcmp_f (a:=L r) (b:=L d) (W_L _) (W_L _) (by unfold Sm;omega) (by unfold Sm;omega);rw [V_L hr,V_L (by omega)] at hc;refine Ev_up ?_;unfold penumbraref01_DivMod.l1;refine Ev.bind hc ?_
  by_cases hlt : r < d
  ·rw [cm_lt hlt]
   refine Ev_neg (by decide) ?_
   have e1 : A / d=q:=by rw [← hA',Int.add_comm,Int.add_mul_ediv_right _ _ (by omega),Int.ediv_eq_zero_of_lt hr hlt];omega
   have e2 : A % d=r:=by rw [← hA',Int.add_comm,Int.add_mul_emod_self_right,Int.emod_eq_of_lt hr hlt]
   rw [e1,e2] at next;exact next
  ·have hdr : d≤r:=by omega
   have fin : ∀ (pl : Nat) (t : Int),1≤t→t < 18446744073709551616→pl≤N→t * P pl * d≤r→Ev (fun k=>penumbraref01_DivMod.j4 k (L d) (L r) (T : Int) (L q) ((f+1 : Nat) : Int) tp (pl : Int) t) R:=by
    intro pl t ht0 ht1 hpl hle;have h1 : 1≤t * P pl:=Int.mul_pos (by omega) (P_pos pl);have h2 : 1 * d≤t * P pl * d:=Int.mul_le_mul_of_nonneg_right h1 (by omega);refine rdm_j4 hN hpl hd hdr hrN hq hqN (by omega) ht1 hle R (ih _ _ (by omega) (by omega) (by omega) ?_);rw [Int.add_mul];omega
   clear ih
   have hc0 : cm r d ≥ 0:=by
    have:=@cm_neg r d;omega
   refine Ev_pos hc0 ?_;obtain ⟨e,he,hp⟩:=rd_last (show 0 < r by omega)
   have hfe : f≤e:=by
    have:=L_length_lt (Int.le_trans hPd hdr);omega
   have ra:=W_rd (W_L r) (e : Int);have ht1:=top1 ⟨hp,ra.2⟩ htp0
   have w1 : wrap64 (((L r).length : Int) - 1)=(e : Int):=by unfold wrap64;omega
   have w2 : wrap64 (((L r).length : Int) - ((f+1 : Nat) : Int))=((e - f : Nat) : Int):=by unfold wrap64;omega
   have c1 : (e : Int) < ((L r).length : Int):=by omega
   have hPe:=Aside0.mk (top_le hr he).1;rw [w1,w2,ht1.1];refine Ev_pos (Int.natCast_nonneg _) ?_;refine Ev_pos c1 ?_;refine Ev_neg htpn ?_
   by_cases h0 : rd (L r) (e : Int) / tp=0
   ·refine Ev_pos h0 ?_
    refine Ev_up ?_;unfold penumbraref01_DivMod.j2
    by_cases hgt : ((L r).length : Int) > ((f+1 : Nat) : Int)
    ·refine Ev_pos (decide_eq_true hgt) ?_
     obtain ⟨e',rfl⟩ : ∃ e',e=e'+1:=⟨e - 1,by omega⟩;have ra2:=W_rd (W_L r) (e' : Int);have ht2:=tops ⟨hp,ra.2⟩ ra2 ⟨htp0,htp1⟩
     have w3 : wrap64 (((L r).length : Int) - 2)=(e' : Int):=by unfold wrap64;omega
     have w4 : wrap64 (((e'+1 - f : Nat) : Int) - 1)=((e' - f : Nat) : Int):=by unfold wrap64;omega
     have c2 : (e' : Int) < ((L r).length : Int):=by omega
     have c3 : ¬ (rd (L r) ((e'+1 : Nat) : Int) * 4294967296+rd (L r) (e' : Int)) / tp=0:=by omega
     have hP2:=Aside0.mk (top2_le hr he);rw [w1,w3,w4,ht2.1];refine Ev_pos (Int.natCast_nonneg _) ?_;refine Ev_pos c1 ?_;refine Ev_pos (Int.natCast_nonneg _) ?_;refine Ev_pos c2 ?_;refine Ev_neg htpn ?_;refine Ev_up ?_;unfold penumbraref01_DivMod.j3;refine Ev_neg c3 ?_;refine fin _ _ ht2.2.1 ht2.2.2 (by omega) ?_;exact guess_le (by omega) (Int.le_of_lt ht2.2.1) (Int.ediv_mul_le _ htpn) hdt2.out hP2.out
    ·refine Ev_neg (by rw [decide_eq_true_iff];exact hgt) ?_
     refine Ev_up ?_;unfold penumbraref01_DivMod.j3;refine Ev_pos h0 ?_;refine fin _ 1 (by omega) (by omega) (by omega) ?_;rw [show e - f=0 by omega,P_zero,Int.one_mul,Int.one_mul];exact hdr
   ·refine Ev_neg h0 ?_
    refine Ev_up ?_;unfold penumbraref01_DivMod.j2;refine Ev_neg (by decide) ?_;refine Ev_up ?_;unfold penumbraref01_DivMod.j3;refine Ev_neg h0 ?_;refine fin _ _ (by omega) ht1.2.2 (by omega) ?_;exact guess_le (by omega) ht1.2.1 (Int.ediv_mul_le _ htpn) hdt2.out hPe.out
theorem rdm_l2 {T N : Nat} (hT : T < 32) (hN : N < 35184372087809) (q : List Int) : ∀ (c i : Nat) (r : Int),T - i=c→i≤T→0≤r→r < P N →
  Ev (fun k=>penumbraref01_DivMod.l2 k (L r) (T : Int) q (i : Int)) (q,L (r / 2 ^ c),true):=by
 intro c
 induction c with
 | zero =>
  intro i r hc hi hr hrN;refine Ev_up ?_;unfold penumbraref01_DivMod.l2;refine Ev_neg (by omega) ?_;refine Ev_now ?_;rw [Int.pow_zero,Int.ediv_one]
 | succ c ih =>
  intro i r hc hi hr hrN
  have w1 : wrap64 ((i : Int)+1)=((i+1 : Nat) : Int):=by unfold wrap64;omega
  refine Ev_up ?_;unfold penumbraref01_DivMod.l2;rw [w1];refine Ev_pos (by omega) ?_;refine Ev.bind ((Nm.L hr hrN).half hN) ?_;refine Ev_eq (ih (i+1) (r / 2) (by omega) (by omega) (by omega) (by omega)) ?_;rw [Int.ediv_ediv_of_nonneg (by decide),Int.pow_succ,Int.mul_comm]
theorem lt_of_bl {x : Int} (h : 0 < x) {n : Nat} (hb : bl x≤(n : Int)) : x < 2 ^ n:=by
 obtain ⟨k,hk⟩ : ∃ k,k=x.toNat.log2:=⟨_,rfl⟩;have h1:=bl_log h;rw [← hk] at h1;have h2 : bl x=(k : Int)+1:=bl_of h1.1 h1.2
 have h3 : k+1≤n:=by clear h1;omega
 exact Int.lt_of_lt_of_le h1.2 (two_pow_mono h3)
theorem le_of_bl {x : Int} (h : 0 < x) {n : Nat} (hb : (n : Int) < bl x) : 2 ^ n≤x:=by
 obtain ⟨k,hk⟩ : ∃ k,k=x.toNat.log2:=⟨_,rfl⟩;have h1:=bl_log h;rw [← hk] at h1;have h2 : bl x=(k : Int)+1:=bl_of h1.1 h1.2
 have h3 : n≤k:=by clear h1;omega
 exact Int.le_trans (two_pow_mono h3) h1.1
theorem shift_lt_P {x : Int} (hx : 0≤x) {t N : Nat} (ht : t < 32) (h : x < P N) : x * 2 ^ t < P (N+1):=by
 rw [P_succ,Int.mul_comm 4294967296];exact Int.lt_of_le_of_lt (Int.mul_le_mul_of_nonneg_left (two_pow_le ht) hx) (Int.mul_lt_mul_of_pos_right h (by decide))
theorem mod_le {X D : Int} (hX : 0≤X) (hD : 0 < D) : X % D≤X:=by
 have h1:=Int.emod_add_mul_ediv X D;have h2 : 0≤D * (X / D):=Int.mul_nonneg (Int.le_of_lt hD) (Int.ediv_nonneg hX (Int.le_of_lt hD));omega
theorem rdm_l0 {x y : Int} (hx : 0≤x) (hy : 0 < y) {i T N : Nat} (hi : (L y).length=i+1) (hT : (T : Int)=32 * ((i : Int)+1) - bl y) (hT32 : T < 32) (hN : N+32 < 17592186040000) (hiN : i < N) (hxN : x < P N) (R : List Int × List Int × Bool)
  (next : ∀ tp,tp=rd (L (y * 2 ^ T)) (i : Int)+1→(L (y * 2 ^ T)).length=i+1→Ev (fun k=>penumbraref01_DivMod.l1 k (L (y * 2 ^ T)) (L (x * 2 ^ T)) (T : Int) [] ((i+1 : Nat) : Int) tp) R) :
  ∀ (c t : Nat),T - t=c→t≤T→Ev (fun k=>penumbraref01_DivMod.l0 k (L (y * 2 ^ t)) (L (x * 2 ^ t)) (t : Int)) R:=by
 have len : ∀ t,t≤T→(L (y * 2 ^ t)).length=i+1∧0 < rd (L (y * 2 ^ t)) (i : Int)∧bl (rd (L (y * 2 ^ t)) (i : Int))=bl y+t - 32 * i:=by
  intro t ht;have hpos : 0 < y * 2 ^ t:=Int.mul_pos hy (Int.pow_pos (by decide));have h2:=bl_shift hy t;have h3:=bl_log hpos;have h4 : bl (y * 2 ^ t)=((y * 2 ^ t).toNat.log2 : Int)+1:=bl_of h3.1 h3.2;have hPy:=P_le_of_length (Int.le_of_lt hy) hi
  have hby : 32 * (i : Int) < bl y:=by
   obtain ⟨i0,hi0,hp0⟩:=rd_last hy
   obtain rfl : i0=i:=by omega
   have h5:=bl_V (W_L y) i0 hi hp0;rw [V_L (by omega)] at h5;have:=bl_pos hp0;omega
  have h6 : (y * 2 ^ t).toNat.log2+1≤32 * (i+1):=by omega
  have h7 : y * 2 ^ t < P (i+1):=by
   rw [P_pow];exact Int.lt_of_lt_of_le h3.2 (two_pow_mono h6)
  have h8 : P i≤y * 2 ^ t:=by
   refine Int.le_trans ?_ h3.1;rw [P_pow];exact two_pow_mono (by omega)
  have h9:=L_length_le (i+1) h7;have h10:=L_length_lt h8
  have hl : (L (y * 2 ^ t)).length=i+1:=by omega
  obtain ⟨i1,hi1,hp1⟩:=rd_last hpos
  obtain rfl : i1=i:=by omega
  have h11:=bl_V (W_L (y * 2 ^ t)) i1 hi1 hp1;rw [V_L (by omega)] at h11;exact ⟨hl,hp1,by omega⟩
 have b1 : i+1 < 35184372088830:=by clear len next;omega
 have b2 : N+1 < 35184372088830:=by clear len next;omega
 intro c
 induction c with
 | zero =>
  intro t hc ht
  obtain rfl : t=T:=by omega
  obtain ⟨hl,hp,hb⟩:=len t (Nat.le_refl _);have rt:=W_rd (W_L (y * 2 ^ t)) (i : Int)
  have hn : ¬ rd (L (y * 2 ^ t)) (i : Int) < 2147483648:=by
   have h1:=le_of_bl hp (n:=31) (by omega);exact Int.not_lt.2 h1
  have w1 : wrap64 (((L (y * 2 ^ t)).length : Int) - 1)=(i : Int):=by unfold wrap64;omega
  have w2 : IntKind.u64.wrap (IntKind.u64.wrap (rd (L (y * 2 ^ t)) (i : Int))+1)=rd (L (y * 2 ^ t)) (i : Int)+1:=by
   rw [wrap_u64_of (x:=rd (L (y * 2 ^ t)) (i : Int)) (by omega) (by omega),wrap_u64_of (by omega) (by omega)]
  have c1 : (i : Int) < ((L (y * 2 ^ t)).length : Int):=by omega
  refine Ev_up ?_;unfold penumbraref01_DivMod.l0;rw [w1,w2];refine Ev_pos (Int.natCast_nonneg _) ?_;refine Ev_pos c1 ?_;refine Ev_neg hn ?_;rw [hl];exact next _ rfl hl
 | succ c ih =>
  intro t hc ht;have hrec:=ih (t+1) (by omega) (by omega);clear ih;obtain ⟨hl,hp,hb⟩:=len t ht
  have c1 : (i : Int) < ((L (y * 2 ^ t)).length : Int):=by rw [hl];omega
  have rt:=W_rd (W_L (y * 2 ^ t)) (i : Int);have hlt : rd (L (y * 2 ^ t)) (i : Int) < 2147483648:=lt_of_bl hp (n:=31) (by omega)
  have w1 : wrap64 (((L (y * 2 ^ t)).length : Int) - 1)=(i : Int):=by rw [hl];unfold wrap64;omega
  have w2 : wrap64 ((t : Int)+1)=((t+1 : Nat) : Int):=by unfold wrap64;omega
  have hy2 : 0≤y * 2 ^ t:=Int.mul_nonneg (Int.le_of_lt hy) (Int.le_of_lt (Int.pow_pos (by decide)));have hx2 : 0≤x * 2 ^ t:=Int.mul_nonneg hx (Int.le_of_lt (Int.pow_pos (by decide)));have ny : Nm (L (y * 2 ^ t)) (i+1) (y * 2 ^ t):=⟨W_L _,V_L hy2,Nat.le_of_eq hl⟩;have nx : Nm (L (x * 2 ^ t)) (N+1) (x * 2 ^ t):=Nm.L hx2 (shift_lt_P hx (Nat.lt_of_le_of_lt ht hT32) hxN)
  have e1 : y * 2 ^ (t+1)=2 * (y * 2 ^ t)+if false then 1 else 0:=by rw [Int.pow_succ];grind
  have e2 : x * 2 ^ (t+1)=2 * (x * 2 ^ t)+if false then 1 else 0:=by rw [Int.pow_succ];grind
  rw [e1,e2] at hrec;refine Ev_up ?_;unfold penumbraref01_DivMod.l0;rw [w1,w2];refine Ev_pos (Int.natCast_nonneg _) ?_;refine Ev_pos c1 ?_;refine Ev_pos hlt ?_;refine Ev.bind (ny.double b1 false) ?_;refine Ev.bind (nx.double b2 false) ?_;exact hrec
theorem Nm.rdm {a b : List Int} {m n : Nat} {x y : Int} (h : Nm a m x) (k : Nm b n y) (hm : m < 8796093000000) (hn : n < 8796093000000) : Ev (fun r=>penumbraref01_DivMod.f r a b) (dmS x y):=by
 refine Ev.bind (k.rzero (by omega)) ?_;unfold dmS
 by_cases hy : y=0
 ·subst hy
  rw [if_pos rfl];refine Ev_pos rfl ?_;exact Ev.now _
 ·rw [if_neg hy]
  refine Ev_neg (by simp [hy]) ?_;refine Ev.bind (k.rnrm (by omega)) ?_;refine Ev.bind (h.rnrm (by omega)) ?_
  have hyp : 0 < y:=by have:=k.pos;omega
  have hx:=h.pos;obtain ⟨i,hi,hp⟩:=rd_last hyp;have hkl:=k.norm.le;have hb1:=bl_V (W_L y) i hi hp;rw [V_L (by omega)] at hb1;have rt:=W_rd (W_L y) (i : Int);have hb2:=bl_pos hp;have hb3:=bl_32 rt.2;obtain ⟨T,hT⟩ : ∃ T : Nat,(T : Int)=32 * ((i : Int)+1) - bl y:=⟨(32 * ((i : Int)+1) - bl y).toNat,by omega⟩
  have hT32 : T < 32:=by omega
  have hxN : x < P (m+n):=Int.lt_of_lt_of_le h.lt (P_le (by omega));have hpow : (0 : Int) < 2 ^ T:=Int.pow_pos (by decide);have hds:=div_shift (x:=x) hyp T;have hA:=shift_lt_P hx hT32 hxN;have hys : 0 < y * 2 ^ T:=Int.mul_pos hyp hpow;have hxs : 0≤x * 2 ^ T:=Int.mul_nonneg hx (Int.le_of_lt hpow);have e:=rdm_l0 (R:=(N.L (x / y),N.L (x % y),true)) hx hyp hi hT hT32 (N:=m+n) (by omega) (by omega) hxN ?_ T 0 (by omega) (by omega)
  ·rw [Int.pow_zero,Int.mul_one,Int.mul_one] at e
   exact e
  ·intro tp htp hl
   have h1:=rdm_l1 hys hl (by omega) htp (A:=x * 2 ^ T) (N:=m+n+1) (by omega) hA (T:=T) (N.L (x / y),N.L (x % y),true) ?_ ((x * 2 ^ T).toNat+1) (x * 2 ^ T) 0 (by omega) hxs (Int.le_refl _) (by rw [Int.zero_mul,Int.zero_add])
   ·rw [L_zero] at h1
    exact h1
   ·have h2:=rdm_l2 (T:=T) (N:=m+n+1) hT32 (by omega) (N.L (x * 2 ^ T / (y * 2 ^ T))) T 0 (x * 2 ^ T % (y * 2 ^ T)) (by omega) (by omega) (Int.emod_nonneg _ (by omega)) (Int.lt_of_le_of_lt (mod_le hxs hys) hA)
    rw [hds.2,hds.1] at h2;rw [hds.1];exact h2
theorem Nm.dm {a b : List Int} {m n : Nat} {x y : Int} (h : Nm a m x) (k : Nm b n y) (hm : m < 35184360000000) (hn : n < 35184360000000) : Ev (fun r=>nat_DivMod.f r a b) (dmS x y):=by
 have h1:=h.le;have h2:=k.le;have e:=ndm_f h.w k.w (by omega) (by omega)
 rwa [h.v,k.v] at e
end Go.Proofs.Ytjiaobcoeegioaa.N
end
