import Derived.Test.YtjiaobcoeegioaaPBas1
set_option linter.unusedVariables false
set_option linter.unusedSimpArgs false
section
namespace Go.Proofs.Ytjiaobcoeegioaa.Pq
open Go.RowKit Go.Proofs.YtjiaobcoeegioaaW.PrintWords Go.Proofs.YtjiaobcoeegioaaW.PrintLast Go.Proofs.YtjiaobcoeegioaaW.PrintMore
attribute [local go_sem] max2_int min2_int max_two min_two max_three min_three max_four min_four
set_option linter.unusedVariables false
set_option linter.unusedSimpArgs false
set_option maxHeartbeats 8000000
set_option maxRecDepth 100000
theorem nat_shr.calls (k : Nat) (A0 : Option Addr) (c0 : Nat) (l0 : List Int) (a1 : Int) (r : List Int) (w : World) (hr0 : Kd.C (Kd.int .u32) w A0 l0.length l0) (hc0 : l0.length≤c0) (h : nat_shr.f k l0 a1=some r) :
  Calls Try.prog 85 #[.slice A0 l0.length c0,.int .i64 a1] w fun e w'=>∃ v0_ : Value,e=.returned (v0_)∧Kd.R (Kd.int .u32) 82 w' w.heap.size (fun _=>True) v0_ r∧Below w.heap.size w w':=by
 have HR0:=Aside0.mk hr0
 have HC0:=Aside0.mk hc0
 clear hr0 hc0
 have HB:=Aside0.mk (Below.refl w.heap.size w)
 have H : (if 0≤(l0.length : Int) then (if ((l0.length : Int) : Int).toNat≤70368744177664 then (nat_shr.l0 k l0 a1 (List.replicate ((l0.length : Int) : Int).toNat 0) l0 (l0.length : Int) 0) else (none)) else (none))=some r:=h
 clear h
 by_cases c3 : 0≤(l0.length : Int)
 ·rw [if_pos c3] at H
  have c3b0:=eq_true c3
  have c3b1 : decide (0≤(l0.length : Int))=true:=decide_eq_true c3
  clear c3
  by_cases c4 : ((l0.length : Int) : Int).toNat≤70368744177664
  ·rw [if_pos c4] at H
   have c4b0:=eq_true c4
   have c4b1 : decide (((l0.length : Int) : Int).toNat≤70368744177664)=true:=decide_eq_true c4
   clear c4
   obtain ⟨y149,hy149⟩ : ∃ y_ : List Int,y_=(List.replicate ((l0.length : Int) : Int).toNat 0):=⟨_,rfl⟩
   replace H : (nat_shr.l0 k l0 a1 y149 l0 (l0.length : Int) 0)=some r:=by first|(rw [hy149];with_reducible exact H)|(have H2_:=(Option.bind_some _ _).symm.trans H;rw [hy149];with_reducible exact H2_)|(have H2_:=(Option.bind_some _ _).symm.trans H;with_reducible exact H2_)|with_reducible exact H|(rw [hy149];exact H)|exact H
   have Ny149:=Aside0.mk hy149
   clear hy149
   have H':=Aside0.mk H
   clear H
   go_enter Try.func85,Try.ntmps85
   go_wp2_with (first|((with_reducible refine gate_dst (N:=11) rfl ?_);refine Kd.R_make (Kd.int .u32) _ 82 rfl (N:=11) rfl 61 _ _ rfl (l0.length : Int) rfl rfl Try.underlying61 (.int .u32 0) 4 info82 rfl (by decide) (by omega) 0 (ok:=fun _=>True) (okp:=fun _=>True) rfl (fun _ hk=>hk) trivial (of_decide_eq_true (by first|(with_reducible assumption)|assumption)) (Nat.le_trans (Nat.mul_le_mul_right _ (of_decide_eq_true (by first|(with_reducible assumption)|assumption) : (l0.length : Int).toNat≤70368744177664)) (by omega)) (Below.refl _ _) (Nat.le_refl _) ?_;intro v150 w5 ho6 hb hg_ hnew_;clear hg_ hnew_;(first|rw [← Ny149.out] at ho6|(simp only [Int.reduceToNat] at ho6;rw [← Ny149.out] at ho6));have n0_:=Aside0.mk (Kd.R_lower ho6 (below_size (by repeat (first|(with_reducible first|exact HB.out|apply below_alloc|apply pw_below_drewN|apply below_drew1)|exact HB.out))));have n1_:=Aside0.mk (below_step (by repeat (first|(with_reducible first|exact HB.out|apply below_alloc|apply pw_below_drewN|apply below_drew1)|exact HB.out)) hb);clear HB;have HO151:=n0_;have HB:=n1_;clear n0_ n1_;clear hb ho6))
   go_loopg [14] k (fun kq v14 w'=>∃ (x5_1 : List Int) (x14_1 : Int),v14=.int .i64 x14_1∧Aside0 (nat_shr.l0 kq l0 a1 x5_1 l0 (l0.length : Int) x14_1=some r)∧Aside0 (kq≤k)∧Aside0 (Kd.R (Kd.int .u32) 82 w' w.heap.size (fun _=>True) v150 x5_1)∧Aside0 (Below w.heap.size w w'))
   case atStart=>exact ⟨(y149),(0),(by first|rfl|(simp;done)|(simp [*];done)),H',⟨Nat.le_refl _⟩,⟨by (with_reducible repeat (first|apply Kd.R_alloc|apply Kd.R_drewN|apply Kd.R_drew));exact HO151.out⟩,⟨by repeat (first|(with_reducible first|exact HB.out|apply below_alloc|apply pw_below_drewN|apply below_drew1)|exact HB.out)⟩⟩
   case round =>
    clear H'
    try clear p2
    try clear c3
    try clear c3b0
    try clear c3b1
    try clear c4
    try clear c4b0
    try clear c4b1
    obtain ⟨x5_1,x14_1,rfl,HA,HK1,HO_5,HB⟩:=hrel
    cases gk with
   |zero=>exact absurd HA.out (by simp [nat_shr.l0])
   |succ k1 =>
     have H:=HA.out
     clear HA
     simp only [nat_shr.l0] at H
     by_cases c7 : x14_1 < (l0.length : Int)
     ·rw [if_pos c7] at H
      have c7b0 : decide (x14_1 < (l0.length : Int))=true:=decide_eq_true c7
      clear c7
      by_cases c8 : 0≤x14_1
      ·rw [if_pos c8] at H
       have c8b0 : decide (0≤x14_1)=true:=decide_eq_true c8
       clear c8
       by_cases c9 : x14_1 < (l0.length : Int)
       ·rw [if_pos c9] at H
        have c9b0 : decide (x14_1 < (l0.length : Int))=true:=decide_eq_true c9
        clear c9
        by_cases c10 : (wrap64 (x14_1+1)) < (l0.length : Int)
        ·rw [if_pos c10] at H
         have c10b0 : decide ((wrap64 (x14_1+1)) < (l0.length : Int))=true:=decide_eq_true c10
         clear c10
         obtain ⟨ji11,hji11⟩ : ∃ j_ : Int,(wrap64 (x14_1+1))=j_:=⟨_,rfl⟩
         replace H : (if 0≤(ji11) then (if 0≤a1 then (if x14_1 < (x5_1.length : Int) then (nat_shr.l0 k1 l0 a1 (x5_1.set (x14_1 : Int).toNat ((shr .u64 (Go.bits .or .u64 (IntKind.u64.wrap ((IntKind.u64.wrap (rd l0 (ji11))) * 4294967296)) (IntKind.u64.wrap (rd l0 x14_1))) a1) % 4294967296)) l0 (l0.length : Int) ji11) else (none)) else (none)) else (none))=some r:=by first|(rw [hji11] at H;exact H)|(simp only [hji11] at H ⊢;exact H)
         (try rw [hji11] at c10b0)
         have hji11w : (IntKind.i64.wrap (x14_1+1))=ji11:=(i64_w _).trans hji11
         by_cases c12 : 0≤(ji11)
         ·rw [if_pos c12] at H
          have c12b0 : decide (0≤(ji11))=true:=decide_eq_true c12
          clear c12
          by_cases c13 : 0≤a1
          ·rw [if_pos c13] at H
           have c13b0:=eq_true c13
           have c13b1 : decide (0≤a1)=true:=decide_eq_true c13
           clear c13
           obtain ⟨ji14,hji14⟩ : ∃ j_ : Int,(shr .u64 (Go.bits .or .u64 (IntKind.u64.wrap ((IntKind.u64.wrap (rd l0 (ji11))) * 4294967296)) (IntKind.u64.wrap (rd l0 x14_1))) a1)=j_:=⟨_,rfl⟩
           replace H : (if x14_1 < (x5_1.length : Int) then (nat_shr.l0 k1 l0 a1 (x5_1.set (x14_1 : Int).toNat ((ji14) % 4294967296)) l0 (l0.length : Int) ji11) else (none))=some r:=by first|(rw [hji14] at H;exact H)|(simp only [hji14] at H ⊢;exact H)
           have hji14_ : ((Go.bits .or .u64 (IntKind.u64.wrap ((IntKind.u64.wrap (rd l0 (ji11))) * 4294967296)) (IntKind.u64.wrap (rd l0 x14_1))) / 2 ^ min a1.toNat 64)=ji14:=hji14
           have hji14z : a1≤64→((Go.bits .or .u64 (IntKind.u64.wrap ((IntKind.u64.wrap (rd l0 (ji11))) * 4294967296)) (IntKind.u64.wrap (rd l0 x14_1))) / 2 ^ a1.toNat)=ji14:=shr_small hji14
           by_cases c15 : x14_1 < (x5_1.length : Int)
           ·rw [if_pos c15] at H
            have c15b0 : decide (x14_1 < (x5_1.length : Int))=true:=decide_eq_true c15
            clear c15
            obtain ⟨y154,hy154⟩ : ∃ y_ : List Int,y_=(x5_1.set (x14_1 : Int).toNat ((ji14) % 4294967296)):=⟨_,rfl⟩
            replace H : (nat_shr.l0 k1 l0 a1 y154 l0 (l0.length : Int) ji11)=some r:=by first|(rw [hy154];with_reducible exact H)|(have H2_:=(Option.bind_some _ _).symm.trans H;rw [hy154];with_reducible exact H2_)|(have H2_:=(Option.bind_some _ _).symm.trans H;with_reducible exact H2_)|with_reducible exact H|(rw [hy154];exact H)|exact H
            have Ny154:=Aside0.mk hy154
            clear hy154
            have H':=Aside0.mk H
            clear H
            have p152 : 0≤(x14_1 : Int):=of_decide_eq_true (by first|(with_reducible assumption)|assumption)
            have q152 : x14_1 < (l0.length : Int):=of_decide_eq_true (by first|(with_reducible assumption)|assumption)
            obtain ⟨ad152,e152,hx152_0⟩:=Kd.at_int HR0.out x14_1 p152 q152
            cases e152
            replace hx152_0:=(HB.out.cell (World.block_lt_of_cell? w _ hx152_0)).trans hx152_0
            replace p152:=eq_true p152
            replace q152:=eq_true q152
            have p153 : 0≤((ji11) : Int):=of_decide_eq_true (by first|(with_reducible assumption)|assumption)
            have q153 : (ji11) < (l0.length : Int):=of_decide_eq_true (by first|(with_reducible assumption)|assumption)
            obtain ⟨ad153,e153,hx153_0⟩:=Kd.at_int HR0.out (ji11) p153 q153
            obtain rfl : ad152=ad153:=(by injection e153)
            replace hx153_0:=(HB.out.cell (World.block_lt_of_cell? w _ hx153_0)).trans hx153_0
            replace p153:=eq_true p153
            replace q153:=eq_true q153
            have p16 : 0≤(x14_1 : Int):=of_decide_eq_true (by first|(with_reducible assumption)|assumption)
            have q16 : (x14_1 : Int) < ((x5_1.length : Int) : Int):=of_decide_eq_true (by first|(with_reducible assumption)|assumption)
            obtain ⟨go16,co16,eo16,gb16,gl16,cl16,HG16⟩:=Kd.R_form HO_5.out (by omega)
            (first|cases eo16|(injection eo16 with ea_ en_ ec_;(first|subst ea_|(injection ea_ with ea_;subst ea_));subst ec_;clear en_))
            have GB16:=Aside0.mk gb16
            have GG16:=Aside0.mk HG16
            clear gb16 gl16 HG16
            obtain ⟨hx16_0,hf16_0⟩:=Kd.R_celln 0 HO_5.out (x14_1 : Int) p16 q16
            replace p16:=eq_true p16
            replace q16:=eq_true q16
            have HP17:=Kd.R_putg HO_5.out (x14_1 : Int) ((ji14) % 4294967296)
            go_wp2_with (first|((with_reducible refine gate_store (t:=82) (p:=40) rfl ?_);refine store_event (t:=82) (p:=40) (v:=?vo_w18) (w1:=(wr.setCell ⟨go16,(x14_1 : Int).toNat,none⟩ (.int .u32 ((ji14) % 4294967296)))) ?hg ?ho ?hn ?hr ?_;(case ho=>rfl);(case hg=>rfl);(case hn=>rfl);(case hr=>first|(go_simp;done)|(go_simp;(with_reducible rfl))|(go_simp;rfl)|(go_simp;have hu_ : ∀ x : Int,IntKind.u32.wrap x=HMod.hMod x (4294967296 : Int):=(fun x=>by simp only [IntKind.wrap,IntKind.bits,IntKind.signed];simp);simp only [hu_,Int.emod_sub_emod]));intro w18 hw;have hg : wr.grownBy w18 (some go16):=(by rw [hw];exact HP17.2);have hp_ : Kd.R (Kd.int .u32) 82 w18 w.heap.size (fun _=>True) (.slice (some ⟨go16,0,none⟩) x5_1.length co16) y154:=(by rw [hw,Ny154.out];exact HP17.1);clear HP17;have n0_:=Aside0.mk (hp_);have n1_:=Aside0.mk ((by rw [hw];exact below_set (HB.out) GB16.out : Below w.heap.size w w18));clear HO_5;clear HB;have HO_5:=n0_;have HB:=n1_;clear n0_ n1_;clear hg hw hp_))
            go_roundg k1
            case measure=>have:=HK1.out;omega
            case rel=>exact ⟨(y154),(ji11),(by first|rfl|(simp;done)|(simp only [← hji11] <;> (first|rfl|simp))|(simp [*];done)),H',⟨by have:=HK1.out;omega⟩,⟨by (with_reducible repeat (first|apply Kd.R_alloc|apply Kd.R_drewN|apply Kd.R_drew));exact HO_5.out⟩,⟨by repeat (first|(with_reducible first|exact HB.out|apply below_alloc|apply pw_below_drewN|apply below_drew1)|exact HB.out)⟩⟩
           ·rw [if_neg c15] at H
            exact absurd H (by simp)
          ·rw [if_neg c13] at H
           exact absurd H (by simp)
         ·rw [if_neg c12] at H
          exact absurd H (by simp)
        ·rw [if_neg c10] at H
         have c10b0 : decide ((wrap64 (x14_1+1)) < (l0.length : Int))=false:=decide_eq_false c10
         clear c10
         by_cases c19 : 0≤a1
         ·rw [if_pos c19] at H
          have c19b0:=eq_true c19
          have c19b1 : decide (0≤a1)=true:=decide_eq_true c19
          clear c19
          obtain ⟨ji20,hji20⟩ : ∃ j_ : Int,(shr .u64 (Go.bits .or .u64 0 (IntKind.u64.wrap (rd l0 x14_1))) a1)=j_:=⟨_,rfl⟩
          replace H : (if x14_1 < (x5_1.length : Int) then (nat_shr.l0 k1 l0 a1 (x5_1.set (x14_1 : Int).toNat ((ji20) % 4294967296)) l0 (l0.length : Int) (wrap64 (x14_1+1))) else (none))=some r:=by first|(rw [hji20] at H;exact H)|(simp only [hji20] at H ⊢;exact H)
          have hji20_ : ((Go.bits .or .u64 0 (IntKind.u64.wrap (rd l0 x14_1))) / 2 ^ min a1.toNat 64)=ji20:=hji20
          have hji20z : a1≤64→((Go.bits .or .u64 0 (IntKind.u64.wrap (rd l0 x14_1))) / 2 ^ a1.toNat)=ji20:=shr_small hji20
          by_cases c21 : x14_1 < (x5_1.length : Int)
          ·rw [if_pos c21] at H
           have c21b0 : decide (x14_1 < (x5_1.length : Int))=true:=decide_eq_true c21
           clear c21
           obtain ⟨y155,hy155⟩ : ∃ y_ : List Int,y_=(x5_1.set (x14_1 : Int).toNat ((ji20) % 4294967296)):=⟨_,rfl⟩
           replace H : (nat_shr.l0 k1 l0 a1 y155 l0 (l0.length : Int) (wrap64 (x14_1+1)))=some r:=by first|(rw [hy155];with_reducible exact H)|(have H2_:=(Option.bind_some _ _).symm.trans H;rw [hy155];with_reducible exact H2_)|(have H2_:=(Option.bind_some _ _).symm.trans H;with_reducible exact H2_)|with_reducible exact H|(rw [hy155];exact H)|exact H
           have Ny155:=Aside0.mk hy155
           clear hy155
           have H':=Aside0.mk H
           clear H
           have p152 : 0≤(x14_1 : Int):=of_decide_eq_true (by first|(with_reducible assumption)|assumption)
           have q152 : x14_1 < (l0.length : Int):=of_decide_eq_true (by first|(with_reducible assumption)|assumption)
           obtain ⟨ad152,e152,hx152_0⟩:=Kd.at_int HR0.out x14_1 p152 q152
           cases e152
           replace hx152_0:=(HB.out.cell (World.block_lt_of_cell? w _ hx152_0)).trans hx152_0
           replace p152:=eq_true p152
           replace q152:=eq_true q152
           have p22 : 0≤(x14_1 : Int):=of_decide_eq_true (by first|(with_reducible assumption)|assumption)
           have q22 : (x14_1 : Int) < ((x5_1.length : Int) : Int):=of_decide_eq_true (by first|(with_reducible assumption)|assumption)
           obtain ⟨go22,co22,eo22,gb22,gl22,cl22,HG22⟩:=Kd.R_form HO_5.out (by omega)
           (first|cases eo22|(injection eo22 with ea_ en_ ec_;(first|subst ea_|(injection ea_ with ea_;subst ea_));subst ec_;clear en_))
           have GB22:=Aside0.mk gb22
           have GG22:=Aside0.mk HG22
           clear gb22 gl22 HG22
           obtain ⟨hx22_0,hf22_0⟩:=Kd.R_celln 0 HO_5.out (x14_1 : Int) p22 q22
           replace p22:=eq_true p22
           replace q22:=eq_true q22
           have HP23:=Kd.R_putg HO_5.out (x14_1 : Int) ((ji20) % 4294967296)
           go_wp2_with (first|((with_reducible refine gate_store (t:=82) (p:=40) rfl ?_);refine store_event (t:=82) (p:=40) (v:=?vo_w24) (w1:=(wr.setCell ⟨go22,(x14_1 : Int).toNat,none⟩ (.int .u32 ((ji20) % 4294967296)))) ?hg ?ho ?hn ?hr ?_;(case ho=>rfl);(case hg=>rfl);(case hn=>rfl);(case hr=>first|(go_simp;done)|(go_simp;(with_reducible rfl))|(go_simp;rfl)|(go_simp;have hu_ : ∀ x : Int,IntKind.u32.wrap x=HMod.hMod x (4294967296 : Int):=(fun x=>by simp only [IntKind.wrap,IntKind.bits,IntKind.signed];simp);simp only [hu_,Int.emod_sub_emod]));intro w24 hw;have hg : wr.grownBy w24 (some go22):=(by rw [hw];exact HP23.2);have hp_ : Kd.R (Kd.int .u32) 82 w24 w.heap.size (fun _=>True) (.slice (some ⟨go22,0,none⟩) x5_1.length co22) y155:=(by rw [hw,Ny155.out];exact HP23.1);clear HP23;have n0_:=Aside0.mk (hp_);have n1_:=Aside0.mk ((by rw [hw];exact below_set (HB.out) GB22.out : Below w.heap.size w w24));clear HO_5;clear HB;have HO_5:=n0_;have HB:=n1_;clear n0_ n1_;clear hg hw hp_))
           go_roundg k1
           case measure=>have:=HK1.out;omega
           case rel=>exact ⟨(y155),(wrap64 (x14_1+1)),(by first|rfl|(simp;done)|(simp [*];done)),H',⟨by have:=HK1.out;omega⟩,⟨by (with_reducible repeat (first|apply Kd.R_alloc|apply Kd.R_drewN|apply Kd.R_drew));exact HO_5.out⟩,⟨by repeat (first|(with_reducible first|exact HB.out|apply below_alloc|apply pw_below_drewN|apply below_drew1)|exact HB.out)⟩⟩
          ·rw [if_neg c21] at H
           exact absurd H (by simp)
         ·rw [if_neg c19] at H
          exact absurd H (by simp)
       ·rw [if_neg c9] at H
        exact absurd H (by simp)
      ·rw [if_neg c8] at H
       exact absurd H (by simp)
     ·rw [if_neg c7] at H
      have c7b0 : decide (x14_1 < (l0.length : Int))=false:=decide_eq_false c7
      clear c7
      replace H:=Option.bind_eq_some_iff.mp H
      obtain ⟨t156,A250,H⟩:=H
      replace H : (some t156)=some r:=H
      have A25:=Aside0.mk A250
      clear A250
      obtain rfl:=Option.some.inj H
      obtain ⟨Ao26,co26,eo26⟩:=Kd.R_slice HO_5.out
      subst eo26
      go_wp2_with (first|((with_reducible refine gate_callee (f:=70) rfl ?_);refine goesL_ (some 43) rfl rfl Try.func70 (by kernel_rfl) rfl #[.slice Ao26 x5_1.length co26] rfl (by (try simp only [List.map_toArray,List.map_cons,List.map_nil]);first|done|rfl|(simp only [List.length_drop,List.length_take];rfl)) ?_;(with_reducible refine (nat_trim.calls _ _ x5_1 t156 _ ?side1 ?side2 A25.out).mono ?_);(case side1=>repeat (first|exact (Kd.R_reads' HO_5.out).2.2|(with_reducible refine Kd.C_alloc ?_ _)|(with_reducible refine Kd.C_drewN ?_ _)|(with_reducible refine Kd.C_drew ?_)));(case side2=>exact (Kd.R_reads' HO_5.out).2.1);rintro e w' ⟨rfl,⟨nd,rfl⟩⟩;refine ⟨_,rfl,?_⟩;have HO158:=Aside0.mk (nat_trim.R HO_5.out A25.out);clear HO_5))
      go_ret
      exact ⟨_,by first|rfl|(simp [errW_none,errW_some] <;> rfl)|(simp [*,errW_none,errW_some] <;> rfl),by (with_reducible repeat (first|apply Kd.R_alloc|apply Kd.R_drewN|apply Kd.R_drew));exact HO158.out,by repeat (first|(with_reducible first|exact HB.out|apply below_alloc|apply pw_below_drewN|apply below_drew1)|exact HB.out)⟩
  ·rw [if_neg c4] at H
   exact absurd H (by simp)
 ·rw [if_neg c3] at H
  exact absurd H (by simp)
def nat_long.T11 : Bool × List (List Nat × List Nat):=(true,[([],[]),([],[]),([],[]),([1,2],[1,2]),([0,3],[0,3]),([4],[4]),([5],[5]),([6],[6]),([],[]),([],[]),([],[]),([9,10],[9,10]),([11],[11]),([8,12],[8,12]),([13],[13]),([14],[14]),([7,15],[7,15]),([16,0,1,2,3,4,5,6,7,8,9,10,11,12,13,14,15,16],[16])])
def nat_long.B11 : List Nat:=[0,0,0,6,15,31,63,127,0,0,0,1536,3584,7936,16128,32512,65535,131071]
theorem nat_long.tab11 : rtab .any (opsOf Try.f76 11)=nat_long.T11:=by kernel_rfl
theorem nat_long.bits11 : waitsOk nat_long.T11.2 nat_long.B11=true:=by kernel_rfl
def nat_long.T12 : Bool × List (List Nat × List Nat):=(true,[([],[]),([],[]),([],[]),([2],[2]),([1,3],[1,3]),([4],[4]),([5],[5]),([0,6],[0,6]),([],[]),([],[]),([],[]),([10],[10]),([9,11],[9,11]),([12],[12]),([13],[13]),([8,14],[8,14]),([7,0,1,2,3,4,5,6,7],[7]),([15,16,0,1,2,3,4,5,6,7,8,9,10,11,12,13,14,15,16],[15])])
def nat_long.B12 : List Nat:=[0,0,0,4,14,30,62,127,0,0,0,1024,3584,7680,15872,32512,255,131071]
theorem nat_long.tab12 : rtab .any (opsOf Try.f76 12)=nat_long.T12:=by kernel_rfl
theorem nat_long.bits12 : waitsOk nat_long.T12.2 nat_long.B12=true:=by kernel_rfl
def nat_long.T13 : Bool × List (List Nat × List Nat):=(true,[([],[]),([0],[0]),([1],[1]),([2],[2]),([3,2],[2,3]),([4,2,2],[2,4]),([5],[5]),([5],[5]),([5],[5]),([8,5],[5,8]),([7,9,5],[5,7,9]),([10,5],[5,10]),([11,5],[5,11]),([6,12,5],[5,6,12]),([5],[5]),([14,5],[5,14]),([5],[5]),([5],[5]),([5],[5]),([17,18,5],[5,17,18]),([19,5],[5,19]),([16,20,5],[5,16,20]),([21,5],[5,21]),([22,5],[5,22]),([15,23,5],[5,15,23]),([13,24,5],[5,13,24]),([5,25,2],[2,5,25]),([2,26],[2,26])])
def nat_long.B13 : List Nat:=[0,1,3,7,15,31,63,63,63,319,959,1983,4031,8191,63,16447,63,63,63,393279,917567,2031679,4128831,8323135,16760895,33554431,67108863,134217727]
theorem nat_long.tab13 : rtab .any (opsOf Try.f76 13)=nat_long.T13:=by kernel_rfl
theorem nat_long.bits13 : waitsOk nat_long.T13.2 nat_long.B13=true:=by kernel_rfl
def nat_long.T21 : Bool × List (List Nat × List Nat):=(true,[([],[]),([0],[0]),([],[]),([],[]),([2,3],[2,3]),([],[]),([4,5,1],[4,5]),([1,6,0,1],[1]),([6,7,0,1,2,3,4,5,6,7],[6])])
def nat_long.B21 : List Nat:=[0,1,0,0,12,0,63,127,255]
theorem nat_long.tab21 : rtab .any (opsOf Try.f76 21)=nat_long.T21:=by kernel_rfl
theorem nat_long.bits21 : waitsOk nat_long.T21.2 nat_long.B21=true:=by kernel_rfl
theorem nat_long.calls (k : Nat) (A0 : Option Addr) (c0 : Nat) (l0 : List Int) (A1 : Option Addr) (c1 : Nat) (l1 : List Int) (r1 : List Int) (r2 : List Int) (w : World) (hr0 : Kd.C (Kd.int .u32) w A0 l0.length l0) (hc0 : l0.length≤c0) (hr1 : Kd.C (Kd.int .u32) w A1 l1.length l1) (hc1 : l1.length≤c1) (h : nat_long.f k l0 l1=some (r1,r2)) :
  Calls Try.prog 76 #[.slice A0 l0.length c0,.slice A1 l1.length c1] w fun e w'=>∃ v0_ v1_ : Value,e=.returned (.tuple #[v0_,v1_])∧Kd.R (Kd.int .u32) 82 w' w.heap.size (fun k_=>some k_≠(v1_ : Value).ownBlock) v0_ r1∧Kd.R (Kd.int .u32) 82 w' w.heap.size (fun k_=>some k_≠(v0_ : Value).ownBlock) v1_ r2∧Below w.heap.size w w':=by
 have HR0:=Aside0.mk hr0
 have HC0:=Aside0.mk hc0
 clear hr0 hc0
 have HR1:=Aside0.mk hr1
 have HC1:=Aside0.mk hc1
 clear hr1 hc1
 have HB:=Aside0.mk (Below.refl w.heap.size w)
 have H : (if 0≤(wrap64 ((l1.length : Int) - 1)) then (if (wrap64 ((l1.length : Int) - 1)) < (l1.length : Int) then ((bits_LeadingZeros32.f (rd l1 (wrap64 ((l1.length : Int) - 1)))).bind fun t160=>((nat_Shl.f k l1 t160).bind fun bt161=>((nat_Shl.f k l0 t160).bind fun bt165=>(nat_long.l0 k l0 t160 bt161.1 bt165.1 (bt161.1.length : Int))))) else (none)) else (none))=some (r1,r2):=h
 clear h
 obtain ⟨ji3,hji3⟩ : ∃ j_ : Int,(wrap64 ((l1.length : Int) - 1))=j_:=⟨_,rfl⟩
 replace H : (if 0≤(ji3) then (if (ji3) < (l1.length : Int) then ((bits_LeadingZeros32.f (rd l1 (ji3))).bind fun t160=>((nat_Shl.f k l1 t160).bind fun bt161=>((nat_Shl.f k l0 t160).bind fun bt165=>(nat_long.l0 k l0 t160 bt161.1 bt165.1 (bt161.1.length : Int))))) else (none)) else (none))=some (r1,r2):=by first|(rw [hji3] at H;exact H)|(simp only [hji3] at H ⊢;exact H)
 have hji3w : (IntKind.i64.wrap ((l1.length : Int) - 1))=ji3:=(i64_w _).trans hji3
 by_cases c4 : 0≤(ji3)
 ·rw [if_pos c4] at H
  have c4b0 : decide (0≤(ji3))=true:=decide_eq_true c4
  clear c4
  by_cases c5 : (ji3) < (l1.length : Int)
  ·rw [if_pos c5] at H
   have c5b0 : decide ((ji3) < (l1.length : Int))=true:=decide_eq_true c5
   clear c5
   replace H:=Option.bind_eq_some_iff.mp H
   obtain ⟨t160,A60,H⟩:=H
   replace H : ((nat_Shl.f k l1 t160).bind fun bt161=>((nat_Shl.f k l0 t160).bind fun bt165=>(nat_long.l0 k l0 t160 bt161.1 bt165.1 (bt161.1.length : Int))))=some (r1,r2):=H
   have A6:=Aside0.mk A60
   clear A60
   replace H:=Option.bind_eq_some_iff.mp H
   obtain ⟨⟨t161,t162⟩,A70,H⟩:=H
   replace H : ((nat_Shl.f k l0 t160).bind fun bt165=>(nat_long.l0 k l0 t160 t161 bt165.1 (t161.length : Int)))=some (r1,r2):=H
   have A7:=Aside0.mk A70
   clear A70
   replace H:=Option.bind_eq_some_iff.mp H
   obtain ⟨⟨t165,t166⟩,A80,H⟩:=H
   replace H : (nat_long.l0 k l0 t160 t161 t165 (t161.length : Int))=some (r1,r2):=H
   have A8:=Aside0.mk A80
   clear A80
   have H':=Aside0.mk H
   clear H
   have p159 : 0≤((ji3) : Int):=of_decide_eq_true (by first|(with_reducible assumption)|assumption)
   have q159 : (ji3) < (l1.length : Int):=of_decide_eq_true (by first|(with_reducible assumption)|assumption)
   obtain ⟨ad159,e159,hx159_0⟩:=Kd.at_int HR1.out (ji3) p159 q159
   cases e159
   replace p159:=eq_true p159
   replace q159:=eq_true q159
   go_enter Try.func76,Try.ntmps76
   go_wp2_with (first|((with_reducible refine gate_callee (f:=80) rfl ?_);refine goesL_ (some 23) rfl rfl Try.func80 (by kernel_rfl) rfl #[.int .u32 (rd l1 (ji3))] rfl (by (try simp only [List.map_toArray,List.map_cons,List.map_nil]);first|done|(simp only [hji3];rfl)|rfl|(simp only [List.length_drop,List.length_take];rfl)) ?_;(with_reducible refine (bits_LeadingZeros32.calls (rd l1 (ji3)) t160 _ A6.out).mono ?_);rintro e w' ⟨rfl,⟨nd,rfl⟩⟩;refine ⟨_,rfl,?_⟩)|((with_reducible refine gate_callee (f:=82) rfl ?_);refine goesL_ (some 27) rfl rfl Try.func82 (by kernel_rfl) rfl #[.slice (some ad159) l1.length c1,.int .i64 t160] rfl (by (try simp only [List.map_toArray,List.map_cons,List.map_nil]);first|done|rfl|(simp only [List.length_drop,List.length_take];rfl)) ?_;(with_reducible refine (nat_Shl.calls k _ _ l1 t160 t161 t162 _ ?side1 ?side2 A7.out).mono ?_);(case side1=>repeat (first|exact HR1.out|(with_reducible refine Kd.C_alloc ?_ _)|(with_reducible refine Kd.C_drewN ?_ _)|(with_reducible refine Kd.C_drew ?_)));(case side2=>exact HC1.out);rintro e w9 ⟨v163,rfl,ho0,hb⟩;refine ⟨_,rfl,?_⟩;have n0_:=Aside0.mk (Kd.R_lower ho0 (below_size (by repeat (first|(with_reducible first|exact HB.out|apply below_alloc|apply pw_below_drewN|apply below_drew1)|exact HB.out))));have n1_:=Aside0.mk (below_step (by repeat (first|(with_reducible first|exact HB.out|apply below_alloc|apply pw_below_drewN|apply below_drew1)|exact HB.out)) hb);clear HB;have HO164:=n0_;have HB:=n1_;clear n0_ n1_;(try clear hb);(try clear hb2);(try clear hk);(try clear hi);(try clear ho0))|((with_reducible refine gate_callee (f:=82) rfl ?_);refine goesL_ (some 33) rfl rfl Try.func82 (by kernel_rfl) rfl #[.slice A0 l0.length c0,.int .i64 t160] rfl (by (try simp only [List.map_toArray,List.map_cons,List.map_nil]);first|done|rfl|(simp only [List.length_drop,List.length_take];rfl)) ?_;(with_reducible refine (nat_Shl.calls k _ _ l0 t160 t165 t166 _ ?side1 ?side2 A8.out).mono ?_);(case side1=>repeat (first|exact (Kd.C_below HR0.out HB.out)|(with_reducible refine Kd.C_alloc ?_ _)|(with_reducible refine Kd.C_drewN ?_ _)|(with_reducible refine Kd.C_drew ?_)));(case side2=>exact HC0.out);rintro e w10 ⟨v167,rfl,ho0,hb⟩;refine ⟨_,rfl,?_⟩;have n0_:=Aside0.mk (Kd.R_elder' (by (with_reducible repeat (first|apply Kd.R_alloc|apply Kd.R_drewN|apply Kd.R_drew));exact HO164.out) (Kd.R_base ho0) hb);have n1_:=Aside0.mk (Kd.R_lower (Kd.R_new' ho0 (Kd.R_lt (by (with_reducible repeat (first|apply Kd.R_alloc|apply Kd.R_drewN|apply Kd.R_drew));exact HO164.out))) (below_size (by repeat (first|(with_reducible first|exact HB.out|apply below_alloc|apply pw_below_drewN|apply below_drew1)|exact HB.out))));have n2_:=Aside0.mk (below_step (by repeat (first|(with_reducible first|exact HB.out|apply below_alloc|apply pw_below_drewN|apply below_drew1)|exact HB.out)) hb);clear HO164;clear HB;have HO164:=n0_;have HO168:=n1_;have HB:=n2_;clear n0_ n1_ n2_;(try clear hb);(try clear hb2);(try clear hk);(try clear hi);(try clear ho0);obtain ⟨Ao11,co11,eo11⟩:=Kd.R_slice HO164.out;subst eo11))
   go_loopg [9] k (fun kq v9 w'=>∃ (x9_1 : List Int),Aside0 (nat_long.l0 kq l0 t160 t161 x9_1 (t161.length : Int)=some (r1,r2))∧Aside0 (kq≤k)∧Aside0 (Kd.R (Kd.int .u32) 82 w' w.heap.size (fun k_=>some k_≠(v9 : Value).ownBlock) (.slice Ao11 t161.length co11) t161)∧Aside0 (Kd.R (Kd.int .u32) 82 w' w.heap.size (fun k_=>some k_≠((.slice Ao11 t161.length co11) : Value).ownBlock) v9 x9_1)∧Aside0 (Below w.heap.size w w'))
   case atStart=>exact ⟨(t165),H',⟨Nat.le_refl _⟩,⟨by (with_reducible repeat (first|apply Kd.R_alloc|apply Kd.R_drewN|apply Kd.R_drew));exact Kd.R_mono HO164.out (fun _ hk=>hk.2)⟩,⟨by (with_reducible repeat (first|apply Kd.R_alloc|apply Kd.R_drewN|apply Kd.R_drew));exact Kd.R_mono HO168.out (fun _ hk=>hk.2)⟩,⟨by repeat (first|(with_reducible first|exact HB.out|apply below_alloc|apply pw_below_drewN|apply below_drew1)|exact HB.out)⟩⟩
   case round =>
    clear H'
    try clear c1
    try clear p1
    try clear q1
    try clear hx1
    try clear p2
    try clear c4
    try clear c4b0
    try clear c5
    try clear c5b0
    try clear p6
    try clear c7
    try clear c8
    try clear hx159_0
    try clear p159
    try clear q159
    obtain ⟨x9_1,HA,HK1,HO_7,HO_9,HB⟩:=hrel
    cases gk with
   |zero=>exact absurd HA.out (by simp [nat_long.l0])
   |succ k1 =>
     have H:=HA.out
     clear HA
     simp only [nat_long.l0] at H
     by_cases c12 : (x9_1.length : Int)≤(l0.length : Int)
     ·rw [if_pos c12] at H
      have c12b0 : decide ((x9_1.length : Int)≤(l0.length : Int))=true:=decide_eq_true c12
      have c12b1 : decide (x9_1.length≤l0.length)=true:=decide_eq_true (Int.ofNat_le.mp c12)
      clear c12
      by_cases c13 : x9_1.length < 35184372088832
      ·rw [if_pos c13] at H
       have LMc13:=Aside0.mk c13
       clear c13
       obtain ⟨y169,hy169⟩ : ∃ y_ : List Int,y_=(x9_1++[0]):=⟨_,rfl⟩
       replace H : (nat_long.l0 k1 l0 t160 t161 y169 (t161.length : Int))=some (r1,r2):=by first|(rw [hy169];with_reducible exact H)|(have H2_:=(Option.bind_some _ _).symm.trans H;rw [hy169];with_reducible exact H2_)|(have H2_:=(Option.bind_some _ _).symm.trans H;with_reducible exact H2_)|with_reducible exact H|(rw [hy169];exact H)|exact H
       have Ny169:=Aside0.mk hy169
       clear hy169
       have H':=Aside0.mk H
       clear H
       obtain ⟨Ao14,co14,eo14⟩:=Kd.R_slice HO_9.out
       subst eo14
       go_wp2_with (first|((with_reducible refine gate_builtin (b:=.append) (xs:=#[.tmp 43,.tmp 44]) rfl ?_);at_builtin;refine Kd.R_append (Kd.int .u32) (w0:=w) w.heap.size rfl (.tmp 43) (.tmp 44) 61 82 (.int .u32 0) 4 rfl Try.underlying61 info82 rfl (by decide) (by omega) (.slice Ao14 x9_1.length co14) x9_1 0 [.int .u32 0] (fun k_=>some k_≠(.slice Ao11 t161.length co11 : Value).ownBlock) (fun _=>False) rfl rfl ?aP (fun _ hk=>hk.elim) ?aF ?aO ?aB ?aS ?aL ?_;(case aP=>exact rfl);(case aB=>exact (by repeat (first|(with_reducible first|exact HB.out|apply below_alloc|apply pw_below_drewN|apply below_drew1)|exact HB.out)));(case aF=>exact (fun k_ hk=>Kd.fresh' (Kd.R_lt (by (with_reducible repeat (first|apply Kd.R_alloc|apply Kd.R_drewN|apply Kd.R_drew));exact HO_7.out)) k_ hk));(case aO=>exact (by (with_reducible repeat (first|apply Kd.R_alloc|apply Kd.R_drewN|apply Kd.R_drew));exact HO_9.out));(case aS=>exact (below_size (by repeat (first|(with_reducible first|exact HB.out|apply below_alloc|apply pw_below_drewN|apply below_drew1)|exact HB.out))));(case aL=>have:=LMc13.out;omega);intro v170 w15 ho hb hg hat;rw [← Ny169.out] at ho;have n0_:=Aside0.mk (Kd.R_after (ok:=(fun _=>True)) (by (with_reducible repeat (first|apply Kd.R_alloc|apply Kd.R_drewN|apply Kd.R_drew));exact Kd.R_mono HO_7.out (fun _ hk=>⟨trivial,hk⟩)) hg hat);have n1_:=Aside0.mk (hb);have n2_:=Aside0.mk (ho);clear HO_7;clear HB;clear HO_9;have HO_7:=n0_;have HB:=n1_;have HO171:=n2_;clear n0_ n1_ n2_;clear ho hb hg hat))
       go_roundg k1
       case measure=>have:=HK1.out;omega
       case rel=>exact ⟨(y169),H',⟨by have:=HK1.out;omega⟩,⟨by (with_reducible repeat (first|apply Kd.R_alloc|apply Kd.R_drewN|apply Kd.R_drew));exact Kd.R_mono HO_7.out (fun _ hk=>hk.2)⟩,⟨by (with_reducible repeat (first|apply Kd.R_alloc|apply Kd.R_drewN|apply Kd.R_drew));exact HO171.out⟩,⟨by repeat (first|(with_reducible first|exact HB.out|apply below_alloc|apply pw_below_drewN|apply below_drew1)|exact HB.out)⟩⟩
      ·rw [if_neg c13] at H
       exact absurd H (by simp)
     ·rw [if_neg c12] at H
      have c12b0 : decide ((x9_1.length : Int)≤(l0.length : Int))=false:=decide_eq_false c12
      have c12b1 : decide (x9_1.length≤l0.length)=false:=decide_eq_false (fun h=>c12 (Int.ofNat_le.mpr h))
      clear c12
      obtain ⟨ji16,hji16⟩ : ∃ j_ : Int,(wrap64 ((x9_1.length : Int) - (t161.length : Int)))=j_:=⟨_,rfl⟩
      replace H : (if 0≤(ji16) then (if (ji16 : Int).toNat≤70368744177664 then (nat_long.l1 k1 t160 t161 x9_1 (t161.length : Int) (List.replicate (ji16 : Int).toNat 0) (wrap64 ((ji16) - 1))) else (none)) else (none))=some (r1,r2):=by first|(rw [hji16] at H;exact H)|(simp only [hji16] at H ⊢;exact H)
      have hji16w : (IntKind.i64.wrap ((x9_1.length : Int) - (t161.length : Int)))=ji16:=(i64_w _).trans hji16
      by_cases c17 : 0≤(ji16)
      ·rw [if_pos c17] at H
       have c17b0:=eq_true c17
       have c17b1 : decide (0≤(ji16))=true:=decide_eq_true c17
       clear c17
       by_cases c18 : (ji16 : Int).toNat≤70368744177664
       ·rw [if_pos c18] at H
        have c18b0:=eq_true c18
        have c18b1 : decide ((ji16 : Int).toNat≤70368744177664)=true:=decide_eq_true c18
        clear c18
        obtain ⟨y172,hy172⟩ : ∃ y_ : List Int,y_=(List.replicate (ji16 : Int).toNat 0):=⟨_,rfl⟩
        replace H : (nat_long.l1 k1 t160 t161 x9_1 (t161.length : Int) y172 (wrap64 ((ji16) - 1)))=some (r1,r2):=by first|(rw [hy172];with_reducible exact H)|(have H2_:=(Option.bind_some _ _).symm.trans H;rw [hy172];with_reducible exact H2_)|(have H2_:=(Option.bind_some _ _).symm.trans H;with_reducible exact H2_)|with_reducible exact H|(rw [hy172];exact H)|exact H
        have Ny172:=Aside0.mk hy172
        clear hy172
        have H':=Aside0.mk H
        clear H
        obtain ⟨Ao19,co19,eo19⟩:=Kd.R_slice HO_9.out
        subst eo19
        go_wp2_with (first|((with_reducible refine gate_dst (N:=50) rfl ?_);refine Kd.R_make (Kd.int .u32) _ 82 rfl (N:=50) rfl 61 _ _ rfl ji16 rfl rfl Try.underlying61 (.int .u32 0) 4 info82 rfl (by decide) (by omega) 0 (ok:=fun _=>True) (okp:=fun _=>True) rfl (fun _ hk=>hk) trivial (of_decide_eq_true (by first|(with_reducible assumption)|assumption)) (Nat.le_trans (Nat.mul_le_mul_right _ (of_decide_eq_true (by first|(with_reducible assumption)|assumption) : ji16.toNat≤70368744177664)) (by omega)) (Below.refl _ _) (Nat.le_refl _) ?_;intro v173 w20 ho21 hb hg_ hnew_;clear hg_ hnew_;(first|rw [← Ny172.out] at ho21|(simp only [Int.reduceToNat] at ho21;rw [← Ny172.out] at ho21));have n0_:=Aside0.mk (Kd.R_elder' (by (with_reducible repeat (first|apply Kd.R_alloc|apply Kd.R_drewN|apply Kd.R_drew));exact HO_7.out) (Kd.R_base ho21) hb);have n1_:=Aside0.mk (Kd.R_elder' (by (with_reducible repeat (first|apply Kd.R_alloc|apply Kd.R_drewN|apply Kd.R_drew));exact HO_9.out) (Kd.R_base ho21) hb);have n2_:=Aside0.mk (Kd.R_lower (Kd.R_new' (Kd.R_new' ho21 (Kd.R_lt (by (with_reducible repeat (first|apply Kd.R_alloc|apply Kd.R_drewN|apply Kd.R_drew));exact HO_7.out))) (Kd.R_lt (by (with_reducible repeat (first|apply Kd.R_alloc|apply Kd.R_drewN|apply Kd.R_drew));exact HO_9.out))) (below_size (by repeat (first|(with_reducible first|exact HB.out|apply below_alloc|apply pw_below_drewN|apply below_drew1)|exact HB.out))));have n3_:=Aside0.mk (below_step (by repeat (first|(with_reducible first|exact HB.out|apply below_alloc|apply pw_below_drewN|apply below_drew1)|exact HB.out)) hb);clear HO_7;clear HO_9;clear HB;have HO_7:=n0_;have HO_9:=n1_;have HO174:=n2_;have HB:=n3_;clear n0_ n1_ n2_ n3_;clear hb ho21))
        go_loopg [13] k1 (fun kq v13 w'=>∃ (x9_2 : List Int) (x12_2 : List Int) (x13_2 : Int),v13=.int .i64 x13_2∧Aside0 (nat_long.l1 kq t160 t161 x9_2 (t161.length : Int) x12_2 x13_2=some (r1,r2))∧Aside0 (kq≤k1)∧Aside0 (Kd.R (Kd.int .u32) 82 w' w.heap.size (fun k_=>some k_≠((.slice Ao19 x9_1.length co19) : Value).ownBlock∧some k_≠(v173 : Value).ownBlock) (.slice Ao11 t161.length co11) t161)∧Aside0 (Kd.R (Kd.int .u32) 82 w' w.heap.size (fun k_=>some k_≠((.slice Ao11 t161.length co11) : Value).ownBlock∧some k_≠(v173 : Value).ownBlock) (.slice Ao19 x9_1.length co19) x9_2)∧Aside0 (Kd.R (Kd.int .u32) 82 w' w.heap.size (fun k_=>some k_≠((.slice Ao11 t161.length co11) : Value).ownBlock∧some k_≠((.slice Ao19 x9_1.length co19) : Value).ownBlock) v173 x12_2)∧Aside0 (Below w.heap.size w w'))
        case atStart=>exact ⟨(x9_1),(y172),(wrap64 ((ji16) - 1)),(by first|rfl|(simp;done)|(simp only [← hji16] <;> (first|rfl|simp))|(simp [*];done)),H',⟨Nat.le_refl _⟩,⟨by (with_reducible repeat (first|apply Kd.R_alloc|apply Kd.R_drewN|apply Kd.R_drew));exact HO_7.out⟩,⟨by (with_reducible repeat (first|apply Kd.R_alloc|apply Kd.R_drewN|apply Kd.R_drew));exact HO_9.out⟩,⟨by (with_reducible repeat (first|apply Kd.R_alloc|apply Kd.R_drewN|apply Kd.R_drew));exact Kd.R_mono HO174.out (fun _ hk=>⟨hk.1.2,hk.2⟩)⟩,⟨by repeat (first|(with_reducible first|exact HB.out|apply below_alloc|apply pw_below_drewN|apply below_drew1)|exact HB.out)⟩⟩
        case round =>
         clear H'
         try clear c1
         try clear p1
         try clear q1
         try clear hx1
         try clear p2
         try clear c4
         try clear c4b0
         try clear c5
         try clear c5b0
         try clear p6
         try clear c7
         try clear c8
         try clear c12
         try clear c12b0
         try clear c12b1
         try clear c13
         try clear p15
         try clear q15
         try clear hx15
         try clear c17
         try clear c17b0
         try clear c17b1
         try clear c18
         try clear c18b0
         try clear c18b1
         try clear hx159_0
         try clear p1
         try clear p159
         try clear p2
         try clear p6
         try clear q1
         try clear q159
         obtain ⟨x9_2,x12_2,x13_2,rfl,HA,HK2,HO_7,HO_9,HO_12,HB⟩:=hrel
         have hl9_2:=(Kd.R_reads' HO_9.out).1
         rw [hl9_2] at HO_9
         (try simp only [hl9_2])
         (try simp only [hl9_2] at HO_7)
         (try simp only [hl9_2] at HO_12)
         cases gk with
        |zero=>exact absurd HA.out (by simp [nat_long.l1])
        |succ k2 =>
          have H:=HA.out
          clear HA
          simp only [nat_long.l1] at H
          by_cases c22 : x13_2 ≥ 0
          ·rw [if_pos c22] at H
           have c22b0 : decide (0≤x13_2)=true:=decide_eq_true c22
           clear c22
           obtain ⟨ji23,hji23⟩ : ∃ j_ : Int,(wrap64 (x13_2+(t161.length : Int)))=j_:=⟨_,rfl⟩
           replace H : (if 0≤(ji23) then (if (ji23) < (x9_2.length : Int) then (if 0≤(wrap64 ((ji23) - 1)) then (if (wrap64 ((ji23) - 1)) < (x9_2.length : Int) then (if 0≤(wrap64 ((t161.length : Int) - 1)) then (if (wrap64 ((t161.length : Int) - 1)) < (t161.length : Int) then (if (IntKind.u64.wrap (rd t161 (wrap64 ((t161.length : Int) - 1))))=0 then (none) else (nat_long.l2 k2 t160 t161 x9_2 (t161.length : Int) x12_2 x13_2 (IntKind.u64.wrap (Int.tdiv (Go.bits .or .u64 (IntKind.u64.wrap ((IntKind.u64.wrap (rd x9_2 (ji23))) * 4294967296)) (IntKind.u64.wrap (rd x9_2 (wrap64 ((ji23) - 1))))) (IntKind.u64.wrap (rd t161 (wrap64 ((t161.length : Int) - 1)))))) (Int.tmod (Go.bits .or .u64 (IntKind.u64.wrap ((IntKind.u64.wrap (rd x9_2 (ji23))) * 4294967296)) (IntKind.u64.wrap (rd x9_2 (wrap64 ((ji23) - 1))))) (IntKind.u64.wrap (rd t161 (wrap64 ((t161.length : Int) - 1))))))) else (none)) else (none)) else (none)) else (none)) else (none)) else (none))=some (r1,r2):=by first|(rw [hji23] at H;exact H)|(simp only [hji23] at H ⊢;exact H)
           have hji23w : (IntKind.i64.wrap (x13_2+(t161.length : Int)))=ji23:=(i64_w _).trans hji23
           by_cases c24 : 0≤(ji23)
           ·rw [if_pos c24] at H
            have c24b0 : decide (0≤(ji23))=true:=decide_eq_true c24
            clear c24
            by_cases c25 : (ji23) < (x9_2.length : Int)
            ·rw [if_pos c25] at H
             have c25b0 : decide ((ji23) < (x9_2.length : Int))=true:=decide_eq_true c25
             clear c25
             obtain ⟨ji26,hji26⟩ : ∃ j_ : Int,(wrap64 ((ji23) - 1))=j_:=⟨_,rfl⟩
             replace H : (if 0≤(ji26) then (if (ji26) < (x9_2.length : Int) then (if 0≤(wrap64 ((t161.length : Int) - 1)) then (if (wrap64 ((t161.length : Int) - 1)) < (t161.length : Int) then (if (IntKind.u64.wrap (rd t161 (wrap64 ((t161.length : Int) - 1))))=0 then (none) else (nat_long.l2 k2 t160 t161 x9_2 (t161.length : Int) x12_2 x13_2 (IntKind.u64.wrap (Int.tdiv (Go.bits .or .u64 (IntKind.u64.wrap ((IntKind.u64.wrap (rd x9_2 (ji23))) * 4294967296)) (IntKind.u64.wrap (rd x9_2 (ji26)))) (IntKind.u64.wrap (rd t161 (wrap64 ((t161.length : Int) - 1)))))) (Int.tmod (Go.bits .or .u64 (IntKind.u64.wrap ((IntKind.u64.wrap (rd x9_2 (ji23))) * 4294967296)) (IntKind.u64.wrap (rd x9_2 (ji26)))) (IntKind.u64.wrap (rd t161 (wrap64 ((t161.length : Int) - 1))))))) else (none)) else (none)) else (none)) else (none))=some (r1,r2):=by first|(rw [hji26] at H;exact H)|(simp only [hji26] at H ⊢;exact H)
             have hji26w : (IntKind.i64.wrap ((ji23) - 1))=ji26:=(i64_w _).trans hji26
             by_cases c27 : 0≤(ji26)
             ·rw [if_pos c27] at H
              have c27b0 : decide (0≤(ji26))=true:=decide_eq_true c27
              clear c27
              by_cases c28 : (ji26) < (x9_2.length : Int)
              ·rw [if_pos c28] at H
               have c28b0 : decide ((ji26) < (x9_2.length : Int))=true:=decide_eq_true c28
               clear c28
               obtain ⟨ji29,hji29⟩ : ∃ j_ : Int,(wrap64 ((t161.length : Int) - 1))=j_:=⟨_,rfl⟩
               replace H : (if 0≤(ji29) then (if (ji29) < (t161.length : Int) then (if (IntKind.u64.wrap (rd t161 (ji29)))=0 then (none) else (nat_long.l2 k2 t160 t161 x9_2 (t161.length : Int) x12_2 x13_2 (IntKind.u64.wrap (Int.tdiv (Go.bits .or .u64 (IntKind.u64.wrap ((IntKind.u64.wrap (rd x9_2 (ji23))) * 4294967296)) (IntKind.u64.wrap (rd x9_2 (ji26)))) (IntKind.u64.wrap (rd t161 (ji29))))) (Int.tmod (Go.bits .or .u64 (IntKind.u64.wrap ((IntKind.u64.wrap (rd x9_2 (ji23))) * 4294967296)) (IntKind.u64.wrap (rd x9_2 (ji26)))) (IntKind.u64.wrap (rd t161 (ji29)))))) else (none)) else (none))=some (r1,r2):=by first|(rw [hji29] at H;exact H)|(simp only [hji29] at H ⊢;exact H)
               have hji29w : (IntKind.i64.wrap ((t161.length : Int) - 1))=ji29:=(i64_w _).trans hji29
               by_cases c30 : 0≤(ji29)
               ·rw [if_pos c30] at H
                have c30b0 : decide (0≤(ji29))=true:=decide_eq_true c30
                clear c30
                by_cases c31 : (ji29) < (t161.length : Int)
                ·rw [if_pos c31] at H
                 have c31b0 : decide ((ji29) < (t161.length : Int))=true:=decide_eq_true c31
                 clear c31
                 by_cases c32 : (IntKind.u64.wrap (rd t161 (ji29)))=0
                 ·rw [if_pos c32] at H
                  exact absurd H (by simp)
                 ·rw [if_neg c32] at H
                  have c32b0 : ((IntKind.u64.wrap (rd t161 (ji29))) == 0)=false:=beq_eq_false_iff_ne.mpr c32
                  have c32b1 : ((IntKind.u64.wrap (rd t161 (ji29))) != 0)=true:=bne_iff_ne.mpr c32
                  have HC33:=Aside0.mk H
                  clear H
                  try go_wp2
                  have n0_:=Aside0.mk (Kd.R_drew HO_7.out)
                  have n1_:=Aside0.mk (Kd.R_drew HO_9.out)
                  have n2_:=Aside0.mk (Kd.R_drew HO_12.out)
                  have n3_:=Aside0.mk (below_drew1 HB.out)
                  clear HO_7
                  clear HO_9
                  clear HO_12
                  clear HB
                  have HO_7:=n0_
                  have HO_9:=n1_
                  have HO_12:=n2_
                  have HB:=n3_
                  clear n0_ n1_ n2_ n3_
                  have p185 : 0≤((ji23) : Int):=of_decide_eq_true (by first|(with_reducible assumption)|assumption)
                  have q185 : (ji23) < (x9_2.length : Int):=of_decide_eq_true (by first|(with_reducible assumption)|assumption)
                  obtain ⟨ad185,e185,hx185_0⟩:=Kd.at_int (Kd.R_reads' HO_9.out).2.2 (ji23) p185 q185
                  cases e185
                  replace p185:=eq_true p185
                  replace q185:=eq_true q185
                  have p186 : 0≤((ji26) : Int):=of_decide_eq_true (by first|(with_reducible assumption)|assumption)
                  have q186 : (ji26) < (x9_2.length : Int):=of_decide_eq_true (by first|(with_reducible assumption)|assumption)
                  obtain ⟨ad186,e186,hx186_0⟩:=Kd.at_int (Kd.R_reads' HO_9.out).2.2 (ji26) p186 q186
                  obtain rfl : ad185=ad186:=(by injection e186)
                  replace p186:=eq_true p186
                  replace q186:=eq_true q186
                  refine start_ (n:=18) (S:=fun w'=>w'.cell? (ad185.add ((ji23)).toNat)=some (.int .u32 (rd x9_2 (ji23)))∧w'.cell? (ad185.add ((ji26)).toNat)=some (.int .u32 (rd x9_2 (ji26)))) (ds:=[]) #[false,false,false,false,false,false,false,false,false,false,false,false,false,false,false,false,false,false] (by kernel_rfl) rfl rfl ⟨hx185_0,hx186_0⟩ (fun hHeld=>?_);refine with_tabW nat_long.tab11 nat_long.bits11 (fun HT_ HW_=>?_)
                  generalize wr.drew=w34 at HO_7 HO_9 HO_12 HB hx185_0 hx186_0 hHeld ⊢
                  refine pure_ (i:=0) (N:=some 60) (v:=?_) (a':=?_) #[true,false,false,false,false,false,false,false,false,false,false,false,false,false,false,false,false,false] rfl rfl (any_of HT_.out (by kernel_rfl)) (fun _ _ _ h=>h) (Or.inl ⟨by rfl,?_⟩) ?_ ?_
                  rotate_left
                  ·intro w'
                   go_simp
                   with_reducible rfl
                  rotate_left
                  ·simp only [Act.put,List.setIfInBounds_toArray,List.set_cons_zero,List.set_cons_succ,i64_w,i32_w]
                   rfl
                  refine pure_ (i:=1) (N:=some 61) (v:=?_) (a':=?_) #[true,true,false,false,false,false,false,false,false,false,false,false,false,false,false,false,false,false] rfl rfl (any_of HT_.out (by kernel_rfl)) (fun _ _ _ h=>h) (Or.inl ⟨by rfl,?_⟩) ?_ ?_
                  rotate_left
                  ·intro w'
                   go_simp
                   with_reducible rfl
                  rotate_left
                  ·simp only [Act.put,List.setIfInBounds_toArray,List.set_cons_zero,List.set_cons_succ,i64_w,i32_w]
                   rfl
                  refine pure_ (i:=2) (N:=some 62) (v:=?_) (a':=?_) #[true,true,true,false,false,false,false,false,false,false,false,false,false,false,false,false,false,false] rfl rfl (any_of HT_.out (by kernel_rfl)) (fun _ _ _ h=>h) (Or.inl ⟨by rfl,?_⟩) ?_ ?_
                  rotate_left
                  ·intro w'
                   go_simp
                   with_reducible rfl
                  rotate_left
                  ·simp only [Act.put,List.setIfInBounds_toArray,List.set_cons_zero,List.set_cons_succ,i64_w,i32_w]
                   rfl
                  refine pure_ (i:=3) (N:=some 63) (v:=?_) (a':=?_) #[true,true,true,true,false,false,false,false,false,false,false,false,false,false,false,false,false,false] rfl rfl (any_of HT_.out (by kernel_rfl)) (fun _ _ _ h=>h) (Or.inl ⟨by rfl,?_⟩) ?_ ?_
                  rotate_left
                  ·intro w'
                   go_simp
                   with_reducible rfl
                  rotate_left
                  ·simp only [Act.put,List.setIfInBounds_toArray,List.set_cons_zero,List.set_cons_succ,i64_w,i32_w]
                   rfl
                  refine pure_ (i:=4) (N:=some 64) (v:=?_) (a':=?_) #[true,true,true,true,true,false,false,false,false,false,false,false,false,false,false,false,false,false] rfl rfl (any_of HT_.out (by kernel_rfl)) (fun _ _ _ h=>h) (Or.inl ⟨by rfl,?_⟩) ?_ ?_
                  rotate_left
                  ·intro w'
                   go_simp
                   with_reducible rfl
                  rotate_left
                  ·simp only [Act.put,List.setIfInBounds_toArray,List.set_cons_zero,List.set_cons_succ,i64_w,i32_w]
                   rfl
                  refine pure_ (i:=8) (N:=some 68) (v:=?_) (a':=?_) #[true,true,true,true,true,false,false,false,true,false,false,false,false,false,false,false,false,false] rfl rfl (any_of HT_.out (by kernel_rfl)) (fun _ _ _ h=>h) (Or.inl ⟨by rfl,?_⟩) ?_ ?_
                  rotate_left
                  ·intro w'
                   go_simp
                   with_reducible rfl
                  rotate_left
                  ·simp only [Act.put,List.setIfInBounds_toArray,List.set_cons_zero,List.set_cons_succ,i64_w,i32_w]
                   rfl
                  refine pure_ (i:=9) (N:=some 69) (v:=?_) (a':=?_) #[true,true,true,true,true,false,false,false,true,true,false,false,false,false,false,false,false,false] rfl rfl (any_of HT_.out (by kernel_rfl)) (fun _ _ _ h=>h) (Or.inl ⟨by rfl,?_⟩) ?_ ?_
                  rotate_left
                  ·intro w'
                   go_simp
                   with_reducible rfl
                  rotate_left
                  ·simp only [Act.put,List.setIfInBounds_toArray,List.set_cons_zero,List.set_cons_succ,i64_w,i32_w]
                   rfl
                  refine pure_ (i:=10) (N:=some 70) (v:=?_) (a':=?_) #[true,true,true,true,true,false,false,false,true,true,true,false,false,false,false,false,false,false] rfl rfl (any_of HT_.out (by kernel_rfl)) (fun _ _ _ h=>h) (Or.inl ⟨by rfl,?_⟩) ?_ ?_
                  rotate_left
                  ·intro w'
                   go_simp
                   with_reducible rfl
                  rotate_left
                  ·simp only [Act.put,List.setIfInBounds_toArray,List.set_cons_zero,List.set_cons_succ,i64_w,i32_w]
                   rfl
                  refine pure_ (i:=11) (N:=some 71) (v:=?_) (a':=?_) #[true,true,true,true,true,false,false,false,true,true,true,true,false,false,false,false,false,false] rfl rfl (any_of HT_.out (by kernel_rfl)) (fun _ _ _ h=>h) (Or.inl ⟨by rfl,?_⟩) ?_ ?_
                  rotate_left
                  ·intro w'
                   go_simp
                   with_reducible rfl
                  rotate_left
                  ·simp only [Act.put,List.setIfInBounds_toArray,List.set_cons_zero,List.set_cons_succ,i64_w,i32_w]
                   rfl
                  refine pure_ (i:=12) (N:=some 72) (v:=?_) (a':=?_) #[true,true,true,true,true,false,false,false,true,true,true,true,true,false,false,false,false,false] rfl rfl (any_of HT_.out (by kernel_rfl)) (fun _ _ _ h=>h) (Or.inl ⟨by rfl,?_⟩) ?_ ?_
                  rotate_left
                  ·intro w'
                   go_simp
                   with_reducible rfl
                  rotate_left
                  ·simp only [Act.put,List.setIfInBounds_toArray,List.set_cons_zero,List.set_cons_succ,i64_w,i32_w]
                   rfl
                  refine pure_ (i:=13) (N:=some 73) (v:=?_) (a':=?_) #[true,true,true,true,true,false,false,false,true,true,true,true,true,true,false,false,false,false] rfl rfl (any_of HT_.out (by kernel_rfl)) (fun _ _ _ h=>h) (Or.inl ⟨by rfl,?_⟩) ?_ ?_
                  rotate_left
                  ·intro w'
                   go_simp
                   with_reducible rfl
                  rotate_left
                  ·simp only [Act.put,List.setIfInBounds_toArray,List.set_cons_zero,List.set_cons_succ,i64_w,i32_w]
                   rfl
                  refine take_ (i:=5) (N:=some 65) (v:=?_) (a':=?_) #[true,true,true,true,true,true,false,false,true,true,true,true,true,true,false,false,false,false] rfl rfl (take_ofW HT_.out HW_.out (by kernel_rfl)) (fun _ _ _ h=>h) (Or.inl ⟨by rfl,?_⟩) hHeld ?_ ?_
                  rotate_left
                  ·rintro w' ⟨s0,s1⟩
                   go_simp
                   with_reducible rfl
                  rotate_left
                  ·simp only [Act.put,List.setIfInBounds_toArray,List.set_cons_zero,List.set_cons_succ,i64_w,i32_w]
                   rfl
                  refine pure_ (i:=6) (N:=some 66) (v:=?_) (a':=?_) #[true,true,true,true,true,true,true,false,true,true,true,true,true,true,false,false,false,false] rfl rfl (any_of HT_.out (by kernel_rfl)) (fun _ _ _ h=>h) (Or.inl ⟨by rfl,?_⟩) ?_ ?_
                  rotate_left
                  ·intro w'
                   go_simp
                   with_reducible rfl
                  rotate_left
                  ·simp only [Act.put,List.setIfInBounds_toArray,List.set_cons_zero,List.set_cons_succ,i64_w,i32_w]
                   rfl
                  refine pure_ (i:=7) (N:=some 67) (v:=?_) (a':=?_) #[true,true,true,true,true,true,true,true,true,true,true,true,true,true,false,false,false,false] rfl rfl (any_of HT_.out (by kernel_rfl)) (fun _ _ _ h=>h) (Or.inl ⟨by rfl,?_⟩) ?_ ?_
                  rotate_left
                  ·intro w'
                   go_simp
                   with_reducible rfl
                  rotate_left
                  ·simp only [Act.put,List.setIfInBounds_toArray,List.set_cons_zero,List.set_cons_succ,i64_w,i32_w]
                   rfl
                  refine take_ (i:=14) (N:=some 74) (v:=?_) (a':=?_) #[true,true,true,true,true,true,true,true,true,true,true,true,true,true,true,false,false,false] rfl rfl (take_ofW HT_.out HW_.out (by kernel_rfl)) (fun _ _ _ h=>h) (Or.inl ⟨by rfl,?_⟩) hHeld ?_ ?_
                  rotate_left
                  ·rintro w' ⟨s0,s1⟩
                   go_simp
                   with_reducible rfl
                  rotate_left
                  ·simp only [Act.put,List.setIfInBounds_toArray,List.set_cons_zero,List.set_cons_succ,i64_w,i32_w]
                   rfl
                  refine pure_ (i:=15) (N:=some 75) (v:=?_) (a':=?_) #[true,true,true,true,true,true,true,true,true,true,true,true,true,true,true,true,false,false] rfl rfl (any_of HT_.out (by kernel_rfl)) (fun _ _ _ h=>h) (Or.inl ⟨by rfl,?_⟩) ?_ ?_
                  rotate_left
                  ·intro w'
                   go_simp
                   with_reducible rfl
                  rotate_left
                  ·simp only [Act.put,List.setIfInBounds_toArray,List.set_cons_zero,List.set_cons_succ,i64_w,i32_w]
                   rfl
                  refine pure_ (i:=16) (N:=some 76) (v:=?_) (a':=?_) #[true,true,true,true,true,true,true,true,true,true,true,true,true,true,true,true,true,false] rfl rfl (any_of HT_.out (by kernel_rfl)) (fun _ _ _ h=>h) (Or.inl ⟨by rfl,?_⟩) ?_ ?_
                  rotate_left
                  ·intro w'
                   go_simp
                   with_reducible rfl
                  rotate_left
                  ·simp only [Act.put,List.setIfInBounds_toArray,List.set_cons_zero,List.set_cons_succ,i64_w,i32_w]
                   rfl
                  refine pure_ (i:=17) (N:=some 14) (v:=?_) (a':=?_) #[true,true,true,true,true,true,true,true,true,true,true,true,true,true,true,true,true,true] rfl rfl (any_of HT_.out (by kernel_rfl)) (fun _ _ _ h=>h) (Or.inl ⟨by rfl,?_⟩) ?_ ?_
                  rotate_left
                  ·intro w'
                   go_simp
                   with_reducible rfl
                  rotate_left
                  ·simp only [Act.put,List.setIfInBounds_toArray,List.set_cons_zero,List.set_cons_succ,i64_w,i32_w]
                   rfl
                  refine done_ (done_of HT_.out (by kernel_rfl)) ?_
                  try go_wp2
                  have n0_:=Aside0.mk (Kd.R_drew HO_7.out)
                  have n1_:=Aside0.mk (Kd.R_drew HO_9.out)
                  have n2_:=Aside0.mk (Kd.R_drew HO_12.out)
                  have n3_:=Aside0.mk (below_drew1 HB.out)
                  clear HO_7
                  clear HO_9
                  clear HO_12
                  clear HB
                  have HO_7:=n0_
                  have HO_9:=n1_
                  have HO_12:=n2_
                  have HB:=n3_
                  clear n0_ n1_ n2_ n3_
                  have p187 : 0≤((ji29) : Int):=of_decide_eq_true (by first|(with_reducible assumption)|assumption)
                  have q187 : (ji29) < (t161.length : Int):=of_decide_eq_true (by first|(with_reducible assumption)|assumption)
                  obtain ⟨ad187,e187,hx187_0⟩:=Kd.at_int (Kd.R_reads' HO_7.out).2.2 (ji29) p187 q187
                  cases e187
                  replace p187:=eq_true p187
                  replace q187:=eq_true q187
                  have p188 : 0≤((ji29) : Int):=of_decide_eq_true (by first|(with_reducible assumption)|assumption)
                  have q188 : (ji29) < (t161.length : Int):=of_decide_eq_true (by first|(with_reducible assumption)|assumption)
                  obtain ⟨ad188,e188,hx188_0⟩:=Kd.at_int (Kd.R_reads' HO_7.out).2.2 (ji29) p188 q188
                  obtain rfl : ad187=ad188:=(by injection e188)
                  replace p188:=eq_true p188
                  replace q188:=eq_true q188
                  refine start_ (n:=18) (S:=fun w'=>w'.cell? (ad187.add ((ji29)).toNat)=some (.int .u32 (rd t161 (ji29)))∧w'.cell? (ad187.add ((ji29)).toNat)=some (.int .u32 (rd t161 (ji29)))) (ds:=[]) #[false,false,false,false,false,false,false,false,false,false,false,false,false,false,false,false,false,false] (by kernel_rfl) rfl rfl ⟨hx187_0,hx188_0⟩ (fun hHeld=>?_);refine with_tabW nat_long.tab12 nat_long.bits12 (fun HT_ HW_=>?_)
                  generalize w34.drew=w35 at HO_7 HO_9 HO_12 HB hx187_0 hx188_0 hHeld ⊢
                  refine pure_ (i:=0) (N:=some 77) (v:=?_) (a':=?_) #[true,false,false,false,false,false,false,false,false,false,false,false,false,false,false,false,false,false] rfl rfl (any_of HT_.out (by kernel_rfl)) (fun _ _ _ h=>h) (Or.inl ⟨by rfl,?_⟩) ?_ ?_
                  rotate_left
                  ·intro w'
                   go_simp
                   with_reducible rfl
                  rotate_left
                  ·simp only [Act.put,List.setIfInBounds_toArray,List.set_cons_zero,List.set_cons_succ,i64_w,i32_w]
                   rfl
                  refine pure_ (i:=1) (N:=some 78) (v:=?_) (a':=?_) #[true,true,false,false,false,false,false,false,false,false,false,false,false,false,false,false,false,false] rfl rfl (any_of HT_.out (by kernel_rfl)) (fun _ _ _ h=>h) (Or.inl ⟨by rfl,?_⟩) ?_ ?_
                  rotate_left
                  ·intro w'
                   go_simp
                   with_reducible rfl
                  rotate_left
                  ·simp only [Act.put,List.setIfInBounds_toArray,List.set_cons_zero,List.set_cons_succ,i64_w,i32_w]
                   rfl
                  refine pure_ (i:=2) (N:=some 79) (v:=?_) (a':=?_) #[true,true,true,false,false,false,false,false,false,false,false,false,false,false,false,false,false,false] rfl rfl (any_of HT_.out (by kernel_rfl)) (fun _ _ _ h=>h) (Or.inl ⟨by rfl,?_⟩) ?_ ?_
                  rotate_left
                  ·intro w'
                   go_simp
                   with_reducible rfl
                  rotate_left
                  ·simp only [Act.put,List.setIfInBounds_toArray,List.set_cons_zero,List.set_cons_succ,i64_w,i32_w]
                   rfl
                  refine pure_ (i:=3) (N:=some 80) (v:=?_) (a':=?_) #[true,true,true,true,false,false,false,false,false,false,false,false,false,false,false,false,false,false] rfl rfl (any_of HT_.out (by kernel_rfl)) (fun _ _ _ h=>h) (Or.inl ⟨by rfl,?_⟩) ?_ ?_
                  rotate_left
                  ·intro w'
                   go_simp
                   with_reducible rfl
                  rotate_left
                  ·simp only [Act.put,List.setIfInBounds_toArray,List.set_cons_zero,List.set_cons_succ,i64_w,i32_w]
                   rfl
                  refine pure_ (i:=4) (N:=some 81) (v:=?_) (a':=?_) #[true,true,true,true,true,false,false,false,false,false,false,false,false,false,false,false,false,false] rfl rfl (any_of HT_.out (by kernel_rfl)) (fun _ _ _ h=>h) (Or.inl ⟨by rfl,?_⟩) ?_ ?_
                  rotate_left
                  ·intro w'
                   go_simp
                   with_reducible rfl
                  rotate_left
                  ·simp only [Act.put,List.setIfInBounds_toArray,List.set_cons_zero,List.set_cons_succ,i64_w,i32_w]
                   rfl
                  refine pure_ (i:=8) (N:=some 85) (v:=?_) (a':=?_) #[true,true,true,true,true,false,false,false,true,false,false,false,false,false,false,false,false,false] rfl rfl (any_of HT_.out (by kernel_rfl)) (fun _ _ _ h=>h) (Or.inl ⟨by rfl,?_⟩) ?_ ?_
                  rotate_left
                  ·intro w'
                   go_simp
                   with_reducible rfl
                  rotate_left
                  ·simp only [Act.put,List.setIfInBounds_toArray,List.set_cons_zero,List.set_cons_succ,i64_w,i32_w]
                   rfl
                  refine pure_ (i:=9) (N:=some 86) (v:=?_) (a':=?_) #[true,true,true,true,true,false,false,false,true,true,false,false,false,false,false,false,false,false] rfl rfl (any_of HT_.out (by kernel_rfl)) (fun _ _ _ h=>h) (Or.inl ⟨by rfl,?_⟩) ?_ ?_
                  rotate_left
                  ·intro w'
                   go_simp
                   with_reducible rfl
                  rotate_left
                  ·simp only [Act.put,List.setIfInBounds_toArray,List.set_cons_zero,List.set_cons_succ,i64_w,i32_w]
                   rfl
                  refine pure_ (i:=10) (N:=some 87) (v:=?_) (a':=?_) #[true,true,true,true,true,false,false,false,true,true,true,false,false,false,false,false,false,false] rfl rfl (any_of HT_.out (by kernel_rfl)) (fun _ _ _ h=>h) (Or.inl ⟨by rfl,?_⟩) ?_ ?_
                  rotate_left
                  ·intro w'
                   go_simp
                   with_reducible rfl
                  rotate_left
                  ·simp only [Act.put,List.setIfInBounds_toArray,List.set_cons_zero,List.set_cons_succ,i64_w,i32_w]
                   rfl
                  refine pure_ (i:=11) (N:=some 88) (v:=?_) (a':=?_) #[true,true,true,true,true,false,false,false,true,true,true,true,false,false,false,false,false,false] rfl rfl (any_of HT_.out (by kernel_rfl)) (fun _ _ _ h=>h) (Or.inl ⟨by rfl,?_⟩) ?_ ?_
                  rotate_left
                  ·intro w'
                   go_simp
                   with_reducible rfl
                  rotate_left
                  ·simp only [Act.put,List.setIfInBounds_toArray,List.set_cons_zero,List.set_cons_succ,i64_w,i32_w]
                   rfl
                  refine pure_ (i:=12) (N:=some 89) (v:=?_) (a':=?_) #[true,true,true,true,true,false,false,false,true,true,true,true,true,false,false,false,false,false] rfl rfl (any_of HT_.out (by kernel_rfl)) (fun _ _ _ h=>h) (Or.inl ⟨by rfl,?_⟩) ?_ ?_
                  rotate_left
                  ·intro w'
                   go_simp
                   with_reducible rfl
                  rotate_left
                  ·simp only [Act.put,List.setIfInBounds_toArray,List.set_cons_zero,List.set_cons_succ,i64_w,i32_w]
                   rfl
                  refine take_ (i:=5) (N:=some 82) (v:=?_) (a':=?_) #[true,true,true,true,true,true,false,false,true,true,true,true,true,false,false,false,false,false] rfl rfl (take_ofW HT_.out HW_.out (by kernel_rfl)) (fun _ _ _ h=>h) (Or.inl ⟨by rfl,?_⟩) hHeld ?_ ?_
                  rotate_left
                  ·rintro w' ⟨s0,s1⟩
                   go_simp
                   with_reducible rfl
                  rotate_left
                  ·simp only [Act.put,List.setIfInBounds_toArray,List.set_cons_zero,List.set_cons_succ,i64_w,i32_w]
                   rfl
                  refine pure_ (i:=6) (N:=some 83) (v:=?_) (a':=?_) #[true,true,true,true,true,true,true,false,true,true,true,true,true,false,false,false,false,false] rfl rfl (any_of HT_.out (by kernel_rfl)) (fun _ _ _ h=>h) (Or.inl ⟨by rfl,?_⟩) ?_ ?_
                  rotate_left
                  ·intro w'
                   go_simp
                   with_reducible rfl
                  rotate_left
                  ·simp only [Act.put,List.setIfInBounds_toArray,List.set_cons_zero,List.set_cons_succ,i64_w,i32_w]
                   rfl
                  refine pure_ (i:=7) (N:=some 84) (v:=?_) (a':=?_) #[true,true,true,true,true,true,true,true,true,true,true,true,true,false,false,false,false,false] rfl rfl (any_of HT_.out (by kernel_rfl)) (fun _ _ _ h=>h) (Or.inl ⟨by rfl,?_⟩) ?_ ?_
                  rotate_left
                  ·intro w'
                   go_simp
                   with_reducible rfl
                  rotate_left
                  ·simp only [Act.put,List.setIfInBounds_toArray,List.set_cons_zero,List.set_cons_succ,i64_w,i32_w]
                   rfl
                  refine pure_ (i:=16) (N:=some 15) (v:=?_) (a':=?_) #[true,true,true,true,true,true,true,true,true,true,true,true,true,false,false,false,true,false] rfl rfl (any_of HT_.out (by kernel_rfl)) (fun _ _ _ h=>h) (Or.inl ⟨by rfl,?_⟩) ?_ ?_
                  rotate_left
                  ·intro w'
                   go_simp
                   with_reducible rfl
                  rotate_left
                  ·simp only [Act.put,List.setIfInBounds_toArray,List.set_cons_zero,List.set_cons_succ,i64_w,i32_w]
                   rfl
                  refine take_ (i:=13) (N:=some 90) (v:=?_) (a':=?_) #[true,true,true,true,true,true,true,true,true,true,true,true,true,true,false,false,true,false] rfl rfl (take_ofW HT_.out HW_.out (by kernel_rfl)) (fun _ _ _ h=>h) (Or.inl ⟨by rfl,?_⟩) hHeld ?_ ?_
                  rotate_left
                  ·rintro w' ⟨s0,s1⟩
                   go_simp
                   with_reducible rfl
                  rotate_left
                  ·simp only [Act.put,List.setIfInBounds_toArray,List.set_cons_zero,List.set_cons_succ,i64_w,i32_w]
                   rfl
                  refine pure_ (i:=14) (N:=some 91) (v:=?_) (a':=?_) #[true,true,true,true,true,true,true,true,true,true,true,true,true,true,true,false,true,false] rfl rfl (any_of HT_.out (by kernel_rfl)) (fun _ _ _ h=>h) (Or.inl ⟨by rfl,?_⟩) ?_ ?_
                  rotate_left
                  ·intro w'
                   go_simp
                   with_reducible rfl
                  rotate_left
                  ·simp only [Act.put,List.setIfInBounds_toArray,List.set_cons_zero,List.set_cons_succ,i64_w,i32_w]
                   rfl
                  refine pure_ (i:=15) (N:=some 92) (v:=?_) (a':=?_) #[true,true,true,true,true,true,true,true,true,true,true,true,true,true,true,true,true,false] rfl rfl (any_of HT_.out (by kernel_rfl)) (fun _ _ _ h=>h) (Or.inl ⟨by rfl,?_⟩) ?_ ?_
                  rotate_left
                  ·intro w'
                   go_simp
                   with_reducible rfl
                  rotate_left
                  ·simp only [Act.put,List.setIfInBounds_toArray,List.set_cons_zero,List.set_cons_succ,i64_w,i32_w]
                   rfl
                  refine pure_ (i:=17) (N:=some 16) (v:=?_) (a':=?_) #[true,true,true,true,true,true,true,true,true,true,true,true,true,true,true,true,true,true] rfl rfl (any_of HT_.out (by kernel_rfl)) (fun _ _ _ h=>h) (Or.inl ⟨by rfl,?_⟩) ?_ ?_
                  rotate_left
                  ·intro w'
                   go_simp
                   with_reducible rfl
                  rotate_left
                  ·simp only [Act.put,List.setIfInBounds_toArray,List.set_cons_zero,List.set_cons_succ,i64_w,i32_w]
                   rfl
                  refine done_ (done_of HT_.out (by kernel_rfl)) ?_
                  go_upto_block 4 with (fail)
                  go_cut [15] (fun v15 wc=>∃ (kq : Nat) (x15_32 : Int),v15=.int .u64 x15_32∧Aside0 (nat_long.j4 kq t160 t161 x9_2 (t161.length : Int) x12_2 x13_2 x15_32=some (r1,r2))∧Aside0 (kq≤k2)∧Aside0 (Kd.R (Kd.int .u32) 82 wc w.heap.size (fun k_=>some k_≠((.slice (some ad185) x9_2.length co19) : Value).ownBlock∧some k_≠(v173 : Value).ownBlock) (.slice (some ad187) t161.length co11) t161)∧Aside0 (Kd.R (Kd.int .u32) 82 wc w.heap.size (fun k_=>some k_≠((.slice (some ad187) t161.length co11) : Value).ownBlock∧some k_≠(v173 : Value).ownBlock) (.slice (some ad185) x9_2.length co19) x9_2)∧Aside0 (Kd.R (Kd.int .u32) 82 wc w.heap.size (fun k_=>some k_≠((.slice (some ad187) t161.length co11) : Value).ownBlock∧some k_≠((.slice (some ad185) x9_2.length co19) : Value).ownBlock) v173 x12_2)∧Aside0 (Below w.heap.size w wc))
                  case first =>
                   have H:=HC33.out
                   clear HC33
                   have H':=Aside0.mk H
                   clear H
                   go_wp2
                   go_loopg [15,16] k2 (fun kq v15 v16 w'=>∃ (x15_3 : Int) (x16_3 : Int),v15=.int .u64 x15_3∧v16=.int .u64 x16_3∧Aside0 (nat_long.l2 kq t160 t161 x9_2 (t161.length : Int) x12_2 x13_2 x15_3 x16_3=some (r1,r2))∧Aside0 (kq≤k2)∧Aside0 (Kd.R (Kd.int .u32) 82 w' w.heap.size (fun k_=>some k_≠((.slice (some ad185) x9_2.length co19) : Value).ownBlock∧some k_≠(v173 : Value).ownBlock) (.slice (some ad187) t161.length co11) t161)∧Aside0 (Kd.R (Kd.int .u32) 82 w' w.heap.size (fun k_=>some k_≠((.slice (some ad187) t161.length co11) : Value).ownBlock∧some k_≠(v173 : Value).ownBlock) (.slice (some ad185) x9_2.length co19) x9_2)∧Aside0 (Kd.R (Kd.int .u32) 82 w' w.heap.size (fun k_=>some k_≠((.slice (some ad187) t161.length co11) : Value).ownBlock∧some k_≠((.slice (some ad185) x9_2.length co19) : Value).ownBlock) v173 x12_2)∧Aside0 (Below w.heap.size w w'))
                   case atStart=>exact ⟨(IntKind.u64.wrap (Int.tdiv (Go.bits .or .u64 (IntKind.u64.wrap ((IntKind.u64.wrap (rd x9_2 (ji23))) * 4294967296)) (IntKind.u64.wrap (rd x9_2 (ji26)))) (IntKind.u64.wrap (rd t161 (ji29))))),(Int.tmod (Go.bits .or .u64 (IntKind.u64.wrap ((IntKind.u64.wrap (rd x9_2 (ji23))) * 4294967296)) (IntKind.u64.wrap (rd x9_2 (ji26)))) (IntKind.u64.wrap (rd t161 (ji29)))),(by first|rfl|(simp;done)|(simp only [← hji23,← hji26,← hji29] <;> (first|rfl|simp))|(simp [*];done)),(by first|rfl|(simp;done)|(simp only [← hji23,← hji26,← hji29] <;> (first|rfl|simp))|(simp [*];done)),H',⟨Nat.le_refl _⟩,⟨by (try simp only [hl9_2]);(with_reducible repeat (first|apply Kd.R_alloc|apply Kd.R_drewN|apply Kd.R_drew));exact HO_7.out⟩,⟨by (try simp only [hl9_2]);(with_reducible repeat (first|apply Kd.R_alloc|apply Kd.R_drewN|apply Kd.R_drew));exact HO_9.out⟩,⟨by (try simp only [hl9_2]);(with_reducible repeat (first|apply Kd.R_alloc|apply Kd.R_drewN|apply Kd.R_drew));exact HO_12.out⟩,⟨by repeat (first|(with_reducible first|exact HB.out|apply below_alloc|apply pw_below_drewN|apply below_drew1)|exact HB.out)⟩⟩
                   case round =>
                    clear H'
                    try clear c1
                    try clear p1
                    try clear q1
                    try clear hx1
                    try clear c2
                    try clear p2
                    try clear c3
                    try clear c4
                    try clear c4b0
                    try clear c5
                    try clear c5b0
                    try clear p6
                    try clear c7
                    try clear c8
                    try clear c12
                    try clear c12b0
                    try clear c12b1
                    try clear c13
                    try clear p15
                    try clear q15
                    try clear hx15
                    try clear c17
                    try clear c17b0
                    try clear c17b1
                    try clear c18
                    try clear c18b0
                    try clear c18b1
                    try clear p18
                    try clear q18
                    try clear hx18
                    try clear c22
                    try clear c22b0
                    try clear c24
                    try clear c24b0
                    try clear c25
                    try clear c25b0
                    try clear c27
                    try clear c27b0
                    try clear c28
                    try clear c28b0
                    try clear c30
                    try clear c30b0
                    try clear c31
                    try clear c31b0
                    try clear c32
                    try clear c32b0
                    try clear c32b1
                    try clear hx159_0
                    try clear hx185_0
                    try clear hx186_0
                    try clear hx187_0
                    try clear hx188_0
                    try clear p1
                    try clear p15
                    try clear p159
                    try clear p185
                    try clear p186
                    try clear p187
                    try clear p188
                    try clear p2
                    try clear p6
                    try clear q1
                    try clear q15
                    try clear q159
                    try clear q185
                    try clear q186
                    try clear q187
                    try clear q188
                    obtain ⟨x15_3,x16_3,rfl,rfl,HA,HK3,HO_7,HO_9,HO_12,HB⟩:=hrel
                    cases gk with
                   |zero=>exact absurd HA.out (by simp [nat_long.l2])
                   |succ k3 =>
                     have H:=HA.out
                     clear HA
                     simp only [nat_long.l2] at H
                     have HC36:=Aside0.mk H
                     clear H
                     go_upto_region 13 with (fail)
                     go_cut [120] (fun v120 wc=>∃ (kq : Nat) (x120_35 : Bool),v120=.bool x120_35∧Aside0 (nat_long.j3 kq t160 t161 x9_2 (t161.length : Int) x12_2 x13_2 x15_3 x16_3 x120_35=some (r1,r2))∧Aside0 (kq≤k3)∧Aside0 (Kd.R (Kd.int .u32) 82 wc w.heap.size (fun k_=>some k_≠((.slice (some ad185) x9_2.length co19) : Value).ownBlock∧some k_≠(v173 : Value).ownBlock) (.slice (some ad187) t161.length co11) t161)∧Aside0 (Kd.R (Kd.int .u32) 82 wc w.heap.size (fun k_=>some k_≠((.slice (some ad187) t161.length co11) : Value).ownBlock∧some k_≠(v173 : Value).ownBlock) (.slice (some ad185) x9_2.length co19) x9_2)∧Aside0 (Kd.R (Kd.int .u32) 82 wc w.heap.size (fun k_=>some k_≠((.slice (some ad187) t161.length co11) : Value).ownBlock∧some k_≠((.slice (some ad185) x9_2.length co19) : Value).ownBlock) v173 x12_2)∧Aside0 (Below w.heap.size w wc))
                     case first =>
                      have H:=HC36.out
                      clear HC36
                      by_cases c37 : x15_3 ≥ 4294967296
                      ·rw [if_pos c37] at H
                       have c37b0 : decide (4294967296≤x15_3)=true:=decide_eq_true c37
                       clear c37
                       (first|rw [c37b0]|(simp only [i64_w,i32_w];rw [c37b0])|skip)
                       have H':=Aside0.mk H
                       clear H
                       try go_wp2
                       have n0_:=Aside0.mk (Kd.R_drew HO_7.out)
                       have n1_:=Aside0.mk (Kd.R_drew HO_9.out)
                       have n2_:=Aside0.mk (Kd.R_drew HO_12.out)
                       have n3_:=Aside0.mk (below_drew1 HB.out)
                       clear HO_7
                       clear HO_9
                       clear HO_12
                       clear HB
                       have HO_7:=n0_
                       have HO_9:=n1_
                       have HO_12:=n2_
                       have HB:=n3_
                       clear n0_ n1_ n2_ n3_
                       refine start_ (n:=28) (S:=fun w'=>True) (ds:=[]) #[false,false,false,false,false,false,false,false,false,false,false,false,false,false,false,false,false,false,false,false,false,false,false,false,false,false,false,false] (by kernel_rfl) rfl rfl trivial (fun hHeld=>?_);refine with_tabW nat_long.tab13 nat_long.bits13 (fun HT_ HW_=>?_)
                       generalize wr.drew=w38 at HO_7 HO_9 HO_12 HB hHeld ⊢
                       refine pure_ (i:=0) (N:=some 93) (v:=?_) (a':=?_) #[true,false,false,false,false,false,false,false,false,false,false,false,false,false,false,false,false,false,false,false,false,false,false,false,false,false,false,false] rfl rfl (any_of HT_.out (by kernel_rfl)) (fun _ _ _ h=>h) (Or.inl ⟨by rfl,?_⟩) ?_ ?_
                       rotate_left
                       ·intro w'
                        go_simp
                        with_reducible rfl
                       rotate_left
                       ·simp only [Act.put,List.setIfInBounds_toArray,List.set_cons_zero,List.set_cons_succ,i64_w,i32_w]
                        rfl
                       refine pure_ (i:=1) (N:=some 94) (v:=?_) (a':=?_) #[true,true,false,false,false,false,false,false,false,false,false,false,false,false,false,false,false,false,false,false,false,false,false,false,false,false,false,false] rfl rfl (any_of HT_.out (by kernel_rfl)) (fun _ _ _ h=>h) (Or.inl ⟨by rfl,?_⟩) ?_ ?_
                       rotate_left
                       ·intro w'
                        go_simp
                        with_reducible rfl
                       rotate_left
                       ·simp only [Act.put,List.setIfInBounds_toArray,List.set_cons_zero,List.set_cons_succ,i64_w,i32_w]
                        rfl
                       refine pure_ (i:=2) (N:=some 95) (v:=?_) (a':=?_) #[true,true,true,false,false,false,false,false,false,false,false,false,false,false,false,false,false,false,false,false,false,false,false,false,false,false,false,false] rfl rfl (any_of HT_.out (by kernel_rfl)) (fun _ _ _ h=>h) (Or.inl ⟨by rfl,?_⟩) ?_ ?_
                       rotate_left
                       ·intro w'
                        go_simp
                        with_reducible rfl
                       rotate_left
                       ·simp only [Act.put,List.setIfInBounds_toArray,List.set_cons_zero,List.set_cons_succ,i64_w,i32_w]
                        rfl
                       refine pure_ (i:=3) (N:=some 96) (v:=undef) (a':=?_) #[true,true,true,true,false,false,false,false,false,false,false,false,false,false,false,false,false,false,false,false,false,false,false,false,false,false,false,false] rfl rfl (any_of HT_.out (by kernel_rfl)) (fun _ _ _ h=>h) (Or.inr ⟨by rfl,rfl⟩) ?_ ?_
                       rotate_left
                       ·simp only [Act.put,List.setIfInBounds_toArray,List.set_cons_zero,List.set_cons_succ,i64_w,i32_w]
                        rfl
                       refine pure_ (i:=4) (N:=some 97) (v:=undef) (a':=?_) #[true,true,true,true,true,false,false,false,false,false,false,false,false,false,false,false,false,false,false,false,false,false,false,false,false,false,false,false] rfl rfl (any_of HT_.out (by kernel_rfl)) (fun _ _ _ h=>h) (Or.inr ⟨by rfl,rfl⟩) ?_ ?_
                       rotate_left
                       ·simp only [Act.put,List.setIfInBounds_toArray,List.set_cons_zero,List.set_cons_succ,i64_w,i32_w]
                        rfl
                       refine pure_ (i:=5) (N:=some 98) (v:=undef) (a':=?_) #[true,true,true,true,true,true,false,false,false,false,false,false,false,false,false,false,false,false,false,false,false,false,false,false,false,false,false,false] rfl rfl (any_of HT_.out (by kernel_rfl)) (fun _ _ _ h=>h) (Or.inr ⟨by rfl,rfl⟩) ?_ ?_
                       rotate_left
                       ·simp only [Act.put,List.setIfInBounds_toArray,List.set_cons_zero,List.set_cons_succ,i64_w,i32_w]
                        rfl
                       refine pure_ (i:=6) (N:=some 99) (v:=undef) (a':=?_) #[true,true,true,true,true,true,true,false,false,false,false,false,false,false,false,false,false,false,false,false,false,false,false,false,false,false,false,false] rfl rfl (any_of HT_.out (by kernel_rfl)) (fun _ _ _ h=>h) (Or.inr ⟨by rfl,rfl⟩) ?_ ?_
                       rotate_left
                       ·simp only [Act.put,List.setIfInBounds_toArray,List.set_cons_zero,List.set_cons_succ,i64_w,i32_w]
                        rfl
                       refine pure_ (i:=7) (N:=some 100) (v:=undef) (a':=?_) #[true,true,true,true,true,true,true,true,false,false,false,false,false,false,false,false,false,false,false,false,false,false,false,false,false,false,false,false] rfl rfl (any_of HT_.out (by kernel_rfl)) (fun _ _ _ h=>h) (Or.inr ⟨by rfl,rfl⟩) ?_ ?_
                       rotate_left
                       ·simp only [Act.put,List.setIfInBounds_toArray,List.set_cons_zero,List.set_cons_succ,i64_w,i32_w]
                        rfl
                       refine pure_ (i:=8) (N:=some 101) (v:=undef) (a':=?_) #[true,true,true,true,true,true,true,true,true,false,false,false,false,false,false,false,false,false,false,false,false,false,false,false,false,false,false,false] rfl rfl (any_of HT_.out (by kernel_rfl)) (fun _ _ _ h=>h) (Or.inr ⟨by rfl,rfl⟩) ?_ ?_
                       rotate_left
                       ·simp only [Act.put,List.setIfInBounds_toArray,List.set_cons_zero,List.set_cons_succ,i64_w,i32_w]
                        rfl
                       refine pure_ (i:=9) (N:=some 102) (v:=undef) (a':=?_) #[true,true,true,true,true,true,true,true,true,true,false,false,false,false,false,false,false,false,false,false,false,false,false,false,false,false,false,false] rfl rfl (any_of HT_.out (by kernel_rfl)) (fun _ _ _ h=>h) (Or.inr ⟨by rfl,rfl⟩) ?_ ?_
                       rotate_left
                       ·simp only [Act.put,List.setIfInBounds_toArray,List.set_cons_zero,List.set_cons_succ,i64_w,i32_w]
                        rfl
                       refine pure_ (i:=10) (N:=some 103) (v:=undef) (a':=?_) #[true,true,true,true,true,true,true,true,true,true,true,false,false,false,false,false,false,false,false,false,false,false,false,false,false,false,false,false] rfl rfl (any_of HT_.out (by kernel_rfl)) (fun _ _ _ h=>h) (Or.inr ⟨by rfl,rfl⟩) ?_ ?_
                       rotate_left
                       ·simp only [Act.put,List.setIfInBounds_toArray,List.set_cons_zero,List.set_cons_succ,i64_w,i32_w]
                        rfl
                       refine pure_ (i:=11) (N:=some 104) (v:=undef) (a':=?_) #[true,true,true,true,true,true,true,true,true,true,true,true,false,false,false,false,false,false,false,false,false,false,false,false,false,false,false,false] rfl rfl (any_of HT_.out (by kernel_rfl)) (fun _ _ _ h=>h) (Or.inr ⟨by rfl,rfl⟩) ?_ ?_
                       rotate_left
                       ·simp only [Act.put,List.setIfInBounds_toArray,List.set_cons_zero,List.set_cons_succ,i64_w,i32_w]
                        rfl
                       refine pure_ (i:=12) (N:=some 105) (v:=undef) (a':=?_) #[true,true,true,true,true,true,true,true,true,true,true,true,true,false,false,false,false,false,false,false,false,false,false,false,false,false,false,false] rfl rfl (any_of HT_.out (by kernel_rfl)) (fun _ _ _ h=>h) (Or.inr ⟨by rfl,rfl⟩) ?_ ?_
                       rotate_left
                       ·simp only [Act.put,List.setIfInBounds_toArray,List.set_cons_zero,List.set_cons_succ,i64_w,i32_w]
                        rfl
                       refine pure_ (i:=13) (N:=some 106) (v:=undef) (a':=?_) #[true,true,true,true,true,true,true,true,true,true,true,true,true,true,false,false,false,false,false,false,false,false,false,false,false,false,false,false] rfl rfl (any_of HT_.out (by kernel_rfl)) (fun _ _ _ h=>h) (Or.inr ⟨by rfl,rfl⟩) ?_ ?_
                       rotate_left
                       ·simp only [Act.put,List.setIfInBounds_toArray,List.set_cons_zero,List.set_cons_succ,i64_w,i32_w]
                        rfl
                       refine pure_ (i:=14) (N:=some 107) (v:=undef) (a':=?_) #[true,true,true,true,true,true,true,true,true,true,true,true,true,true,true,false,false,false,false,false,false,false,false,false,false,false,false,false] rfl rfl (any_of HT_.out (by kernel_rfl)) (fun _ _ _ h=>h) (Or.inr ⟨by rfl,rfl⟩) ?_ ?_
                       rotate_left
                       ·simp only [Act.put,List.setIfInBounds_toArray,List.set_cons_zero,List.set_cons_succ,i64_w,i32_w]
                        rfl
                       refine pure_ (i:=15) (N:=some 108) (v:=undef) (a':=?_) #[true,true,true,true,true,true,true,true,true,true,true,true,true,true,true,true,false,false,false,false,false,false,false,false,false,false,false,false] rfl rfl (any_of HT_.out (by kernel_rfl)) (fun _ _ _ h=>h) (Or.inr ⟨by rfl,rfl⟩) ?_ ?_
                       rotate_left
                       ·simp only [Act.put,List.setIfInBounds_toArray,List.set_cons_zero,List.set_cons_succ,i64_w,i32_w]
                        rfl
                       refine pure_ (i:=16) (N:=some 109) (v:=undef) (a':=?_) #[true,true,true,true,true,true,true,true,true,true,true,true,true,true,true,true,true,false,false,false,false,false,false,false,false,false,false,false] rfl rfl (any_of HT_.out (by kernel_rfl)) (fun _ _ _ h=>h) (Or.inr ⟨by rfl,rfl⟩) ?_ ?_
                       rotate_left
                       ·simp only [Act.put,List.setIfInBounds_toArray,List.set_cons_zero,List.set_cons_succ,i64_w,i32_w]
                        rfl
                       refine pure_ (i:=17) (N:=some 110) (v:=undef) (a':=?_) #[true,true,true,true,true,true,true,true,true,true,true,true,true,true,true,true,true,true,false,false,false,false,false,false,false,false,false,false] rfl rfl (any_of HT_.out (by kernel_rfl)) (fun _ _ _ h=>h) (Or.inr ⟨by rfl,rfl⟩) ?_ ?_
                       rotate_left
                       ·simp only [Act.put,List.setIfInBounds_toArray,List.set_cons_zero,List.set_cons_succ,i64_w,i32_w]
                        rfl
                       refine pure_ (i:=18) (N:=some 111) (v:=undef) (a':=?_) #[true,true,true,true,true,true,true,true,true,true,true,true,true,true,true,true,true,true,true,false,false,false,false,false,false,false,false,false] rfl rfl (any_of HT_.out (by kernel_rfl)) (fun _ _ _ h=>h) (Or.inr ⟨by rfl,rfl⟩) ?_ ?_
                       rotate_left
                       ·simp only [Act.put,List.setIfInBounds_toArray,List.set_cons_zero,List.set_cons_succ,i64_w,i32_w]
                        rfl
                       refine pure_ (i:=19) (N:=some 112) (v:=undef) (a':=?_) #[true,true,true,true,true,true,true,true,true,true,true,true,true,true,true,true,true,true,true,true,false,false,false,false,false,false,false,false] rfl rfl (any_of HT_.out (by kernel_rfl)) (fun _ _ _ h=>h) (Or.inr ⟨by rfl,rfl⟩) ?_ ?_
                       rotate_left
                       ·simp only [Act.put,List.setIfInBounds_toArray,List.set_cons_zero,List.set_cons_succ,i64_w,i32_w]
                        rfl
                       refine pure_ (i:=20) (N:=some 113) (v:=undef) (a':=?_) #[true,true,true,true,true,true,true,true,true,true,true,true,true,true,true,true,true,true,true,true,true,false,false,false,false,false,false,false] rfl rfl (any_of HT_.out (by kernel_rfl)) (fun _ _ _ h=>h) (Or.inr ⟨by rfl,rfl⟩) ?_ ?_
                       rotate_left
                       ·simp only [Act.put,List.setIfInBounds_toArray,List.set_cons_zero,List.set_cons_succ,i64_w,i32_w]
                        rfl
                       refine pure_ (i:=21) (N:=some 114) (v:=undef) (a':=?_) #[true,true,true,true,true,true,true,true,true,true,true,true,true,true,true,true,true,true,true,true,true,true,false,false,false,false,false,false] rfl rfl (any_of HT_.out (by kernel_rfl)) (fun _ _ _ h=>h) (Or.inr ⟨by rfl,rfl⟩) ?_ ?_
                       rotate_left
                       ·simp only [Act.put,List.setIfInBounds_toArray,List.set_cons_zero,List.set_cons_succ,i64_w,i32_w]
                        rfl
                       refine pure_ (i:=22) (N:=some 115) (v:=undef) (a':=?_) #[true,true,true,true,true,true,true,true,true,true,true,true,true,true,true,true,true,true,true,true,true,true,true,false,false,false,false,false] rfl rfl (any_of HT_.out (by kernel_rfl)) (fun _ _ _ h=>h) (Or.inr ⟨by rfl,rfl⟩) ?_ ?_
                       rotate_left
                       ·simp only [Act.put,List.setIfInBounds_toArray,List.set_cons_zero,List.set_cons_succ,i64_w,i32_w]
                        rfl
                       refine pure_ (i:=23) (N:=some 116) (v:=undef) (a':=?_) #[true,true,true,true,true,true,true,true,true,true,true,true,true,true,true,true,true,true,true,true,true,true,true,true,false,false,false,false] rfl rfl (any_of HT_.out (by kernel_rfl)) (fun _ _ _ h=>h) (Or.inr ⟨by rfl,rfl⟩) ?_ ?_
                       rotate_left
                       ·simp only [Act.put,List.setIfInBounds_toArray,List.set_cons_zero,List.set_cons_succ,i64_w,i32_w]
                        rfl
                       refine pure_ (i:=24) (N:=some 117) (v:=undef) (a':=?_) #[true,true,true,true,true,true,true,true,true,true,true,true,true,true,true,true,true,true,true,true,true,true,true,true,true,false,false,false] rfl rfl (any_of HT_.out (by kernel_rfl)) (fun _ _ _ h=>h) (Or.inr ⟨by rfl,rfl⟩) ?_ ?_
                       rotate_left
                       ·simp only [Act.put,List.setIfInBounds_toArray,List.set_cons_zero,List.set_cons_succ,i64_w,i32_w]
                        rfl
                       refine pure_ (i:=25) (N:=some 118) (v:=undef) (a':=?_) #[true,true,true,true,true,true,true,true,true,true,true,true,true,true,true,true,true,true,true,true,true,true,true,true,true,true,false,false] rfl rfl (any_of HT_.out (by kernel_rfl)) (fun _ _ _ h=>h) (Or.inr ⟨by rfl,rfl⟩) ?_ ?_
                       rotate_left
                       ·simp only [Act.put,List.setIfInBounds_toArray,List.set_cons_zero,List.set_cons_succ,i64_w,i32_w]
                        rfl
                       refine pure_ (i:=26) (N:=some 119) (v:=undef) (a':=?_) #[true,true,true,true,true,true,true,true,true,true,true,true,true,true,true,true,true,true,true,true,true,true,true,true,true,true,true,false] rfl rfl (any_of HT_.out (by kernel_rfl)) (fun _ _ _ h=>h) (Or.inr ⟨by rfl,rfl⟩) ?_ ?_
                       rotate_left
                       ·simp only [Act.put,List.setIfInBounds_toArray,List.set_cons_zero,List.set_cons_succ,i64_w,i32_w]
                        rfl
                       refine pure_ (i:=27) (N:=some 120) (v:=?_) (a':=?_) #[true,true,true,true,true,true,true,true,true,true,true,true,true,true,true,true,true,true,true,true,true,true,true,true,true,true,true,true] rfl rfl (any_of HT_.out (by kernel_rfl)) (fun _ _ _ h=>h) (Or.inl ⟨by rfl,?_⟩) ?_ ?_
                       rotate_left
                       ·intro w'
                        go_simp
                        with_reducible rfl
                       rotate_left
                       ·simp only [Act.put,List.setIfInBounds_toArray,List.set_cons_zero,List.set_cons_succ,i64_w,i32_w]
                        rfl
                       refine done_ (done_of HT_.out (by kernel_rfl)) ?_
                       try go_wp2
                       go_meet
                       case rel=>exact ⟨_,(true),(by first|rfl|(simp;done)|(simp [*];done)),H',⟨by have:=HK1.out;have:=HK2.out;have:=HK3.out;first|omega|exact Nat.le_refl _⟩,⟨by (try simp only [hl9_2]);(with_reducible repeat (first|apply Kd.R_alloc|apply Kd.R_drewN|apply Kd.R_drew));exact HO_7.out⟩,⟨by (try simp only [hl9_2]);(with_reducible repeat (first|apply Kd.R_alloc|apply Kd.R_drewN|apply Kd.R_drew));exact HO_9.out⟩,⟨by (try simp only [hl9_2]);(with_reducible repeat (first|apply Kd.R_alloc|apply Kd.R_drewN|apply Kd.R_drew));exact HO_12.out⟩,⟨by repeat (first|(with_reducible first|exact HB.out|apply below_alloc|apply pw_below_drewN|apply below_drew1)|exact HB.out)⟩⟩
                      ·rw [if_neg c37] at H
                       have c37b0 : decide (4294967296≤x15_3)=false:=decide_eq_false c37
                       clear c37
                       (first|rw [c37b0]|(simp only [i64_w,i32_w];rw [c37b0])|skip)
                       by_cases c39 : x16_3 < 4294967296
                       ·rw [if_pos c39] at H
                        have c39b0 : decide (x16_3 < 4294967296)=true:=decide_eq_true c39
                        clear c39
                        obtain ⟨ji40,hji40⟩ : ∃ j_ : Int,(wrap64 ((t161.length : Int) - 2))=j_:=⟨_,rfl⟩
                        replace H : (if 0≤(ji40) then (if (ji40) < (t161.length : Int) then (if 0≤(wrap64 ((wrap64 (x13_2+(t161.length : Int))) - 2)) then (if (wrap64 ((wrap64 (x13_2+(t161.length : Int))) - 2)) < (x9_2.length : Int) then (nat_long.j3 k3 t160 t161 x9_2 (t161.length : Int) x12_2 x13_2 x15_3 x16_3 (decide ((IntKind.u64.wrap (x15_3 * (IntKind.u64.wrap (rd t161 (ji40))))) > (Go.bits .or .u64 (IntKind.u64.wrap (x16_3 * 4294967296)) (IntKind.u64.wrap (rd x9_2 (wrap64 ((wrap64 (x13_2+(t161.length : Int))) - 2)))))))) else (none)) else (none)) else (none)) else (none))=some (r1,r2):=by first|(rw [hji40] at H;exact H)|(simp only [hji40] at H ⊢;exact H)
                        have hji40w : (IntKind.i64.wrap ((t161.length : Int) - 2))=ji40:=(i64_w _).trans hji40
                        by_cases c41 : 0≤(ji40)
                        ·rw [if_pos c41] at H
                         have c41b0 : decide (0≤(ji40))=true:=decide_eq_true c41
                         clear c41
                         by_cases c42 : (ji40) < (t161.length : Int)
                         ·rw [if_pos c42] at H
                          have c42b0 : decide ((ji40) < (t161.length : Int))=true:=decide_eq_true c42
                          clear c42
                          obtain ⟨ji43,hji43⟩ : ∃ j_ : Int,(wrap64 ((wrap64 (x13_2+(t161.length : Int))) - 2))=j_:=⟨_,rfl⟩
                          replace H : (if 0≤(ji43) then (if (ji43) < (x9_2.length : Int) then (nat_long.j3 k3 t160 t161 x9_2 (t161.length : Int) x12_2 x13_2 x15_3 x16_3 (decide ((IntKind.u64.wrap (x15_3 * (IntKind.u64.wrap (rd t161 (ji40))))) > (Go.bits .or .u64 (IntKind.u64.wrap (x16_3 * 4294967296)) (IntKind.u64.wrap (rd x9_2 (ji43))))))) else (none)) else (none))=some (r1,r2):=by first|(rw [hji43] at H;exact H)|(simp only [hji43] at H ⊢;exact H)
                          have hji43w : (IntKind.i64.wrap ((wrap64 (x13_2+(t161.length : Int))) - 2))=ji43:=(i64_w _).trans hji43
                          (try (have hji43nji23:=hji43;rw [hji23] at hji43nji23))
                          (try (have hji43mji23:=hji43w;rw [hji23] at hji43mji23))
                          by_cases c44 : 0≤(ji43)
                          ·rw [if_pos c44] at H
                           have c44b0 : decide (0≤(ji43))=true:=decide_eq_true c44
                           clear c44
                           by_cases c45 : (ji43) < (x9_2.length : Int)
                           ·rw [if_pos c45] at H
                            have c45b0 : decide ((ji43) < (x9_2.length : Int))=true:=decide_eq_true c45
                            clear c45
                            have H':=Aside0.mk H
                            clear H
                            try go_wp2
                            have n0_:=Aside0.mk (Kd.R_drew HO_7.out)
                            have n1_:=Aside0.mk (Kd.R_drew HO_9.out)
                            have n2_:=Aside0.mk (Kd.R_drew HO_12.out)
                            have n3_:=Aside0.mk (below_drew1 HB.out)
                            clear HO_7
                            clear HO_9
                            clear HO_12
                            clear HB
                            have HO_7:=n0_
                            have HO_9:=n1_
                            have HO_12:=n2_
                            have HB:=n3_
                            clear n0_ n1_ n2_ n3_
                            have p189 : 0≤((ji40) : Int):=of_decide_eq_true (by first|(with_reducible assumption)|assumption)
                            have q189 : (ji40) < (t161.length : Int):=of_decide_eq_true (by first|(with_reducible assumption)|assumption)
                            obtain ⟨ad189,e189,hx189_0⟩:=Kd.at_int (Kd.R_reads' HO_7.out).2.2 (ji40) p189 q189
                            obtain rfl : ad187=ad189:=(by injection e189)
                            replace p189:=eq_true p189
                            replace q189:=eq_true q189
                            have p190 : 0≤((ji43) : Int):=of_decide_eq_true (by first|(with_reducible assumption)|assumption)
                            have q190 : (ji43) < (x9_2.length : Int):=of_decide_eq_true (by first|(with_reducible assumption)|assumption)
                            obtain ⟨ad190,e190,hx190_0⟩:=Kd.at_int (Kd.R_reads' HO_9.out).2.2 (ji43) p190 q190
                            obtain rfl : ad185=ad190:=(by injection e190)
                            replace p190:=eq_true p190
                            replace q190:=eq_true q190
                            refine start_ (n:=28) (S:=fun w'=>w'.cell? (ad187.add ((ji40)).toNat)=some (.int .u32 (rd t161 (ji40)))∧w'.cell? (ad185.add ((ji43)).toNat)=some (.int .u32 (rd x9_2 (ji43)))) (ds:=[]) #[false,false,false,false,false,false,false,false,false,false,false,false,false,false,false,false,false,false,false,false,false,false,false,false,false,false,false,false] (by kernel_rfl) rfl rfl ⟨hx189_0,hx190_0⟩ (fun hHeld=>?_);refine with_tabW nat_long.tab13 nat_long.bits13 (fun HT_ HW_=>?_)
                            generalize wr.drew=w46 at HO_7 HO_9 HO_12 HB hx189_0 hx190_0 hHeld ⊢
                            refine pure_ (i:=0) (N:=some 93) (v:=?_) (a':=?_) #[true,false,false,false,false,false,false,false,false,false,false,false,false,false,false,false,false,false,false,false,false,false,false,false,false,false,false,false] rfl rfl (any_of HT_.out (by kernel_rfl)) (fun _ _ _ h=>h) (Or.inl ⟨by rfl,?_⟩) ?_ ?_
                            rotate_left
                            ·intro w'
                             go_simp
                             with_reducible rfl
                            rotate_left
                            ·simp only [Act.put,List.setIfInBounds_toArray,List.set_cons_zero,List.set_cons_succ,i64_w,i32_w]
                             rfl
                            refine pure_ (i:=1) (N:=some 94) (v:=?_) (a':=?_) #[true,true,false,false,false,false,false,false,false,false,false,false,false,false,false,false,false,false,false,false,false,false,false,false,false,false,false,false] rfl rfl (any_of HT_.out (by kernel_rfl)) (fun _ _ _ h=>h) (Or.inl ⟨by rfl,?_⟩) ?_ ?_
                            rotate_left
                            ·intro w'
                             go_simp
                             with_reducible rfl
                            rotate_left
                            ·simp only [Act.put,List.setIfInBounds_toArray,List.set_cons_zero,List.set_cons_succ,i64_w,i32_w]
                             rfl
                            refine pure_ (i:=2) (N:=some 95) (v:=?_) (a':=?_) #[true,true,true,false,false,false,false,false,false,false,false,false,false,false,false,false,false,false,false,false,false,false,false,false,false,false,false,false] rfl rfl (any_of HT_.out (by kernel_rfl)) (fun _ _ _ h=>h) (Or.inl ⟨by rfl,?_⟩) ?_ ?_
                            rotate_left
                            ·intro w'
                             go_simp
                             with_reducible rfl
                            rotate_left
                            ·simp only [Act.put,List.setIfInBounds_toArray,List.set_cons_zero,List.set_cons_succ,i64_w,i32_w]
                             rfl
                            refine pure_ (i:=3) (N:=some 96) (v:=?_) (a':=?_) #[true,true,true,true,false,false,false,false,false,false,false,false,false,false,false,false,false,false,false,false,false,false,false,false,false,false,false,false] rfl rfl (any_of HT_.out (by kernel_rfl)) (fun _ _ _ h=>h) (Or.inl ⟨by rfl,?_⟩) ?_ ?_
                            rotate_left
                            ·intro w'
                             go_simp
                             with_reducible rfl
                            rotate_left
                            ·simp only [Act.put,List.setIfInBounds_toArray,List.set_cons_zero,List.set_cons_succ,i64_w,i32_w]
                             rfl
                            refine pure_ (i:=4) (N:=some 97) (v:=?_) (a':=?_) #[true,true,true,true,true,false,false,false,false,false,false,false,false,false,false,false,false,false,false,false,false,false,false,false,false,false,false,false] rfl rfl (any_of HT_.out (by kernel_rfl)) (fun _ _ _ h=>h) (Or.inl ⟨by rfl,?_⟩) ?_ ?_
                            rotate_left
                            ·intro w'
                             go_simp
                             with_reducible rfl
                            rotate_left
                            ·simp only [Act.put,List.setIfInBounds_toArray,List.set_cons_zero,List.set_cons_succ,i64_w,i32_w]
                             rfl
                            refine pure_ (i:=5) (N:=some 98) (v:=?_) (a':=?_) #[true,true,true,true,true,true,false,false,false,false,false,false,false,false,false,false,false,false,false,false,false,false,false,false,false,false,false,false] rfl rfl (any_of HT_.out (by kernel_rfl)) (fun _ _ _ h=>h) (Or.inl ⟨by rfl,?_⟩) ?_ ?_
                            rotate_left
                            ·intro w'
                             go_simp
                             with_reducible rfl
                            rotate_left
                            ·simp only [Act.put,List.setIfInBounds_toArray,List.set_cons_zero,List.set_cons_succ,i64_w,i32_w]
                             rfl
                            refine pure_ (i:=6) (N:=some 99) (v:=?_) (a':=?_) #[true,true,true,true,true,true,true,false,false,false,false,false,false,false,false,false,false,false,false,false,false,false,false,false,false,false,false,false] rfl rfl (any_of HT_.out (by kernel_rfl)) (fun _ _ _ h=>h) (Or.inl ⟨by rfl,?_⟩) ?_ ?_
                            rotate_left
                            ·intro w'
                             go_simp
                             with_reducible rfl
                            rotate_left
                            ·simp only [Act.put,List.setIfInBounds_toArray,List.set_cons_zero,List.set_cons_succ,i64_w,i32_w]
                             rfl
                            refine pure_ (i:=7) (N:=some 100) (v:=?_) (a':=?_) #[true,true,true,true,true,true,true,true,false,false,false,false,false,false,false,false,false,false,false,false,false,false,false,false,false,false,false,false] rfl rfl (any_of HT_.out (by kernel_rfl)) (fun _ _ _ h=>h) (Or.inl ⟨by rfl,?_⟩) ?_ ?_
                            rotate_left
                            ·intro w'
                             go_simp
                             with_reducible rfl
                            rotate_left
                            ·simp only [Act.put,List.setIfInBounds_toArray,List.set_cons_zero,List.set_cons_succ,i64_w,i32_w]
                             rfl
                            refine pure_ (i:=8) (N:=some 101) (v:=?_) (a':=?_) #[true,true,true,true,true,true,true,true,true,false,false,false,false,false,false,false,false,false,false,false,false,false,false,false,false,false,false,false] rfl rfl (any_of HT_.out (by kernel_rfl)) (fun _ _ _ h=>h) (Or.inl ⟨by rfl,?_⟩) ?_ ?_
                            rotate_left
                            ·intro w'
                             go_simp
                             with_reducible rfl
                            rotate_left
                            ·simp only [Act.put,List.setIfInBounds_toArray,List.set_cons_zero,List.set_cons_succ,i64_w,i32_w]
                             rfl
                            refine pure_ (i:=9) (N:=some 102) (v:=?_) (a':=?_) #[true,true,true,true,true,true,true,true,true,true,false,false,false,false,false,false,false,false,false,false,false,false,false,false,false,false,false,false] rfl rfl (any_of HT_.out (by kernel_rfl)) (fun _ _ _ h=>h) (Or.inl ⟨by rfl,?_⟩) ?_ ?_
                            rotate_left
                            ·intro w'
                             go_simp
                             with_reducible rfl
                            rotate_left
                            ·simp only [Act.put,List.setIfInBounds_toArray,List.set_cons_zero,List.set_cons_succ,i64_w,i32_w]
                             rfl
                            refine pure_ (i:=10) (N:=some 103) (v:=?_) (a':=?_) #[true,true,true,true,true,true,true,true,true,true,true,false,false,false,false,false,false,false,false,false,false,false,false,false,false,false,false,false] rfl rfl (any_of HT_.out (by kernel_rfl)) (fun _ _ _ h=>h) (Or.inl ⟨by rfl,?_⟩) ?_ ?_
                            rotate_left
                            ·intro w'
                             go_simp
                             with_reducible rfl
                            rotate_left
                            ·simp only [Act.put,List.setIfInBounds_toArray,List.set_cons_zero,List.set_cons_succ,i64_w,i32_w]
                             rfl
                            refine pure_ (i:=14) (N:=some 107) (v:=?_) (a':=?_) #[true,true,true,true,true,true,true,true,true,true,true,false,false,false,true,false,false,false,false,false,false,false,false,false,false,false,false,false] rfl rfl (any_of HT_.out (by kernel_rfl)) (fun _ _ _ h=>h) (Or.inl ⟨by rfl,?_⟩) ?_ ?_
                            rotate_left
                            ·intro w'
                             go_simp
                             with_reducible rfl
                            rotate_left
                            ·simp only [Act.put,List.setIfInBounds_toArray,List.set_cons_zero,List.set_cons_succ,i64_w,i32_w]
                             rfl
                            refine pure_ (i:=15) (N:=some 108) (v:=?_) (a':=?_) #[true,true,true,true,true,true,true,true,true,true,true,false,false,false,true,true,false,false,false,false,false,false,false,false,false,false,false,false] rfl rfl (any_of HT_.out (by kernel_rfl)) (fun _ _ _ h=>h) (Or.inl ⟨by rfl,?_⟩) ?_ ?_
                            rotate_left
                            ·intro w'
                             go_simp
                             with_reducible rfl
                            rotate_left
                            ·simp only [Act.put,List.setIfInBounds_toArray,List.set_cons_zero,List.set_cons_succ,i64_w,i32_w]
                             rfl
                            refine pure_ (i:=16) (N:=some 109) (v:=?_) (a':=?_) #[true,true,true,true,true,true,true,true,true,true,true,false,false,false,true,true,true,false,false,false,false,false,false,false,false,false,false,false] rfl rfl (any_of HT_.out (by kernel_rfl)) (fun _ _ _ h=>h) (Or.inl ⟨by rfl,?_⟩) ?_ ?_
                            rotate_left
                            ·intro w'
                             go_simp
                             with_reducible rfl
                            rotate_left
                            ·simp only [Act.put,List.setIfInBounds_toArray,List.set_cons_zero,List.set_cons_succ,i64_w,i32_w]
                             rfl
                            refine pure_ (i:=17) (N:=some 110) (v:=?_) (a':=?_) #[true,true,true,true,true,true,true,true,true,true,true,false,false,false,true,true,true,true,false,false,false,false,false,false,false,false,false,false] rfl rfl (any_of HT_.out (by kernel_rfl)) (fun _ _ _ h=>h) (Or.inl ⟨by rfl,?_⟩) ?_ ?_
                            rotate_left
                            ·intro w'
                             go_simp
                             with_reducible rfl
                            rotate_left
                            ·simp only [Act.put,List.setIfInBounds_toArray,List.set_cons_zero,List.set_cons_succ,i64_w,i32_w]
                             rfl
                            refine pure_ (i:=18) (N:=some 111) (v:=?_) (a':=?_) #[true,true,true,true,true,true,true,true,true,true,true,false,false,false,true,true,true,true,true,false,false,false,false,false,false,false,false,false] rfl rfl (any_of HT_.out (by kernel_rfl)) (fun _ _ _ h=>h) (Or.inl ⟨by rfl,?_⟩) ?_ ?_
                            rotate_left
                            ·intro w'
                             go_simp
                             with_reducible rfl
                            rotate_left
                            ·simp only [Act.put,List.setIfInBounds_toArray,List.set_cons_zero,List.set_cons_succ,i64_w,i32_w]
                             rfl
                            refine pure_ (i:=19) (N:=some 112) (v:=?_) (a':=?_) #[true,true,true,true,true,true,true,true,true,true,true,false,false,false,true,true,true,true,true,true,false,false,false,false,false,false,false,false] rfl rfl (any_of HT_.out (by kernel_rfl)) (fun _ _ _ h=>h) (Or.inl ⟨by rfl,?_⟩) ?_ ?_
                            rotate_left
                            ·intro w'
                             go_simp
                             with_reducible rfl
                            rotate_left
                            ·simp only [Act.put,List.setIfInBounds_toArray,List.set_cons_zero,List.set_cons_succ,i64_w,i32_w]
                             rfl
                            refine pure_ (i:=20) (N:=some 113) (v:=?_) (a':=?_) #[true,true,true,true,true,true,true,true,true,true,true,false,false,false,true,true,true,true,true,true,true,false,false,false,false,false,false,false] rfl rfl (any_of HT_.out (by kernel_rfl)) (fun _ _ _ h=>h) (Or.inl ⟨by rfl,?_⟩) ?_ ?_
                            rotate_left
                            ·intro w'
                             go_simp
                             with_reducible rfl
                            rotate_left
                            ·simp only [Act.put,List.setIfInBounds_toArray,List.set_cons_zero,List.set_cons_succ,i64_w,i32_w]
                             rfl
                            refine pure_ (i:=21) (N:=some 114) (v:=?_) (a':=?_) #[true,true,true,true,true,true,true,true,true,true,true,false,false,false,true,true,true,true,true,true,true,true,false,false,false,false,false,false] rfl rfl (any_of HT_.out (by kernel_rfl)) (fun _ _ _ h=>h) (Or.inl ⟨by rfl,?_⟩) ?_ ?_
                            rotate_left
                            ·intro w'
                             go_simp
                             with_reducible rfl
                            rotate_left
                            ·simp only [Act.put,List.setIfInBounds_toArray,List.set_cons_zero,List.set_cons_succ,i64_w,i32_w]
                             rfl
                            refine take_ (i:=11) (N:=some 104) (v:=?_) (a':=?_) #[true,true,true,true,true,true,true,true,true,true,true,true,false,false,true,true,true,true,true,true,true,true,false,false,false,false,false,false] rfl rfl (take_ofW HT_.out HW_.out (by kernel_rfl)) (fun _ _ _ h=>h) (Or.inl ⟨by rfl,?_⟩) hHeld ?_ ?_
                            rotate_left
                            ·rintro w' ⟨s0,s1⟩
                             go_simp
                             with_reducible rfl
                            rotate_left
                            ·simp only [Act.put,List.setIfInBounds_toArray,List.set_cons_zero,List.set_cons_succ,i64_w,i32_w]
                             rfl
                            refine pure_ (i:=12) (N:=some 105) (v:=?_) (a':=?_) #[true,true,true,true,true,true,true,true,true,true,true,true,true,false,true,true,true,true,true,true,true,true,false,false,false,false,false,false] rfl rfl (any_of HT_.out (by kernel_rfl)) (fun _ _ _ h=>h) (Or.inl ⟨by rfl,?_⟩) ?_ ?_
                            rotate_left
                            ·intro w'
                             go_simp
                             with_reducible rfl
                            rotate_left
                            ·simp only [Act.put,List.setIfInBounds_toArray,List.set_cons_zero,List.set_cons_succ,i64_w,i32_w]
                             rfl
                            refine pure_ (i:=13) (N:=some 106) (v:=?_) (a':=?_) #[true,true,true,true,true,true,true,true,true,true,true,true,true,true,true,true,true,true,true,true,true,true,false,false,false,false,false,false] rfl rfl (any_of HT_.out (by kernel_rfl)) (fun _ _ _ h=>h) (Or.inl ⟨by rfl,?_⟩) ?_ ?_
                            rotate_left
                            ·intro w'
                             go_simp
                             with_reducible rfl
                            rotate_left
                            ·simp only [Act.put,List.setIfInBounds_toArray,List.set_cons_zero,List.set_cons_succ,i64_w,i32_w]
                             rfl
                            refine take_ (i:=22) (N:=some 115) (v:=?_) (a':=?_) #[true,true,true,true,true,true,true,true,true,true,true,true,true,true,true,true,true,true,true,true,true,true,true,false,false,false,false,false] rfl rfl (take_ofW HT_.out HW_.out (by kernel_rfl)) (fun _ _ _ h=>h) (Or.inl ⟨by rfl,?_⟩) hHeld ?_ ?_
                            rotate_left
                            ·rintro w' ⟨s0,s1⟩
                             go_simp
                             with_reducible rfl
                            rotate_left
                            ·simp only [Act.put,List.setIfInBounds_toArray,List.set_cons_zero,List.set_cons_succ,i64_w,i32_w]
                             rfl
                            refine pure_ (i:=23) (N:=some 116) (v:=?_) (a':=?_) #[true,true,true,true,true,true,true,true,true,true,true,true,true,true,true,true,true,true,true,true,true,true,true,true,false,false,false,false] rfl rfl (any_of HT_.out (by kernel_rfl)) (fun _ _ _ h=>h) (Or.inl ⟨by rfl,?_⟩) ?_ ?_
                            rotate_left
                            ·intro w'
                             go_simp
                             with_reducible rfl
                            rotate_left
                            ·simp only [Act.put,List.setIfInBounds_toArray,List.set_cons_zero,List.set_cons_succ,i64_w,i32_w]
                             rfl
                            refine pure_ (i:=24) (N:=some 117) (v:=?_) (a':=?_) #[true,true,true,true,true,true,true,true,true,true,true,true,true,true,true,true,true,true,true,true,true,true,true,true,true,false,false,false] rfl rfl (any_of HT_.out (by kernel_rfl)) (fun _ _ _ h=>h) (Or.inl ⟨by rfl,?_⟩) ?_ ?_
                            rotate_left
                            ·intro w'
                             go_simp
                             with_reducible rfl
                            rotate_left
                            ·simp only [Act.put,List.setIfInBounds_toArray,List.set_cons_zero,List.set_cons_succ,i64_w,i32_w]
                             rfl
                            refine pure_ (i:=25) (N:=some 118) (v:=?_) (a':=?_) #[true,true,true,true,true,true,true,true,true,true,true,true,true,true,true,true,true,true,true,true,true,true,true,true,true,true,false,false] rfl rfl (any_of HT_.out (by kernel_rfl)) (fun _ _ _ h=>h) (Or.inl ⟨by rfl,?_⟩) ?_ ?_
                            rotate_left
                            ·intro w'
                             go_simp
                             with_reducible rfl
                            rotate_left
                            ·simp only [Act.put,List.setIfInBounds_toArray,List.set_cons_zero,List.set_cons_succ,i64_w,i32_w]
                             rfl
                            refine pure_ (i:=26) (N:=some 119) (v:=?_) (a':=?_) #[true,true,true,true,true,true,true,true,true,true,true,true,true,true,true,true,true,true,true,true,true,true,true,true,true,true,true,false] rfl rfl (any_of HT_.out (by kernel_rfl)) (fun _ _ _ h=>h) (Or.inl ⟨by rfl,?_⟩) ?_ ?_
                            rotate_left
                            ·intro w'
                             go_simp
                             with_reducible rfl
                            rotate_left
                            ·simp only [Act.put,List.setIfInBounds_toArray,List.set_cons_zero,List.set_cons_succ,i64_w,i32_w]
                             rfl
                            refine pure_ (i:=27) (N:=some 120) (v:=?_) (a':=?_) #[true,true,true,true,true,true,true,true,true,true,true,true,true,true,true,true,true,true,true,true,true,true,true,true,true,true,true,true] rfl rfl (any_of HT_.out (by kernel_rfl)) (fun _ _ _ h=>h) (Or.inl ⟨by rfl,?_⟩) ?_ ?_
                            rotate_left
                            ·intro w'
                             go_simp
                             with_reducible rfl
                            rotate_left
                            ·simp only [Act.put,List.setIfInBounds_toArray,List.set_cons_zero,List.set_cons_succ,i64_w,i32_w]
                             rfl
                            refine done_ (done_of HT_.out (by kernel_rfl)) ?_
                            try go_wp2
                            go_meet
                            case rel=>exact ⟨_,(decide ((IntKind.u64.wrap (x15_3 * (IntKind.u64.wrap (rd t161 (ji40))))) > (Go.bits .or .u64 (IntKind.u64.wrap (x16_3 * 4294967296)) (IntKind.u64.wrap (rd x9_2 (ji43)))))),(by first|rfl|(simp;done)|(simp only [← hji40,← hji43] <;> (first|rfl|simp))|(simp [*];done)),H',⟨by have:=HK1.out;have:=HK2.out;have:=HK3.out;first|omega|exact Nat.le_refl _⟩,⟨by (try simp only [hl9_2]);(with_reducible repeat (first|apply Kd.R_alloc|apply Kd.R_drewN|apply Kd.R_drew));exact HO_7.out⟩,⟨by (try simp only [hl9_2]);(with_reducible repeat (first|apply Kd.R_alloc|apply Kd.R_drewN|apply Kd.R_drew));exact HO_9.out⟩,⟨by (try simp only [hl9_2]);(with_reducible repeat (first|apply Kd.R_alloc|apply Kd.R_drewN|apply Kd.R_drew));exact HO_12.out⟩,⟨by repeat (first|(with_reducible first|exact HB.out|apply below_alloc|apply pw_below_drewN|apply below_drew1)|exact HB.out)⟩⟩
                           ·rw [if_neg c45] at H
                            exact absurd H (by simp)
                          ·rw [if_neg c44] at H
                           exact absurd H (by simp)
                         ·rw [if_neg c42] at H
                          exact absurd H (by simp)
                        ·rw [if_neg c41] at H
                         exact absurd H (by simp)
                       ·rw [if_neg c39] at H
                        have c39b0 : decide (x16_3 < 4294967296)=false:=decide_eq_false c39
                        clear c39
                        have H':=Aside0.mk H
                        clear H
                        try go_wp2
                        have n0_:=Aside0.mk (Kd.R_drew HO_7.out)
                        have n1_:=Aside0.mk (Kd.R_drew HO_9.out)
                        have n2_:=Aside0.mk (Kd.R_drew HO_12.out)
                        have n3_:=Aside0.mk (below_drew1 HB.out)
                        clear HO_7
                        clear HO_9
                        clear HO_12
                        clear HB
                        have HO_7:=n0_
                        have HO_9:=n1_
                        have HO_12:=n2_
                        have HB:=n3_
                        clear n0_ n1_ n2_ n3_
                        refine start_ (n:=28) (S:=fun w'=>True) (ds:=[]) #[false,false,false,false,false,false,false,false,false,false,false,false,false,false,false,false,false,false,false,false,false,false,false,false,false,false,false,false] (by kernel_rfl) rfl rfl trivial (fun hHeld=>?_);refine with_tabW nat_long.tab13 nat_long.bits13 (fun HT_ HW_=>?_)
                        generalize wr.drew=w47 at HO_7 HO_9 HO_12 HB hHeld ⊢
                        refine pure_ (i:=0) (N:=some 93) (v:=?_) (a':=?_) #[true,false,false,false,false,false,false,false,false,false,false,false,false,false,false,false,false,false,false,false,false,false,false,false,false,false,false,false] rfl rfl (any_of HT_.out (by kernel_rfl)) (fun _ _ _ h=>h) (Or.inl ⟨by rfl,?_⟩) ?_ ?_
                        rotate_left
                        ·intro w'
                         go_simp
                         with_reducible rfl
                        rotate_left
                        ·simp only [Act.put,List.setIfInBounds_toArray,List.set_cons_zero,List.set_cons_succ,i64_w,i32_w]
                         rfl
                        refine pure_ (i:=1) (N:=some 94) (v:=?_) (a':=?_) #[true,true,false,false,false,false,false,false,false,false,false,false,false,false,false,false,false,false,false,false,false,false,false,false,false,false,false,false] rfl rfl (any_of HT_.out (by kernel_rfl)) (fun _ _ _ h=>h) (Or.inl ⟨by rfl,?_⟩) ?_ ?_
                        rotate_left
                        ·intro w'
                         go_simp
                         with_reducible rfl
                        rotate_left
                        ·simp only [Act.put,List.setIfInBounds_toArray,List.set_cons_zero,List.set_cons_succ,i64_w,i32_w]
                         rfl
                        refine pure_ (i:=2) (N:=some 95) (v:=?_) (a':=?_) #[true,true,true,false,false,false,false,false,false,false,false,false,false,false,false,false,false,false,false,false,false,false,false,false,false,false,false,false] rfl rfl (any_of HT_.out (by kernel_rfl)) (fun _ _ _ h=>h) (Or.inl ⟨by rfl,?_⟩) ?_ ?_
                        rotate_left
                        ·intro w'
                         go_simp
                         with_reducible rfl
                        rotate_left
                        ·simp only [Act.put,List.setIfInBounds_toArray,List.set_cons_zero,List.set_cons_succ,i64_w,i32_w]
                         rfl
                        refine pure_ (i:=3) (N:=some 96) (v:=?_) (a':=?_) #[true,true,true,true,false,false,false,false,false,false,false,false,false,false,false,false,false,false,false,false,false,false,false,false,false,false,false,false] rfl rfl (any_of HT_.out (by kernel_rfl)) (fun _ _ _ h=>h) (Or.inl ⟨by rfl,?_⟩) ?_ ?_
                        rotate_left
                        ·intro w'
                         go_simp
                         with_reducible rfl
                        rotate_left
                        ·simp only [Act.put,List.setIfInBounds_toArray,List.set_cons_zero,List.set_cons_succ,i64_w,i32_w]
                         rfl
                        refine pure_ (i:=4) (N:=some 97) (v:=?_) (a':=?_) #[true,true,true,true,true,false,false,false,false,false,false,false,false,false,false,false,false,false,false,false,false,false,false,false,false,false,false,false] rfl rfl (any_of HT_.out (by kernel_rfl)) (fun _ _ _ h=>h) (Or.inl ⟨by rfl,?_⟩) ?_ ?_
                        rotate_left
                        ·intro w'
                         go_simp
                         with_reducible rfl
                        rotate_left
                        ·simp only [Act.put,List.setIfInBounds_toArray,List.set_cons_zero,List.set_cons_succ,i64_w,i32_w]
                         rfl
                        refine pure_ (i:=5) (N:=some 98) (v:=?_) (a':=?_) #[true,true,true,true,true,true,false,false,false,false,false,false,false,false,false,false,false,false,false,false,false,false,false,false,false,false,false,false] rfl rfl (any_of HT_.out (by kernel_rfl)) (fun _ _ _ h=>h) (Or.inl ⟨by rfl,?_⟩) ?_ ?_
                        rotate_left
                        ·intro w'
                         go_simp
                         with_reducible rfl
                        rotate_left
                        ·simp only [Act.put,List.setIfInBounds_toArray,List.set_cons_zero,List.set_cons_succ,i64_w,i32_w]
                         rfl
                        refine pure_ (i:=6) (N:=some 99) (v:=undef) (a':=?_) #[true,true,true,true,true,true,true,false,false,false,false,false,false,false,false,false,false,false,false,false,false,false,false,false,false,false,false,false] rfl rfl (any_of HT_.out (by kernel_rfl)) (fun _ _ _ h=>h) (Or.inr ⟨by rfl,rfl⟩) ?_ ?_
                        rotate_left
                        ·simp only [Act.put,List.setIfInBounds_toArray,List.set_cons_zero,List.set_cons_succ,i64_w,i32_w]
                         rfl
                        refine pure_ (i:=7) (N:=some 100) (v:=undef) (a':=?_) #[true,true,true,true,true,true,true,true,false,false,false,false,false,false,false,false,false,false,false,false,false,false,false,false,false,false,false,false] rfl rfl (any_of HT_.out (by kernel_rfl)) (fun _ _ _ h=>h) (Or.inr ⟨by rfl,rfl⟩) ?_ ?_
                        rotate_left
                        ·simp only [Act.put,List.setIfInBounds_toArray,List.set_cons_zero,List.set_cons_succ,i64_w,i32_w]
                         rfl
                        refine pure_ (i:=8) (N:=some 101) (v:=undef) (a':=?_) #[true,true,true,true,true,true,true,true,true,false,false,false,false,false,false,false,false,false,false,false,false,false,false,false,false,false,false,false] rfl rfl (any_of HT_.out (by kernel_rfl)) (fun _ _ _ h=>h) (Or.inr ⟨by rfl,rfl⟩) ?_ ?_
                        rotate_left
                        ·simp only [Act.put,List.setIfInBounds_toArray,List.set_cons_zero,List.set_cons_succ,i64_w,i32_w]
                         rfl
                        refine pure_ (i:=9) (N:=some 102) (v:=undef) (a':=?_) #[true,true,true,true,true,true,true,true,true,true,false,false,false,false,false,false,false,false,false,false,false,false,false,false,false,false,false,false] rfl rfl (any_of HT_.out (by kernel_rfl)) (fun _ _ _ h=>h) (Or.inr ⟨by rfl,rfl⟩) ?_ ?_
                        rotate_left
                        ·simp only [Act.put,List.setIfInBounds_toArray,List.set_cons_zero,List.set_cons_succ,i64_w,i32_w]
                         rfl
                        refine pure_ (i:=10) (N:=some 103) (v:=undef) (a':=?_) #[true,true,true,true,true,true,true,true,true,true,true,false,false,false,false,false,false,false,false,false,false,false,false,false,false,false,false,false] rfl rfl (any_of HT_.out (by kernel_rfl)) (fun _ _ _ h=>h) (Or.inr ⟨by rfl,rfl⟩) ?_ ?_
                        rotate_left
                        ·simp only [Act.put,List.setIfInBounds_toArray,List.set_cons_zero,List.set_cons_succ,i64_w,i32_w]
                         rfl
                        refine pure_ (i:=11) (N:=some 104) (v:=undef) (a':=?_) #[true,true,true,true,true,true,true,true,true,true,true,true,false,false,false,false,false,false,false,false,false,false,false,false,false,false,false,false] rfl rfl (any_of HT_.out (by kernel_rfl)) (fun _ _ _ h=>h) (Or.inr ⟨by rfl,rfl⟩) ?_ ?_
                        rotate_left
                        ·simp only [Act.put,List.setIfInBounds_toArray,List.set_cons_zero,List.set_cons_succ,i64_w,i32_w]
                         rfl
                        refine pure_ (i:=12) (N:=some 105) (v:=undef) (a':=?_) #[true,true,true,true,true,true,true,true,true,true,true,true,true,false,false,false,false,false,false,false,false,false,false,false,false,false,false,false] rfl rfl (any_of HT_.out (by kernel_rfl)) (fun _ _ _ h=>h) (Or.inr ⟨by rfl,rfl⟩) ?_ ?_
                        rotate_left
                        ·simp only [Act.put,List.setIfInBounds_toArray,List.set_cons_zero,List.set_cons_succ,i64_w,i32_w]
                         rfl
                        refine pure_ (i:=13) (N:=some 106) (v:=undef) (a':=?_) #[true,true,true,true,true,true,true,true,true,true,true,true,true,true,false,false,false,false,false,false,false,false,false,false,false,false,false,false] rfl rfl (any_of HT_.out (by kernel_rfl)) (fun _ _ _ h=>h) (Or.inr ⟨by rfl,rfl⟩) ?_ ?_
                        rotate_left
                        ·simp only [Act.put,List.setIfInBounds_toArray,List.set_cons_zero,List.set_cons_succ,i64_w,i32_w]
                         rfl
                        refine pure_ (i:=14) (N:=some 107) (v:=undef) (a':=?_) #[true,true,true,true,true,true,true,true,true,true,true,true,true,true,true,false,false,false,false,false,false,false,false,false,false,false,false,false] rfl rfl (any_of HT_.out (by kernel_rfl)) (fun _ _ _ h=>h) (Or.inr ⟨by rfl,rfl⟩) ?_ ?_
                        rotate_left
                        ·simp only [Act.put,List.setIfInBounds_toArray,List.set_cons_zero,List.set_cons_succ,i64_w,i32_w]
                         rfl
                        refine pure_ (i:=15) (N:=some 108) (v:=undef) (a':=?_) #[true,true,true,true,true,true,true,true,true,true,true,true,true,true,true,true,false,false,false,false,false,false,false,false,false,false,false,false] rfl rfl (any_of HT_.out (by kernel_rfl)) (fun _ _ _ h=>h) (Or.inr ⟨by rfl,rfl⟩) ?_ ?_
                        rotate_left
                        ·simp only [Act.put,List.setIfInBounds_toArray,List.set_cons_zero,List.set_cons_succ,i64_w,i32_w]
                         rfl
                        refine pure_ (i:=16) (N:=some 109) (v:=undef) (a':=?_) #[true,true,true,true,true,true,true,true,true,true,true,true,true,true,true,true,true,false,false,false,false,false,false,false,false,false,false,false] rfl rfl (any_of HT_.out (by kernel_rfl)) (fun _ _ _ h=>h) (Or.inr ⟨by rfl,rfl⟩) ?_ ?_
                        rotate_left
                        ·simp only [Act.put,List.setIfInBounds_toArray,List.set_cons_zero,List.set_cons_succ,i64_w,i32_w]
                         rfl
                        refine pure_ (i:=17) (N:=some 110) (v:=undef) (a':=?_) #[true,true,true,true,true,true,true,true,true,true,true,true,true,true,true,true,true,true,false,false,false,false,false,false,false,false,false,false] rfl rfl (any_of HT_.out (by kernel_rfl)) (fun _ _ _ h=>h) (Or.inr ⟨by rfl,rfl⟩) ?_ ?_
                        rotate_left
                        ·simp only [Act.put,List.setIfInBounds_toArray,List.set_cons_zero,List.set_cons_succ,i64_w,i32_w]
                         rfl
                        refine pure_ (i:=18) (N:=some 111) (v:=undef) (a':=?_) #[true,true,true,true,true,true,true,true,true,true,true,true,true,true,true,true,true,true,true,false,false,false,false,false,false,false,false,false] rfl rfl (any_of HT_.out (by kernel_rfl)) (fun _ _ _ h=>h) (Or.inr ⟨by rfl,rfl⟩) ?_ ?_
                        rotate_left
                        ·simp only [Act.put,List.setIfInBounds_toArray,List.set_cons_zero,List.set_cons_succ,i64_w,i32_w]
                         rfl
                        refine pure_ (i:=19) (N:=some 112) (v:=undef) (a':=?_) #[true,true,true,true,true,true,true,true,true,true,true,true,true,true,true,true,true,true,true,true,false,false,false,false,false,false,false,false] rfl rfl (any_of HT_.out (by kernel_rfl)) (fun _ _ _ h=>h) (Or.inr ⟨by rfl,rfl⟩) ?_ ?_
                        rotate_left
                        ·simp only [Act.put,List.setIfInBounds_toArray,List.set_cons_zero,List.set_cons_succ,i64_w,i32_w]
                         rfl
                        refine pure_ (i:=20) (N:=some 113) (v:=undef) (a':=?_) #[true,true,true,true,true,true,true,true,true,true,true,true,true,true,true,true,true,true,true,true,true,false,false,false,false,false,false,false] rfl rfl (any_of HT_.out (by kernel_rfl)) (fun _ _ _ h=>h) (Or.inr ⟨by rfl,rfl⟩) ?_ ?_
                        rotate_left
                        ·simp only [Act.put,List.setIfInBounds_toArray,List.set_cons_zero,List.set_cons_succ,i64_w,i32_w]
                         rfl
                        refine pure_ (i:=21) (N:=some 114) (v:=undef) (a':=?_) #[true,true,true,true,true,true,true,true,true,true,true,true,true,true,true,true,true,true,true,true,true,true,false,false,false,false,false,false] rfl rfl (any_of HT_.out (by kernel_rfl)) (fun _ _ _ h=>h) (Or.inr ⟨by rfl,rfl⟩) ?_ ?_
                        rotate_left
                        ·simp only [Act.put,List.setIfInBounds_toArray,List.set_cons_zero,List.set_cons_succ,i64_w,i32_w]
                         rfl
                        refine pure_ (i:=22) (N:=some 115) (v:=undef) (a':=?_) #[true,true,true,true,true,true,true,true,true,true,true,true,true,true,true,true,true,true,true,true,true,true,true,false,false,false,false,false] rfl rfl (any_of HT_.out (by kernel_rfl)) (fun _ _ _ h=>h) (Or.inr ⟨by rfl,rfl⟩) ?_ ?_
                        rotate_left
                        ·simp only [Act.put,List.setIfInBounds_toArray,List.set_cons_zero,List.set_cons_succ,i64_w,i32_w]
                         rfl
                        refine pure_ (i:=23) (N:=some 116) (v:=undef) (a':=?_) #[true,true,true,true,true,true,true,true,true,true,true,true,true,true,true,true,true,true,true,true,true,true,true,true,false,false,false,false] rfl rfl (any_of HT_.out (by kernel_rfl)) (fun _ _ _ h=>h) (Or.inr ⟨by rfl,rfl⟩) ?_ ?_
                        rotate_left
                        ·simp only [Act.put,List.setIfInBounds_toArray,List.set_cons_zero,List.set_cons_succ,i64_w,i32_w]
                         rfl
                        refine pure_ (i:=24) (N:=some 117) (v:=undef) (a':=?_) #[true,true,true,true,true,true,true,true,true,true,true,true,true,true,true,true,true,true,true,true,true,true,true,true,true,false,false,false] rfl rfl (any_of HT_.out (by kernel_rfl)) (fun _ _ _ h=>h) (Or.inr ⟨by rfl,rfl⟩) ?_ ?_
                        rotate_left
                        ·simp only [Act.put,List.setIfInBounds_toArray,List.set_cons_zero,List.set_cons_succ,i64_w,i32_w]
                         rfl
                        refine pure_ (i:=25) (N:=some 118) (v:=undef) (a':=?_) #[true,true,true,true,true,true,true,true,true,true,true,true,true,true,true,true,true,true,true,true,true,true,true,true,true,true,false,false] rfl rfl (any_of HT_.out (by kernel_rfl)) (fun _ _ _ h=>h) (Or.inr ⟨by rfl,rfl⟩) ?_ ?_
                        rotate_left
                        ·simp only [Act.put,List.setIfInBounds_toArray,List.set_cons_zero,List.set_cons_succ,i64_w,i32_w]
                         rfl
                        refine pure_ (i:=26) (N:=some 119) (v:=?_) (a':=?_) #[true,true,true,true,true,true,true,true,true,true,true,true,true,true,true,true,true,true,true,true,true,true,true,true,true,true,true,false] rfl rfl (any_of HT_.out (by kernel_rfl)) (fun _ _ _ h=>h) (Or.inl ⟨by rfl,?_⟩) ?_ ?_
                        rotate_left
                        ·intro w'
                         go_simp
                         with_reducible rfl
                        rotate_left
                        ·simp only [Act.put,List.setIfInBounds_toArray,List.set_cons_zero,List.set_cons_succ,i64_w,i32_w]
                         rfl
                        refine pure_ (i:=27) (N:=some 120) (v:=?_) (a':=?_) #[true,true,true,true,true,true,true,true,true,true,true,true,true,true,true,true,true,true,true,true,true,true,true,true,true,true,true,true] rfl rfl (any_of HT_.out (by kernel_rfl)) (fun _ _ _ h=>h) (Or.inl ⟨by rfl,?_⟩) ?_ ?_
                        rotate_left
                        ·intro w'
                         go_simp
                         with_reducible rfl
                        rotate_left
                        ·simp only [Act.put,List.setIfInBounds_toArray,List.set_cons_zero,List.set_cons_succ,i64_w,i32_w]
                         rfl
                        refine done_ (done_of HT_.out (by kernel_rfl)) ?_
                        try go_wp2
                        go_meet
                        case rel=>exact ⟨_,(false),(by first|rfl|(simp;done)|(simp [*];done)),H',⟨by have:=HK1.out;have:=HK2.out;have:=HK3.out;first|omega|exact Nat.le_refl _⟩,⟨by (try simp only [hl9_2]);(with_reducible repeat (first|apply Kd.R_alloc|apply Kd.R_drewN|apply Kd.R_drew));exact HO_7.out⟩,⟨by (try simp only [hl9_2]);(with_reducible repeat (first|apply Kd.R_alloc|apply Kd.R_drewN|apply Kd.R_drew));exact HO_9.out⟩,⟨by (try simp only [hl9_2]);(with_reducible repeat (first|apply Kd.R_alloc|apply Kd.R_drewN|apply Kd.R_drew));exact HO_12.out⟩,⟨by repeat (first|(with_reducible first|exact HB.out|apply below_alloc|apply pw_below_drewN|apply below_drew1)|exact HB.out)⟩⟩
                     case rest =>
                      clear HC36
                      try clear p1
                      try clear q1
                      try clear hx1
                      try clear p2
                      try clear c3
                      try clear c4
                      try clear p6
                      try clear p18
                      try clear q18
                      try clear hx18
                      try clear p19
                      try clear q19
                      try clear hx19
                      try clear c37
                      try clear c37b0
                      try clear c39
                      try clear c39b0
                      try clear c41
                      try clear c41b0
                      try clear c42
                      try clear c42b0
                      try clear c44
                      try clear c44b0
                      try clear c45
                      try clear c45b0
                      try clear hx189_0
                      try clear hx190_0
                      try clear p189
                      try clear p190
                      try clear q189
                      try clear q190
                      obtain ⟨kq,x120_35,rfl,HA,HJ35,HO_7,HO_9,HO_12,HB⟩:=hcut
                      cases kq with
                     |zero=>exact absurd HA.out (by simp [nat_long.j3])
                     |succ kj35 =>
                       have H:=HA.out
                       clear HA
                       simp only [nat_long.j3] at H
                       by_cases c48 : x120_35=true
                       ·subst c48
                        have H1 : (if 0≤(wrap64 ((t161.length : Int) - 1)) then (if (wrap64 ((t161.length : Int) - 1)) < (t161.length : Int) then (if (IntKind.u64.wrap (x16_3+(IntKind.u64.wrap (rd t161 (wrap64 ((t161.length : Int) - 1)))))) ≥ 4294967296 then (nat_long.j4 kj35 t160 t161 x9_2 (t161.length : Int) x12_2 x13_2 (IntKind.u64.wrap (x15_3 - 1))) else (nat_long.l2 kj35 t160 t161 x9_2 (t161.length : Int) x12_2 x13_2 (IntKind.u64.wrap (x15_3 - 1)) (IntKind.u64.wrap (x16_3+(IntKind.u64.wrap (rd t161 (wrap64 ((t161.length : Int) - 1)))))))) else (none)) else (none))=some (r1,r2):=by rw [if_pos rfl] at H;exact H
                        clear H
                        have H:=H1
                        clear H1
                        replace H : (if 0≤(ji29) then (if (ji29) < (t161.length : Int) then (if (IntKind.u64.wrap (x16_3+(IntKind.u64.wrap (rd t161 (ji29))))) ≥ 4294967296 then (nat_long.j4 kj35 t160 t161 x9_2 (t161.length : Int) x12_2 x13_2 (IntKind.u64.wrap (x15_3 - 1))) else (nat_long.l2 kj35 t160 t161 x9_2 (t161.length : Int) x12_2 x13_2 (IntKind.u64.wrap (x15_3 - 1)) (IntKind.u64.wrap (x16_3+(IntKind.u64.wrap (rd t161 (ji29))))))) else (none)) else (none))=some (r1,r2):=by first|(rw [hji29] at H;exact H)|(simp only [hji29] at H ⊢;exact H)
                        have hji29w : (IntKind.i64.wrap ((t161.length : Int) - 1))=ji29:=(i64_w _).trans hji29
                        by_cases c49 : 0≤(ji29)
                        ·rw [if_pos c49] at H
                         have c49b0 : decide (0≤(ji29))=true:=decide_eq_true c49
                         clear c49
                         by_cases c50 : (ji29) < (t161.length : Int)
                         ·rw [if_pos c50] at H
                          have c50b0 : decide ((ji29) < (t161.length : Int))=true:=decide_eq_true c50
                          clear c50
                          by_cases c51 : (IntKind.u64.wrap (x16_3+(IntKind.u64.wrap (rd t161 (ji29))))) ≥ 4294967296
                          ·rw [if_pos c51] at H
                           have c51b0 : decide (4294967296≤(IntKind.u64.wrap (x16_3+(IntKind.u64.wrap (rd t161 (ji29))))))=true:=decide_eq_true c51
                           clear c51
                           have H':=Aside0.mk H
                           clear H
                           have p191 : 0≤((ji29) : Int):=of_decide_eq_true (by first|(with_reducible assumption)|assumption)
                           have q191 : (ji29) < (t161.length : Int):=of_decide_eq_true (by first|(with_reducible assumption)|assumption)
                           obtain ⟨ad191,e191,hx191_0⟩:=Kd.at_int (Kd.R_reads' HO_7.out).2.2 (ji29) p191 q191
                           obtain rfl : ad187=ad191:=(by injection e191)
                           replace p191:=eq_true p191
                           replace q191:=eq_true q191
                           go_wp2
                           go_meet
                           case rel=>exact ⟨_,(IntKind.u64.wrap (x15_3 - 1)),(by first|rfl|(simp;done)|(simp [*];done)),H',⟨by have:=HK1.out;have:=HK2.out;have:=HK3.out;have:=HJ35.out;first|omega|exact Nat.le_refl _⟩,⟨by (try simp only [hl9_2]);(with_reducible repeat (first|apply Kd.R_alloc|apply Kd.R_drewN|apply Kd.R_drew));exact HO_7.out⟩,⟨by (try simp only [hl9_2]);(with_reducible repeat (first|apply Kd.R_alloc|apply Kd.R_drewN|apply Kd.R_drew));exact HO_9.out⟩,⟨by (try simp only [hl9_2]);(with_reducible repeat (first|apply Kd.R_alloc|apply Kd.R_drewN|apply Kd.R_drew));exact HO_12.out⟩,⟨by repeat (first|(with_reducible first|exact HB.out|apply below_alloc|apply pw_below_drewN|apply below_drew1)|exact HB.out)⟩⟩
                          ·rw [if_neg c51] at H
                           have c51b0 : decide (4294967296≤(IntKind.u64.wrap (x16_3+(IntKind.u64.wrap (rd t161 (ji29))))))=false:=decide_eq_false c51
                           clear c51
                           have H':=Aside0.mk H
                           clear H
                           have p191 : 0≤((ji29) : Int):=of_decide_eq_true (by first|(with_reducible assumption)|assumption)
                           have q191 : (ji29) < (t161.length : Int):=of_decide_eq_true (by first|(with_reducible assumption)|assumption)
                           obtain ⟨ad191,e191,hx191_0⟩:=Kd.at_int (Kd.R_reads' HO_7.out).2.2 (ji29) p191 q191
                           obtain rfl : ad187=ad191:=(by injection e191)
                           replace p191:=eq_true p191
                           replace q191:=eq_true q191
                           go_wp2
                           go_roundg kj35
                           case measure=>have:=HK1.out;have:=HK2.out;have:=HK3.out;have:=HJ35.out;omega
                           case rel=>exact ⟨(IntKind.u64.wrap (x15_3 - 1)),(IntKind.u64.wrap (x16_3+(IntKind.u64.wrap (rd t161 (ji29))))),(by first|rfl|(simp;done)|(simp [*];done)),(by first|rfl|(simp;done)|(simp only [← hji29,← hji29] <;> (first|rfl|simp))|(simp [*];done)),H',⟨by have:=HK1.out;have:=HK2.out;have:=HK3.out;have:=HJ35.out;omega⟩,⟨by (try simp only [hl9_2]);(with_reducible repeat (first|apply Kd.R_alloc|apply Kd.R_drewN|apply Kd.R_drew));exact HO_7.out⟩,⟨by (try simp only [hl9_2]);(with_reducible repeat (first|apply Kd.R_alloc|apply Kd.R_drewN|apply Kd.R_drew));exact HO_9.out⟩,⟨by (try simp only [hl9_2]);(with_reducible repeat (first|apply Kd.R_alloc|apply Kd.R_drewN|apply Kd.R_drew));exact HO_12.out⟩,⟨by repeat (first|(with_reducible first|exact HB.out|apply below_alloc|apply pw_below_drewN|apply below_drew1)|exact HB.out)⟩⟩
                         ·rw [if_neg c50] at H
                          exact absurd H (by simp)
                        ·rw [if_neg c49] at H
                         exact absurd H (by simp)
                       ·replace c48:=Bool.eq_false_iff.mpr c48
                        subst c48
                        have H1 : (nat_long.j4 kj35 t160 t161 x9_2 (t161.length : Int) x12_2 x13_2 x15_3)=some (r1,r2):=by rw [if_neg (show ¬ (false=true) by decide)] at H;exact H
                        clear H
                        have H:=H1
                        clear H1
                        have H':=Aside0.mk H
                        clear H
                        go_wp2
                        go_meet
                        case rel=>exact ⟨_,(x15_3),(by first|rfl|(simp;done)|(simp [*];done)),H',⟨by have:=HK1.out;have:=HK2.out;have:=HK3.out;have:=HJ35.out;first|omega|exact Nat.le_refl _⟩,⟨by (try simp only [hl9_2]);(with_reducible repeat (first|apply Kd.R_alloc|apply Kd.R_drewN|apply Kd.R_drew));exact HO_7.out⟩,⟨by (try simp only [hl9_2]);(with_reducible repeat (first|apply Kd.R_alloc|apply Kd.R_drewN|apply Kd.R_drew));exact HO_9.out⟩,⟨by (try simp only [hl9_2]);(with_reducible repeat (first|apply Kd.R_alloc|apply Kd.R_drewN|apply Kd.R_drew));exact HO_12.out⟩,⟨by repeat (first|(with_reducible first|exact HB.out|apply below_alloc|apply pw_below_drewN|apply below_drew1)|exact HB.out)⟩⟩
                  case rest =>
                   clear HC33
                   try clear p1
                   try clear q1
                   try clear hx1
                   try clear p2
                   try clear c3
                   try clear c4
                   try clear c5
                   try clear p6
                   try clear p18
                   try clear q18
                   try clear hx18
                   try clear p19
                   try clear q19
                   try clear hx19
                   try clear c37
                   try clear c37b0
                   try clear c39
                   try clear c39b0
                   try clear c41
                   try clear c41b0
                   try clear c42
                   try clear c42b0
                   try clear c44
                   try clear c44b0
                   try clear c45
                   try clear c45b0
                   try clear c48
                   try clear c49
                   try clear c49b0
                   try clear c50
                   try clear c50b0
                   try clear c51
                   try clear c51b0
                   try clear hx189_0
                   try clear hx190_0
                   try clear hx191_0
                   try clear p1
                   try clear p18
                   try clear p189
                   try clear p19
                   try clear p190
                   try clear p191
                   try clear p2
                   try clear p6
                   try clear q1
                   try clear q18
                   try clear q189
                   try clear q19
                   try clear q190
                   try clear q191
                   obtain ⟨kq,x15_32,rfl,HA,HJ32,HO_7,HO_9,HO_12,HB⟩:=hcut
                   cases kq with
                  |zero=>exact absurd HA.out (by simp [nat_long.j4])
                  |succ kj32 =>
                    have H:=HA.out
                    clear HA
                    simp only [nat_long.j4] at H
                    by_cases c52 : 0≤x13_2
                    ·rw [if_pos c52] at H
                     have c52b0:=eq_true c52
                     have c52b1 : decide (0≤x13_2)=true:=decide_eq_true c52
                     clear c52
                     by_cases c53 : x13_2 < (wrap64 ((wrap64 (x13_2+(t161.length : Int)))+1))
                     ·rw [if_pos c53] at H
                      have c53b0:=eq_true c53
                      have c53b1 : decide (x13_2 < (wrap64 ((wrap64 (x13_2+(t161.length : Int)))+1)))=true:=decide_eq_true c53
                      by_cases c54 : (wrap64 ((wrap64 (x13_2+(t161.length : Int)))+1))≤(x9_2.length : Int)
                      ·rw [if_pos c54] at H
                       have c54b0:=eq_true c54
                       have c54b1 : decide ((wrap64 ((wrap64 (x13_2+(t161.length : Int)))+1))≤(x9_2.length : Int))=true:=decide_eq_true c54
                       by_cases c55 : x13_2+(t161.length : Int) < (wrap64 ((wrap64 (x13_2+(t161.length : Int)))+1))
                       ·rw [if_pos c55] at H
                        have c55b0:=eq_true c55
                        have c55b1 : decide (x13_2+(t161.length : Int) < (wrap64 ((wrap64 (x13_2+(t161.length : Int)))+1)))=true:=decide_eq_true c55
                        replace H:=Option.bind_eq_some_iff.mp H
                        obtain ⟨⟨t192,t193⟩,A560,H⟩:=H
                        replace H : (if t192=true then ((nat_back.f t193 (x13_2 : Int).toNat t161).bind fun t194=>(if x13_2 < (x12_2.length : Int) then (nat_long.l1 kj32 t160 t161 t194 (t161.length : Int) (x12_2.set (x13_2 : Int).toNat ((IntKind.u64.wrap (x15_32 - 1)) % 4294967296)) (wrap64 (x13_2 - 1))) else (none))) else (if x13_2 < (x12_2.length : Int) then (nat_long.l1 kj32 t160 t161 t193 (t161.length : Int) (x12_2.set (x13_2 : Int).toNat ((x15_32) % 4294967296)) (wrap64 (x13_2 - 1))) else (none)))=some (r1,r2):=H
                        have A56:=Aside0.mk A560
                        clear A560
                        by_cases c57 : t192=true
                        ·subst c57
                         have H1 : ((nat_back.f t193 (x13_2 : Int).toNat t161).bind fun t194=>(if x13_2 < (x12_2.length : Int) then (nat_long.l1 kj32 t160 t161 t194 (t161.length : Int) (x12_2.set (x13_2 : Int).toNat ((IntKind.u64.wrap (x15_32 - 1)) % 4294967296)) (wrap64 (x13_2 - 1))) else (none)))=some (r1,r2):=by rw [if_pos rfl] at H;exact H
                         clear H
                         have H:=H1
                         clear H1
                         have c58b0:=eq_true (of_decide_eq_true (by first|(with_reducible assumption)|assumption) : 0≤x13_2)
                         have c59b0:=eq_true (of_decide_eq_true (by first|(with_reducible assumption)|assumption) : x13_2 < (wrap64 ((wrap64 (x13_2+(t161.length : Int)))+1)))
                         have c60b0:=eq_true (of_decide_eq_true (by first|(with_reducible assumption)|assumption) : (wrap64 ((wrap64 (x13_2+(t161.length : Int)))+1))≤(x9_2.length : Int))
                         replace H:=Option.bind_eq_some_iff.mp H
                         obtain ⟨t194,A610,H⟩:=H
                         replace H : (if x13_2 < (x12_2.length : Int) then (nat_long.l1 kj32 t160 t161 t194 (t161.length : Int) (x12_2.set (x13_2 : Int).toNat ((IntKind.u64.wrap (x15_32 - 1)) % 4294967296)) (wrap64 (x13_2 - 1))) else (none))=some (r1,r2):=H
                         have A61:=Aside0.mk A610
                         clear A610
                         by_cases c62 : x13_2 < (x12_2.length : Int)
                         ·rw [if_pos c62] at H
                          have c62b0 : decide (x13_2 < (x12_2.length : Int))=true:=decide_eq_true c62
                          clear c62
                          obtain ⟨y195,hy195⟩ : ∃ y_ : List Int,y_=(x12_2.set (x13_2 : Int).toNat ((IntKind.u64.wrap (x15_32 - 1)) % 4294967296)):=⟨_,rfl⟩
                          replace H : (nat_long.l1 kj32 t160 t161 t194 (t161.length : Int) y195 (wrap64 (x13_2 - 1)))=some (r1,r2):=by first|(rw [hy195];with_reducible exact H)|(have H2_:=(Option.bind_some _ _).symm.trans H;rw [hy195];with_reducible exact H2_)|(have H2_:=(Option.bind_some _ _).symm.trans H;with_reducible exact H2_)|with_reducible exact H|(rw [hy195];exact H)|exact H
                          have Ny195:=Aside0.mk hy195
                          clear hy195
                          have H':=Aside0.mk H
                          clear H
                          obtain ⟨i064,hi064,_,hsz64,_⟩:=info_parts info82
                          have hq064 : (0 : Int)≤(x13_2 : Int):=(of_decide_eq_true (by first|(with_reducible assumption)|assumption))
                          have hq164 : (x13_2 : Int) < ((wrap64 ((wrap64 (x13_2+(t161.length : Int)))+1)) : Int):=(of_decide_eq_true (by first|(with_reducible assumption)|assumption))
                          have hq264 : ((wrap64 ((wrap64 (x13_2+(t161.length : Int)))+1)) : Int)≤((x9_2.length : Int) : Int):=(of_decide_eq_true (by first|(with_reducible assumption)|assumption))
                          (try rw [hji3] at hq064)
                          (try rw [hji3] at hq164)
                          (try rw [hji3] at hq264)
                          (try rw [hji16] at hq064)
                          (try rw [hji16] at hq164)
                          (try rw [hji16] at hq264)
                          (try rw [hji23] at hq064)
                          (try rw [hji23] at hq164)
                          (try rw [hji23] at hq264)
                          (try rw [hji26] at hq064)
                          (try rw [hji26] at hq164)
                          (try rw [hji26] at hq264)
                          (try rw [hji29] at hq064)
                          (try rw [hji29] at hq164)
                          (try rw [hji29] at hq264)
                          have hcut64:=cut_win (P:=Try.prog) 61 82 .i64 .i64 Try.underlying61 hi064 hsz64 (some ad185) x9_2.length co19 x13_2 (wrap64 (ji23+1)) hq064 hq164 hq264 (Kd.R_reads' HO_9.out).2.1
                          clear hi064 hsz64
                          replace hq064:=eq_true hq064
                          replace hq164:=eq_true hq164
                          replace hq264:=eq_true hq264
                          have hw65 : (0 : Int)≤(x13_2 : Int)∧(x13_2 : Int)+((t161.length : Int) : Int) < ((wrap64 ((wrap64 (x13_2+(t161.length : Int)))+1)) : Int)∧((wrap64 ((wrap64 (x13_2+(t161.length : Int)))+1)) : Int)≤(x9_2.length : Int):=⟨(of_decide_eq_true (by first|(with_reducible assumption)|assumption)),(of_decide_eq_true (by first|(with_reducible assumption)|assumption)),(of_decide_eq_true (by first|(with_reducible assumption)|assumption))⟩
                          (try rw [hji3] at hw65)
                          (try rw [hji16] at hw65)
                          (try rw [hji23] at hw65)
                          (try rw [hji26] at hw65)
                          (try rw [hji29] at hw65)
                          have HW65:=Aside0.mk hw65
                          clear hw65
                          go_wp2_with (first|((with_reducible refine gate_callee (f:=83) rfl ?_);refine goesL_ (some 142) rfl rfl Try.func83 (by kernel_rfl) rfl #[.slice (Option.map (fun a_=>a_.add (x13_2 : Int).toNat) (some ad185)) (((wrap64 (ji23+1)) : Int).toNat - (x13_2 : Int).toNat) (co19 - (x13_2 : Int).toNat),.slice (some ad187) t161.length co11,.int .u64 x15_32] rfl (by (try simp only [List.map_toArray,List.map_cons,List.map_nil]);first|done|(simp only [hji23];rfl)|rfl|(simp only [List.length_drop,List.length_take];rfl)) ?_;(with_reducible refine (nat_less.calls (fun k_=>some k_=(.slice (some ad185) x9_2.length co19 : Value).ownBlock) (.slice (some ad185) x9_2.length co19) x9_2 _ _ t161 x15_32 true t193 w _ ?side1 ?side2 ?side3 ?side4 (some ad185) x9_2.length co19 x13_2 (wrap64 (ji23+1)) rfl HW65.out A56.out).mono ?_);(case side1=>repeat (first|(with_reducible first|exact HB.out|apply below_alloc|apply pw_below_drewN|apply below_drew1)|exact HB.out));(case side2=>exact Kd.R_tight rfl HO_9.out);(case side3=>exact Kd.C_kept_own (HO_7.out) (fun k_ hk_ hs_=>(hk_.1) hs_));(case side4=>exact (Kd.R_reads' HO_7.out).2.1);rintro e w66 ⟨rfl,hy0,hb,hkp⟩;refine ⟨_,rfl,?_⟩;have n0_:=Aside0.mk (Kd.R_mono (ok':=fun k_=>some k_≠(.slice (some ad185) x9_2.length co19 : Value).ownBlock∧some k_≠(v173 : Value).ownBlock) (Kd.R_keptB (HO_7.out) hkp (fun k_ hk_ hs_=>(hk_.1) hs_)) (fun k_ hk_=>⟨hk_.1.1,hk_.1.2⟩));have n1_:=Aside0.mk (Kd.R_reok rfl hy0 (fun k_ e_=>HO_9.out.1 k_ e_));have n2_:=Aside0.mk (Kd.R_mono (ok':=fun k_=>some k_≠(.slice (some ad187) t161.length co11 : Value).ownBlock∧some k_≠(.slice (some ad185) x9_2.length co19 : Value).ownBlock) (Kd.R_keptB (HO_12.out) hkp (fun k_ hk_ hs_=>(hk_.2) hs_)) (fun k_ hk_=>⟨hk_.1.1,hk_.1.2⟩));have n3_:=Aside0.mk (hb);clear HO_7;clear HO_9;clear HO_12;clear HB;have HO_7:=n0_;have HO_9:=n1_;have HO_12:=n2_;have HB:=n3_;clear n0_ n1_ n2_ n3_;(try clear hb);(try clear hkp);(try clear hy0);obtain ⟨i067,hi067,_,hsz67,_⟩:=info_parts info82;have hq067 : (0 : Int)≤(x13_2 : Int):=(of_decide_eq_true (by first|(with_reducible assumption)|assumption));have hq167 : (x13_2 : Int) < ((wrap64 ((wrap64 (x13_2+(t161.length : Int)))+1)) : Int):=(of_decide_eq_true (by first|(with_reducible assumption)|assumption));have hq267 : ((wrap64 ((wrap64 (x13_2+(t161.length : Int)))+1)) : Int)≤((x9_2.length : Int) : Int):=(of_decide_eq_true (by first|(with_reducible assumption)|assumption));(try rw [hji3] at hq067);(try rw [hji3] at hq167);(try rw [hji3] at hq267);(try rw [hji16] at hq067);(try rw [hji16] at hq167);(try rw [hji16] at hq267);(try rw [hji23] at hq067);(try rw [hji23] at hq167);(try rw [hji23] at hq267);(try rw [hji26] at hq067);(try rw [hji26] at hq167);(try rw [hji26] at hq267);(try rw [hji29] at hq067);(try rw [hji29] at hq167);(try rw [hji29] at hq267);have hcut67:=cut_win (P:=Try.prog) 61 82 .i64 .i64 Try.underlying61 hi067 hsz67 (some ad185) x9_2.length co19 x13_2 (wrap64 (ji23+1)) hq067 hq167 hq267 (Kd.R_reads' HO_9.out).2.1;clear hi067 hsz67;replace hq067:=eq_true hq067;replace hq167:=eq_true hq167;replace hq267:=eq_true hq267;have hw68 : (0 : Int)≤(x13_2 : Int)∧(x13_2 : Int)+((t161.length : Int) : Int) < ((wrap64 ((wrap64 (x13_2+(t161.length : Int)))+1)) : Int)∧((wrap64 ((wrap64 (x13_2+(t161.length : Int)))+1)) : Int)≤(x9_2.length : Int):=⟨(of_decide_eq_true (by first|(with_reducible assumption)|assumption)),(of_decide_eq_true (by first|(with_reducible assumption)|assumption)),(of_decide_eq_true (by first|(with_reducible assumption)|assumption))⟩;(try rw [hji3] at hw68);(try rw [hji16] at hw68);(try rw [hji23] at hw68);(try rw [hji26] at hw68);(try rw [hji29] at hw68);have HW68:=Aside0.mk hw68;clear hw68)|((with_reducible refine gate_callee (f:=84) rfl ?_);refine goesL_ (some 153) rfl rfl Try.func84 (by kernel_rfl) rfl #[.slice (Option.map (fun a_=>a_.add (x13_2 : Int).toNat) (some ad185)) (((wrap64 (ji23+1)) : Int).toNat - (x13_2 : Int).toNat) (co19 - (x13_2 : Int).toNat),.slice (some ad187) t161.length co11] rfl (by (try simp only [List.map_toArray,List.map_cons,List.map_nil]);first|done|(simp only [hji23];rfl)|rfl|(simp only [List.length_drop,List.length_take];rfl)) ?_;(with_reducible refine (nat_back.calls (fun k_=>some k_=(.slice (some ad185) x9_2.length co19 : Value).ownBlock) (.slice (some ad185) x9_2.length co19) t193 _ _ t161 t194 w _ ?side1 ?side2 ?side3 ?side4 (some ad185) x9_2.length co19 x13_2 (wrap64 (ji23+1)) rfl HW68.out A61.out).mono ?_);(case side1=>repeat (first|(with_reducible first|exact HB.out|apply below_alloc|apply pw_below_drewN|apply below_drew1)|exact HB.out));(case side2=>exact Kd.R_tight rfl HO_9.out);(case side3=>exact Kd.C_kept_own (HO_7.out) (fun k_ hk_ hs_=>(hk_.1) hs_));(case side4=>exact (Kd.R_reads' HO_7.out).2.1);rintro e w69 ⟨rfl,hy0,hb,hkp⟩;refine ⟨_,rfl,?_⟩;have n0_:=Aside0.mk (Kd.R_mono (ok':=fun k_=>some k_≠(.slice (some ad185) x9_2.length co19 : Value).ownBlock∧some k_≠(v173 : Value).ownBlock) (Kd.R_keptB (HO_7.out) hkp (fun k_ hk_ hs_=>(hk_.1) hs_)) (fun k_ hk_=>⟨hk_.1.1,hk_.1.2⟩));have n1_:=Aside0.mk (Kd.R_reok rfl hy0 (fun k_ e_=>HO_9.out.1 k_ e_));have n2_:=Aside0.mk (Kd.R_mono (ok':=fun k_=>some k_≠(.slice (some ad187) t161.length co11 : Value).ownBlock∧some k_≠(.slice (some ad185) x9_2.length co19 : Value).ownBlock) (Kd.R_keptB (HO_12.out) hkp (fun k_ hk_ hs_=>(hk_.2) hs_)) (fun k_ hk_=>⟨hk_.1.1,hk_.1.2⟩));have n3_:=Aside0.mk (hb);clear HO_7;clear HO_9;clear HO_12;clear HB;have HO_7:=n0_;have HO_9:=n1_;have HO_12:=n2_;have HB:=n3_;clear n0_ n1_ n2_ n3_;(try clear hb);(try clear hkp);(try clear hy0);have p63 : 0≤(x13_2 : Int):=of_decide_eq_true (by first|(with_reducible assumption)|assumption);have q63 : (x13_2 : Int) < ((x12_2.length : Int) : Int):=of_decide_eq_true (by first|(with_reducible assumption)|assumption);obtain ⟨go63,co63,eo63,gb63,gl63,cl63,HG63⟩:=Kd.R_form HO_12.out (by omega);(first|cases eo63|(injection eo63 with ea_ en_ ec_;(first|subst ea_|(injection ea_ with ea_;subst ea_));subst ec_;clear en_));have GB63:=Aside0.mk gb63;have GG63:=Aside0.mk HG63;clear gb63 gl63 HG63;obtain ⟨hx63_0,hf63_0⟩:=Kd.R_celln 0 HO_12.out (x13_2 : Int) p63 q63;replace p63:=eq_true p63;replace q63:=eq_true q63;obtain ⟨hy70_,hz70_⟩:=Kd.R_celln 0 HO_12.out (x13_2 : Int) (of_decide_eq_true (by first|(with_reducible assumption)|assumption)) (of_decide_eq_true (by first|(with_reducible assumption)|assumption));have HP70:=Kd.R_putg HO_12.out (x13_2 : Int) ((IntKind.u64.wrap (x15_32 - 1)) % 4294967296))|((with_reducible refine gate_store (t:=82) (p:=158) rfl ?_);refine store_event (t:=82) (p:=158) (v:=?vo_w71) (w1:=(w69.setCell ⟨go63,(x13_2 : Int).toNat,none⟩ (.int .u32 ((IntKind.u64.wrap (x15_32 - 1)) % 4294967296)))) ?hg ?ho ?hn ?hr ?_;(case ho=>rfl);(case hg=>rfl);(case hn=>rfl);(case hr=>first|(go_simp;done)|(go_simp;(with_reducible rfl))|(go_simp;rfl)|(go_simp;have hu_ : ∀ x : Int,IntKind.u32.wrap x=HMod.hMod x (4294967296 : Int):=(fun x=>by simp only [IntKind.wrap,IntKind.bits,IntKind.signed];simp);simp only [hu_,Int.emod_sub_emod]));intro w71 hw;have hg : w69.grownBy w71 (some go63):=(by rw [hw];exact HP70.2);have hp_ : Kd.R (Kd.int .u32) 82 w71 w.heap.size (fun k_=>some k_≠(.slice (some ad187) t161.length co11 : Value).ownBlock∧some k_≠(.slice (some ad185) x9_2.length co19 : Value).ownBlock) (.slice (some ⟨go63,0,none⟩) x12_2.length co63) y195:=(by rw [hw,Ny195.out];exact HP70.1);clear HP70;have n0_:=Aside0.mk (Kd.R_after (v:=(.slice (some ⟨go63,0,none⟩) x12_2.length co63)) (v1:=(.slice (some ⟨go63,0,none⟩) x12_2.length co63)) (ok:=(fun k_=>some k_≠(.slice (some ad185) x9_2.length co19 : Value).ownBlock)) (by (with_reducible repeat (first|apply Kd.R_alloc|apply Kd.R_drewN|apply Kd.R_drew));exact HO_7.out) hg (.inl rfl));have n1_:=Aside0.mk (Kd.R_after (v:=(.slice (some ⟨go63,0,none⟩) x12_2.length co63)) (v1:=(.slice (some ⟨go63,0,none⟩) x12_2.length co63)) (ok:=(fun k_=>some k_≠(.slice (some ad187) t161.length co11 : Value).ownBlock)) (by (with_reducible repeat (first|apply Kd.R_alloc|apply Kd.R_drewN|apply Kd.R_drew));exact HO_9.out) hg (.inl rfl));have n2_:=Aside0.mk (hp_);have n3_:=Aside0.mk ((by rw [hw];exact below_set (HB.out) GB63.out : Below w.heap.size w w71));clear HO_7;clear HO_9;clear HO_12;clear HB;have HO_7:=n0_;have HO_9:=n1_;have HO_12:=n2_;have HB:=n3_;clear n0_ n1_ n2_ n3_;clear hg hw hp_))
                          (try simp only [← hl9_2])
                          go_roundg kj32
                          case measure=>have:=HK1.out;have:=HK2.out;have:=HJ32.out;omega
                          case rel=>exact ⟨(t194),(y195),(wrap64 (x13_2 - 1)),(by first|rfl|(simp;done)|(simp [*];done)),H',⟨by have:=HK1.out;have:=HK2.out;have:=HJ32.out;omega⟩,⟨by (try simp only [hl9_2]);(with_reducible repeat (first|apply Kd.R_alloc|apply Kd.R_drewN|apply Kd.R_drew));exact HO_7.out⟩,⟨by (try simp only [hl9_2]);(with_reducible repeat (first|apply Kd.R_alloc|apply Kd.R_drewN|apply Kd.R_drew));exact HO_9.out⟩,⟨by (try simp only [hl9_2]);(with_reducible repeat (first|apply Kd.R_alloc|apply Kd.R_drewN|apply Kd.R_drew));exact HO_12.out⟩,⟨by repeat (first|(with_reducible first|exact HB.out|apply below_alloc|apply pw_below_drewN|apply below_drew1)|exact HB.out)⟩⟩
                         ·rw [if_neg c62] at H
                          exact absurd H (by simp)
                        ·replace c57:=Bool.eq_false_iff.mpr c57
                         subst c57
                         have H1 : (if x13_2 < (x12_2.length : Int) then (nat_long.l1 kj32 t160 t161 t193 (t161.length : Int) (x12_2.set (x13_2 : Int).toNat ((x15_32) % 4294967296)) (wrap64 (x13_2 - 1))) else (none))=some (r1,r2):=by rw [if_neg (show ¬ (false=true) by decide)] at H;exact H
                         clear H
                         have H:=H1
                         clear H1
                         by_cases c72 : x13_2 < (x12_2.length : Int)
                         ·rw [if_pos c72] at H
                          have c72b0 : decide (x13_2 < (x12_2.length : Int))=true:=decide_eq_true c72
                          clear c72
                          obtain ⟨y196,hy196⟩ : ∃ y_ : List Int,y_=(x12_2.set (x13_2 : Int).toNat ((x15_32) % 4294967296)):=⟨_,rfl⟩
                          replace H : (nat_long.l1 kj32 t160 t161 t193 (t161.length : Int) y196 (wrap64 (x13_2 - 1)))=some (r1,r2):=by first|(rw [hy196];with_reducible exact H)|(have H2_:=(Option.bind_some _ _).symm.trans H;rw [hy196];with_reducible exact H2_)|(have H2_:=(Option.bind_some _ _).symm.trans H;with_reducible exact H2_)|with_reducible exact H|(rw [hy196];exact H)|exact H
                          have Ny196:=Aside0.mk hy196
                          clear hy196
                          have H':=Aside0.mk H
                          clear H
                          obtain ⟨i074,hi074,_,hsz74,_⟩:=info_parts info82
                          have hq074 : (0 : Int)≤(x13_2 : Int):=(of_decide_eq_true (by first|(with_reducible assumption)|assumption))
                          have hq174 : (x13_2 : Int) < ((wrap64 ((wrap64 (x13_2+(t161.length : Int)))+1)) : Int):=(of_decide_eq_true (by first|(with_reducible assumption)|assumption))
                          have hq274 : ((wrap64 ((wrap64 (x13_2+(t161.length : Int)))+1)) : Int)≤((x9_2.length : Int) : Int):=(of_decide_eq_true (by first|(with_reducible assumption)|assumption))
                          (try rw [hji3] at hq074)
                          (try rw [hji3] at hq174)
                          (try rw [hji3] at hq274)
                          (try rw [hji16] at hq074)
                          (try rw [hji16] at hq174)
                          (try rw [hji16] at hq274)
                          (try rw [hji23] at hq074)
                          (try rw [hji23] at hq174)
                          (try rw [hji23] at hq274)
                          (try rw [hji26] at hq074)
                          (try rw [hji26] at hq174)
                          (try rw [hji26] at hq274)
                          (try rw [hji29] at hq074)
                          (try rw [hji29] at hq174)
                          (try rw [hji29] at hq274)
                          have hcut74:=cut_win (P:=Try.prog) 61 82 .i64 .i64 Try.underlying61 hi074 hsz74 (some ad185) x9_2.length co19 x13_2 (wrap64 (ji23+1)) hq074 hq174 hq274 (Kd.R_reads' HO_9.out).2.1
                          clear hi074 hsz74
                          replace hq074:=eq_true hq074
                          replace hq174:=eq_true hq174
                          replace hq274:=eq_true hq274
                          have hw75 : (0 : Int)≤(x13_2 : Int)∧(x13_2 : Int)+((t161.length : Int) : Int) < ((wrap64 ((wrap64 (x13_2+(t161.length : Int)))+1)) : Int)∧((wrap64 ((wrap64 (x13_2+(t161.length : Int)))+1)) : Int)≤(x9_2.length : Int):=⟨(of_decide_eq_true (by first|(with_reducible assumption)|assumption)),(of_decide_eq_true (by first|(with_reducible assumption)|assumption)),(of_decide_eq_true (by first|(with_reducible assumption)|assumption))⟩
                          (try rw [hji3] at hw75)
                          (try rw [hji16] at hw75)
                          (try rw [hji23] at hw75)
                          (try rw [hji26] at hw75)
                          (try rw [hji29] at hw75)
                          have HW75:=Aside0.mk hw75
                          clear hw75
                          go_wp2_with (first|((with_reducible refine gate_callee (f:=83) rfl ?_);refine goesL_ (some 142) rfl rfl Try.func83 (by kernel_rfl) rfl #[.slice (Option.map (fun a_=>a_.add (x13_2 : Int).toNat) (some ad185)) (((wrap64 (ji23+1)) : Int).toNat - (x13_2 : Int).toNat) (co19 - (x13_2 : Int).toNat),.slice (some ad187) t161.length co11,.int .u64 x15_32] rfl (by (try simp only [List.map_toArray,List.map_cons,List.map_nil]);first|done|(simp only [hji23];rfl)|rfl|(simp only [List.length_drop,List.length_take];rfl)) ?_;(with_reducible refine (nat_less.calls (fun k_=>some k_=(.slice (some ad185) x9_2.length co19 : Value).ownBlock) (.slice (some ad185) x9_2.length co19) x9_2 _ _ t161 x15_32 false t193 w _ ?side1 ?side2 ?side3 ?side4 (some ad185) x9_2.length co19 x13_2 (wrap64 (ji23+1)) rfl HW75.out A56.out).mono ?_);(case side1=>repeat (first|(with_reducible first|exact HB.out|apply below_alloc|apply pw_below_drewN|apply below_drew1)|exact HB.out));(case side2=>exact Kd.R_tight rfl HO_9.out);(case side3=>exact Kd.C_kept_own (HO_7.out) (fun k_ hk_ hs_=>(hk_.1) hs_));(case side4=>exact (Kd.R_reads' HO_7.out).2.1);rintro e w76 ⟨rfl,hy0,hb,hkp⟩;refine ⟨_,rfl,?_⟩;have n0_:=Aside0.mk (Kd.R_mono (ok':=fun k_=>some k_≠(.slice (some ad185) x9_2.length co19 : Value).ownBlock∧some k_≠(v173 : Value).ownBlock) (Kd.R_keptB (HO_7.out) hkp (fun k_ hk_ hs_=>(hk_.1) hs_)) (fun k_ hk_=>⟨hk_.1.1,hk_.1.2⟩));have n1_:=Aside0.mk (Kd.R_reok rfl hy0 (fun k_ e_=>HO_9.out.1 k_ e_));have n2_:=Aside0.mk (Kd.R_mono (ok':=fun k_=>some k_≠(.slice (some ad187) t161.length co11 : Value).ownBlock∧some k_≠(.slice (some ad185) x9_2.length co19 : Value).ownBlock) (Kd.R_keptB (HO_12.out) hkp (fun k_ hk_ hs_=>(hk_.2) hs_)) (fun k_ hk_=>⟨hk_.1.1,hk_.1.2⟩));have n3_:=Aside0.mk (hb);clear HO_7;clear HO_9;clear HO_12;clear HB;have HO_7:=n0_;have HO_9:=n1_;have HO_12:=n2_;have HB:=n3_;clear n0_ n1_ n2_ n3_;(try clear hb);(try clear hkp);(try clear hy0);have p73 : 0≤(x13_2 : Int):=of_decide_eq_true (by first|(with_reducible assumption)|assumption);have q73 : (x13_2 : Int) < ((x12_2.length : Int) : Int):=of_decide_eq_true (by first|(with_reducible assumption)|assumption);obtain ⟨go73,co73,eo73,gb73,gl73,cl73,HG73⟩:=Kd.R_form HO_12.out (by omega);(first|cases eo73|(injection eo73 with ea_ en_ ec_;(first|subst ea_|(injection ea_ with ea_;subst ea_));subst ec_;clear en_));have GB73:=Aside0.mk gb73;have GG73:=Aside0.mk HG73;clear gb73 gl73 HG73;obtain ⟨hx73_0,hf73_0⟩:=Kd.R_celln 0 HO_12.out (x13_2 : Int) p73 q73;replace p73:=eq_true p73;replace q73:=eq_true q73;obtain ⟨hy77_,hz77_⟩:=Kd.R_celln 0 HO_12.out (x13_2 : Int) (of_decide_eq_true (by first|(with_reducible assumption)|assumption)) (of_decide_eq_true (by first|(with_reducible assumption)|assumption));have HP77:=Kd.R_putg HO_12.out (x13_2 : Int) ((x15_32) % 4294967296))|((with_reducible refine gate_store (t:=82) (p:=158) rfl ?_);refine store_event (t:=82) (p:=158) (v:=?vo_w78) (w1:=(w76.setCell ⟨go73,(x13_2 : Int).toNat,none⟩ (.int .u32 ((x15_32) % 4294967296)))) ?hg ?ho ?hn ?hr ?_;(case ho=>rfl);(case hg=>rfl);(case hn=>rfl);(case hr=>first|(go_simp;done)|(go_simp;(with_reducible rfl))|(go_simp;rfl)|(go_simp;have hu_ : ∀ x : Int,IntKind.u32.wrap x=HMod.hMod x (4294967296 : Int):=(fun x=>by simp only [IntKind.wrap,IntKind.bits,IntKind.signed];simp);simp only [hu_,Int.emod_sub_emod]));intro w78 hw;have hg : w76.grownBy w78 (some go73):=(by rw [hw];exact HP77.2);have hp_ : Kd.R (Kd.int .u32) 82 w78 w.heap.size (fun k_=>some k_≠(.slice (some ad187) t161.length co11 : Value).ownBlock∧some k_≠(.slice (some ad185) x9_2.length co19 : Value).ownBlock) (.slice (some ⟨go73,0,none⟩) x12_2.length co73) y196:=(by rw [hw,Ny196.out];exact HP77.1);clear HP77;have n0_:=Aside0.mk (Kd.R_after (v:=(.slice (some ⟨go73,0,none⟩) x12_2.length co73)) (v1:=(.slice (some ⟨go73,0,none⟩) x12_2.length co73)) (ok:=(fun k_=>some k_≠(.slice (some ad185) x9_2.length co19 : Value).ownBlock)) (by (with_reducible repeat (first|apply Kd.R_alloc|apply Kd.R_drewN|apply Kd.R_drew));exact HO_7.out) hg (.inl rfl));have n1_:=Aside0.mk (Kd.R_after (v:=(.slice (some ⟨go73,0,none⟩) x12_2.length co73)) (v1:=(.slice (some ⟨go73,0,none⟩) x12_2.length co73)) (ok:=(fun k_=>some k_≠(.slice (some ad187) t161.length co11 : Value).ownBlock)) (by (with_reducible repeat (first|apply Kd.R_alloc|apply Kd.R_drewN|apply Kd.R_drew));exact HO_9.out) hg (.inl rfl));have n2_:=Aside0.mk (hp_);have n3_:=Aside0.mk ((by rw [hw];exact below_set (HB.out) GB73.out : Below w.heap.size w w78));clear HO_7;clear HO_9;clear HO_12;clear HB;have HO_7:=n0_;have HO_9:=n1_;have HO_12:=n2_;have HB:=n3_;clear n0_ n1_ n2_ n3_;clear hg hw hp_))
                          (try simp only [← hl9_2])
                          go_roundg kj32
                          case measure=>have:=HK1.out;have:=HK2.out;have:=HJ32.out;omega
                          case rel=>exact ⟨(t193),(y196),(wrap64 (x13_2 - 1)),(by first|rfl|(simp;done)|(simp [*];done)),H',⟨by have:=HK1.out;have:=HK2.out;have:=HJ32.out;omega⟩,⟨by (try simp only [hl9_2]);(with_reducible repeat (first|apply Kd.R_alloc|apply Kd.R_drewN|apply Kd.R_drew));exact HO_7.out⟩,⟨by (try simp only [hl9_2]);(with_reducible repeat (first|apply Kd.R_alloc|apply Kd.R_drewN|apply Kd.R_drew));exact HO_9.out⟩,⟨by (try simp only [hl9_2]);(with_reducible repeat (first|apply Kd.R_alloc|apply Kd.R_drewN|apply Kd.R_drew));exact HO_12.out⟩,⟨by repeat (first|(with_reducible first|exact HB.out|apply below_alloc|apply pw_below_drewN|apply below_drew1)|exact HB.out)⟩⟩
                         ·rw [if_neg c72] at H
                          exact absurd H (by simp)
                       ·rw [if_neg c55] at H
                        exact absurd H (by simp)
                      ·rw [if_neg c54] at H
                       exact absurd H (by simp)
                     ·rw [if_neg c53] at H
                      exact absurd H (by simp)
                    ·rw [if_neg c52] at H
                     exact absurd H (by simp)
                ·rw [if_neg c31] at H
                 exact absurd H (by simp)
               ·rw [if_neg c30] at H
                exact absurd H (by simp)
              ·rw [if_neg c28] at H
               exact absurd H (by simp)
             ·rw [if_neg c27] at H
              exact absurd H (by simp)
            ·rw [if_neg c25] at H
             exact absurd H (by simp)
           ·rw [if_neg c24] at H
            exact absurd H (by simp)
          ·rw [if_neg c22] at H
           have c22b0 : decide (0≤x13_2)=false:=decide_eq_false c22
           clear c22
           replace H:=Option.bind_eq_some_iff.mp H
           obtain ⟨t175,A790,H⟩:=H
           replace H : (if 0≤(t161.length : Int) then (if (t161.length : Int)≤(x9_2.length : Int) then ((nat_shr.f k2 (x9_2.take ((t161.length : Int) : Int).toNat) t160).bind fun t182=>(some (t175,t182))) else (none)) else (none))=some (r1,r2):=H
           have A79:=Aside0.mk A790
           clear A790
           by_cases c80 : 0≤(t161.length : Int)
           ·rw [if_pos c80] at H
            have c80b0:=eq_true c80
            have c80b1 : decide (0≤(t161.length : Int))=true:=decide_eq_true c80
            clear c80
            by_cases c81 : (t161.length : Int)≤(x9_2.length : Int)
            ·rw [if_pos c81] at H
             have c81b0:=eq_true c81
             have c81b1 : decide ((t161.length : Int)≤(x9_2.length : Int))=true:=decide_eq_true c81
             clear c81
             obtain ⟨y178,hy178⟩ : ∃ y_ : List Int,y_=(x9_2.take ((t161.length : Int) : Int).toNat):=⟨_,rfl⟩
             replace H : ((nat_shr.f k2 y178 t160).bind fun t182=>(some (t175,t182)))=some (r1,r2):=by first|(rw [hy178];with_reducible exact H)|(have H2_:=(Option.bind_some _ _).symm.trans H;rw [hy178];with_reducible exact H2_)|(have H2_:=(Option.bind_some _ _).symm.trans H;with_reducible exact H2_)|with_reducible exact H|(rw [hy178];exact H)|exact H
             have Ny178:=Aside0.mk hy178
             clear hy178
             replace H:=Option.bind_eq_some_iff.mp H
             obtain ⟨t182,A820,H⟩:=H
             replace H : (some (t175,t182))=some (r1,r2):=H
             have A82:=Aside0.mk A820
             clear A820
             simp only [Option.some.injEq,Prod.mk.injEq] at H
             obtain ⟨rfl,rfl⟩:=H
             try go_wp2
             have n0_:=Aside0.mk (Kd.R_drew HO_7.out)
             have n1_:=Aside0.mk (Kd.R_drew HO_9.out)
             have n2_:=Aside0.mk (Kd.R_drew HO_12.out)
             have n3_:=Aside0.mk (below_drew1 HB.out)
             clear HO_7
             clear HO_9
             clear HO_12
             clear HB
             have HO_7:=n0_
             have HO_9:=n1_
             have HO_12:=n2_
             have HB:=n3_
             clear n0_ n1_ n2_ n3_
             have q84 : ((t161.length : Int) : Int)≤((x9_2.length : Int) : Int):=of_decide_eq_true (by first|(with_reducible assumption)|assumption)
             obtain ⟨i084,hi084,_,hsz84,_⟩:=info_parts info82
             have hroom84 : x9_2.length≤co19:=(Kd.R_reads' HO_9.out).2.1
             have hC84 : Kd.C (Kd.int .u32) _ Ao19 x9_2.length x9_2:=(Kd.R_reads' HO_9.out).2.2
             have hcut84:=cut_to (P:=Try.prog) 61 82 .i64 Try.underlying61 hi084 Ao19 x9_2.length co19 (t161.length : Int) (of_decide_eq_true (by first|(with_reducible assumption)|assumption)) q84 hroom84
             have hr84:=Kd.C_take (m:=((t161.length : Int) : Int).toNat) hC84 (by omega)
             have hy84 : y178.length=((t161.length : Int) : Int).toNat:=(by rw [Ny178.out,List.length_take];omega)
             rw [← Ny178.out] at hr84
             rw [← hy84] at hcut84
             have HR181:=Aside0.mk hr84
             have HC181:=Aside0.mk (show y178.length≤co19 from by omega)
             clear hr84 hC84 hroom84 hi084 hsz84
             have KY84:=Aside0.mk hy84
             clear hy84
             have KL84:=Aside0.mk (show ((t161.length : Int) : Int).toNat≤x9_2.length from by omega)
             replace q84:=eq_true q84
             obtain ⟨Ao85,co85,eo85⟩:=Kd.R_slice HO_12.out
             (first|subst eo85|(injection eo85 with f1_ f2_ f3_;have f4_:=f1_.symm;have f5_:=f3_.symm;clear f1_ f2_ f3_;subst f4_;subst f5_))
             refine start_ (n:=9) (S:=fun w'=>True) (ds:=[]) #[false,false,false,false,false,false,false,false,false] (by kernel_rfl) rfl rfl trivial (fun hHeld=>?_);refine with_tabW nat_long.tab21 nat_long.bits21 (fun HT_ HW_=>?_)
             generalize wr.drew=w83 at HO_7 HO_9 HO_12 HB HR181 hHeld ⊢
             refine pure_ (i:=0) (N:=some 159) (v:=?_) (a':=?_) #[true,false,false,false,false,false,false,false,false] rfl rfl (any_of HT_.out (by kernel_rfl)) (fun _ _ _ h=>h) (Or.inl ⟨by rfl,?_⟩) ?_ ?_
             rotate_left
             ·intro w'
              go_simp
              with_reducible rfl
             rotate_left
             ·simp only [Act.put,List.setIfInBounds_toArray,List.set_cons_zero,List.set_cons_succ,i64_w,i32_w]
              rfl
             refine pure_ (i:=2) (N:=some 161) (v:=?_) (a':=?_) #[true,false,true,false,false,false,false,false,false] rfl rfl (any_of HT_.out (by kernel_rfl)) (fun _ _ _ h=>h) (Or.inl ⟨by rfl,?_⟩) ?_ ?_
             rotate_left
             ·intro w'
              go_simp
              with_reducible rfl
             rotate_left
             ·simp only [Act.put,List.setIfInBounds_toArray,List.set_cons_zero,List.set_cons_succ,i64_w,i32_w]
              rfl
             refine pure_ (i:=3) (N:=some 162) (v:=?_) (a':=?_) #[true,false,true,true,false,false,false,false,false] rfl rfl (any_of HT_.out (by kernel_rfl)) (fun _ _ _ h=>h) (Or.inl ⟨by rfl,?_⟩) ?_ ?_
             rotate_left
             ·intro w'
              go_simp
              with_reducible rfl
             rotate_left
             ·simp only [Act.put,List.setIfInBounds_toArray,List.set_cons_zero,List.set_cons_succ,i64_w,i32_w]
              rfl
             refine pure_ (i:=4) (N:=some 163) (v:=?_) (a':=?_) #[true,false,true,true,true,false,false,false,false] rfl rfl (any_of HT_.out (by kernel_rfl)) (fun _ _ _ h=>h) (Or.inl ⟨by rfl,?_⟩) ?_ ?_
             rotate_left
             ·intro w'
              go_simp
              with_reducible rfl
             rotate_left
             ·simp only [Act.put,List.setIfInBounds_toArray,List.set_cons_zero,List.set_cons_succ,i64_w,i32_w]
              rfl
             refine pure_ (i:=5) (N:=some 164) (v:=?_) (a':=?_) #[true,false,true,true,true,true,false,false,false] rfl rfl (any_of HT_.out (by kernel_rfl)) (fun _ _ _ h=>h) (Or.inl ⟨by rfl,?_⟩) ?_ ?_
             rotate_left
             ·intro w'
              go_simp
              with_reducible rfl
             rotate_left
             ·simp only [Act.put,List.setIfInBounds_toArray,List.set_cons_zero,List.set_cons_succ,i64_w,i32_w]
              rfl
             refine one_ (i:=1) (N:=some 160) #[true,true,true,true,true,true,false,false,false] rfl rfl (one_of HT_.out (by kernel_rfl)) (by decide) (fun K hK=>?_)
             refine goes_ Try.func70 (by kernel_rfl) rfl #[.slice Ao85 x12_2.length co85] (by rfl) rfl rfl (by (try simp only [List.map_toArray,List.map_cons,List.map_nil]);first|done|rfl|(simp only [List.length_drop,List.length_take];rfl)) ?_
             with_reducible refine (nat_trim.calls _ _ x12_2 t175 _ ?side1 ?side2 A79.out).mono ?_
             (case side1=>repeat (first|exact (Kd.R_reads' HO_12.out).2.2|(with_reducible refine Kd.C_alloc ?_ _)|(with_reducible refine Kd.C_drewN ?_ _)|(with_reducible refine Kd.C_drew ?_)))
             (case side2=>exact (Kd.R_reads' HO_12.out).2.1)
             rintro e w' ⟨rfl,⟨nd,rfl⟩⟩
             refine ⟨_,rfl,?_⟩
             have HO177:=Aside0.mk (nat_trim.R HO_12.out A79.out)
             clear HO_12
             have n_:=HO_7.out
             (try rw [own_same Ao85 x12_2.length co85 t175.length t175.length] at n_)
             clear HO_7
             have HO_7:=Aside0.mk n_
             clear n_
             have n_:=HO_9.out
             (try rw [own_same Ao85 x12_2.length co85 t175.length t175.length] at n_)
             clear HO_9
             have HO_9:=Aside0.mk n_
             clear n_
             refine hK.out _ _ trivial (fun hHeld=>?_)
             clear hK K
             refine norm_ (a':=?_) ?_ ?_
             rotate_left
             ·show Act.put _ (some 160) _=_
              simp only [Act.put,List.setIfInBounds_toArray,List.set_cons_zero,List.set_cons_succ,i64_w,i32_w]
              rfl
             refine one_ (i:=6) (N:=some 165) #[true,true,true,true,true,true,true,false,false] rfl rfl (one_of HT_.out (by kernel_rfl)) (by decide) (fun K hK=>?_)
             refine goes_ Try.func85 (by kernel_rfl) rfl #[.slice Ao19 y178.length co19,.int .i64 t160] (by rfl) rfl rfl (by (try simp only [List.map_toArray,List.map_cons,List.map_nil]);first|done|rfl|(simp only [List.length_drop,List.length_take];rfl)) ?_
             with_reducible refine (nat_shr.calls k2 _ _ y178 t160 t182 _ ?side1 ?side2 A82.out).mono ?_
             (case side1=>repeat (first|exact (by repeat (first|(with_reducible exact HR181.out)|(with_reducible refine Kd.C_alloc ?_ _)|(with_reducible refine Kd.C_drewN ?_ _)|(with_reducible refine Kd.C_drew ?_)|exact HR181.out))|(with_reducible refine Kd.C_alloc ?_ _)|(with_reducible refine Kd.C_drewN ?_ _)|(with_reducible refine Kd.C_drew ?_)))
             (case side2=>exact HC181.out)
             rintro e w86 ⟨v183,rfl,ho0,hb⟩
             refine ⟨_,rfl,?_⟩
             have n0_:=Aside0.mk (Kd.R_elder' (by (with_reducible repeat (first|apply Kd.R_alloc|apply Kd.R_drewN|apply Kd.R_drew));exact HO_7.out) (Kd.R_base ho0) hb)
             have n1_:=Aside0.mk (Kd.R_elder' (by (with_reducible repeat (first|apply Kd.R_alloc|apply Kd.R_drewN|apply Kd.R_drew));exact HO_9.out) (Kd.R_base ho0) hb)
             have n2_:=Aside0.mk (Kd.R_elder' (by (with_reducible repeat (first|apply Kd.R_alloc|apply Kd.R_drewN|apply Kd.R_drew));exact HO177.out) (Kd.R_base ho0) hb)
             have n3_:=Aside0.mk (Kd.R_lower (Kd.R_new' (Kd.R_new' (Kd.R_new' ho0 (Kd.R_lt (by (with_reducible repeat (first|apply Kd.R_alloc|apply Kd.R_drewN|apply Kd.R_drew));exact HO_7.out))) (Kd.R_lt (by (with_reducible repeat (first|apply Kd.R_alloc|apply Kd.R_drewN|apply Kd.R_drew));exact HO_9.out))) (Kd.R_lt (by (with_reducible repeat (first|apply Kd.R_alloc|apply Kd.R_drewN|apply Kd.R_drew));exact HO177.out))) (below_size (by repeat (first|(with_reducible first|exact HB.out|apply below_alloc|apply pw_below_drewN|apply below_drew1)|exact HB.out))))
             have n4_:=Aside0.mk (Kd.C_below (by repeat (first|(with_reducible exact HR181.out)|(with_reducible refine Kd.C_alloc ?_ _)|(with_reducible refine Kd.C_drewN ?_ _)|(with_reducible refine Kd.C_drew ?_)|exact HR181.out)) hb)
             have n5_:=Aside0.mk (below_step (by repeat (first|(with_reducible first|exact HB.out|apply below_alloc|apply pw_below_drewN|apply below_drew1)|exact HB.out)) hb)
             clear HO_7
             clear HO_9
             clear HO177
             clear HR181
             clear HB
             have HO_7:=n0_
             have HO_9:=n1_
             have HO177:=n2_
             have HO184:=n3_
             have HR181:=n4_
             have HB:=n5_
             clear n0_ n1_ n2_ n3_ n4_ n5_
             (try clear hb)
             (try clear hb2)
             (try clear hk)
             (try clear hi)
             (try clear ho0)
             refine hK.out _ _ trivial (fun hHeld=>?_)
             clear hK K
             refine norm_ (a':=?_) ?_ ?_
             rotate_left
             ·show Act.put _ (some 165) _=_
              simp only [Act.put,List.setIfInBounds_toArray,List.set_cons_zero,List.set_cons_succ,i64_w,i32_w]
              rfl
             refine pure_ (i:=7) (N:=some 4) (v:=?_) (a':=?_) #[true,true,true,true,true,true,true,true,false] rfl rfl (any_of HT_.out (by kernel_rfl)) (fun _ _ _ h=>h) (Or.inl ⟨by rfl,?_⟩) ?_ ?_
             rotate_left
             ·intro w'
              go_simp
              with_reducible rfl
             rotate_left
             ·simp only [Act.put,List.setIfInBounds_toArray,List.set_cons_zero,List.set_cons_succ,i64_w,i32_w]
              rfl
             refine pure_ (i:=8) (N:=some 5) (v:=?_) (a':=?_) #[true,true,true,true,true,true,true,true,true] rfl rfl (any_of HT_.out (by kernel_rfl)) (fun _ _ _ h=>h) (Or.inl ⟨by rfl,?_⟩) ?_ ?_
             rotate_left
             ·intro w'
              go_simp
              with_reducible rfl
             rotate_left
             ·simp only [Act.put,List.setIfInBounds_toArray,List.set_cons_zero,List.set_cons_succ,i64_w,i32_w]
              rfl
             refine done_ (done_of HT_.out (by kernel_rfl)) ?_
             try go_wp2
             go_ret2
             exact ⟨_,_,by first|rfl|(simp [errW_none,errW_some] <;> rfl)|(simp only [← hji3,← hji16];first|rfl|(simp [errW_none,errW_some] <;> rfl))|(simp [*,errW_none,errW_some] <;> rfl),by (with_reducible repeat (first|apply Kd.R_alloc|apply Kd.R_drewN|apply Kd.R_drew));exact Kd.R_mono HO177.out (fun _ hk=>hk.2),by (with_reducible repeat (first|apply Kd.R_alloc|apply Kd.R_drewN|apply Kd.R_drew));exact Kd.R_mono HO184.out (fun _ hk=>hk.2),by repeat (first|(with_reducible first|exact HB.out|apply below_alloc|apply pw_below_drewN|apply below_drew1)|exact HB.out)⟩
            ·rw [if_neg c81] at H
             exact absurd H (by simp)
           ·rw [if_neg c80] at H
            exact absurd H (by simp)
       ·rw [if_neg c18] at H
        exact absurd H (by simp)
      ·rw [if_neg c17] at H
       exact absurd H (by simp)
  ·rw [if_neg c5] at H
   exact absurd H (by simp)
 ·rw [if_neg c4] at H
  exact absurd H (by simp)
theorem bits_Div32.out (a0 a1 : Int) (h0 : 0≤a0∧a0 < 4294967296) (h1 : 0≤a1∧a1 < 4294967296) : Go.bits .or .u64 (a0 * 4294967296) a1=a0 * 4294967296+a1 :=
 bits_join .u64 64 (Nat.le_refl _) (fun n h0 h1=>by simp only [IntKind.wrap,IntKind.bits,IntKind.signed];simp;omega) 32 _ _ (by omega) (by omega) (by omega) h1.1 h1.2 (by omega)
theorem bits_Div32.calls (a0 : Int) (a1 : Int) (a2 : Int) (r1 : Int) (r2 : Int) (w : World) (h : bits_Div32.f a0 a1 a2=some (r1,r2)) :
  Calls Try.prog 81 #[.int .u32 a0,.int .u32 a1,.int .u32 a2] w fun e w'=>e=.returned (.tuple #[.int .u32 r1,.int .u32 r2])∧Drawn0 w w':=by
 unfold bits_Div32.f at h
 by_cases hc : (0≤a0∧a0 < a2)∧(0≤a1∧a1 < 4294967296)∧a2 < 4294967296
 case neg=>rw [if_neg hc] at h;cases h
 rw [if_pos hc] at h
 simp only [Option.some.injEq,Prod.mk.injEq] at h
 obtain ⟨rfl,rfl⟩:=h
 obtain ⟨⟨h0,hlt⟩,⟨h1,h3⟩,h2⟩:=hc
 have hb:=bits_Div32.out a0 a1 ⟨h0,by omega⟩ ⟨h1,h3⟩
 have c1 : (a2 != 0)=true:=bne_iff_ne.mpr (by omega)
 have c1' : (a2 == 0)=false:=beq_eq_false_iff_ne.mpr (by omega)
 have c2 : decide (a2≤a0)=false:=decide_eq_false (by omega)
 have p2 : 0≤a2:=by omega
 have p0 : a0 < 4294967296:=by omega
 have hq : (a0 * 4294967296+a1) / a2 < 4294967296:=Int.ediv_lt_of_lt_mul (by omega) (by omega)
 have hr : (a0 * 4294967296+a1) % a2 < 4294967296:=Int.lt_trans (Int.emod_lt_of_pos _ (by omega)) h2
 have hr0 : 0≤(a0 * 4294967296+a1) % a2:=Int.emod_nonneg _ (by omega)
 have hq0 : 0≤(a0 * 4294967296+a1) / a2:=Int.ediv_nonneg (by omega) (by omega)
 go_enter Try.func81,Try.ntmps81
 go_wp2
 repeat (go_quiet (fail);try go_wp2)
 go_ret2
 exact ⟨by rfl,by repeat (first|exact Drawn0.refl _|apply Drawn0.step)⟩
theorem nat_small.calls (k : Nat) (A0 : Option Addr) (c0 : Nat) (l0 : List Int) (a1 : Int) (r1 : List Int) (r2 : List Int) (w : World) (hr0 : Kd.C (Kd.int .u32) w A0 l0.length l0) (hc0 : l0.length≤c0) (h : nat_small.f k l0 a1=some (r1,r2)) :
  Calls Try.prog 75 #[.slice A0 l0.length c0,.int .u32 a1] w fun e w'=>∃ v0_ v1_ : Value,e=.returned (.tuple #[v0_,v1_])∧Kd.R (Kd.int .u32) 82 w' w.heap.size (fun k_=>some k_≠(v1_ : Value).ownBlock) v0_ r1∧Kd.R (Kd.int .u32) 82 w' w.heap.size (fun k_=>some k_≠(v0_ : Value).ownBlock) v1_ r2∧Below w.heap.size w w':=by
 have HR0:=Aside0.mk hr0
 have HC0:=Aside0.mk hc0
 clear hr0 hc0
 have HB:=Aside0.mk (Below.refl w.heap.size w)
 have H : (if 0≤(l0.length : Int) then (if ((l0.length : Int) : Int).toNat≤70368744177664 then (nat_small.l0 k l0 a1 (List.replicate ((l0.length : Int) : Int).toNat 0) 0 (wrap64 ((l0.length : Int) - 1))) else (none)) else (none))=some (r1,r2):=h
 clear h
 by_cases c3 : 0≤(l0.length : Int)
 ·rw [if_pos c3] at H
  have c3b0:=eq_true c3
  have c3b1 : decide (0≤(l0.length : Int))=true:=decide_eq_true c3
  clear c3
  by_cases c4 : ((l0.length : Int) : Int).toNat≤70368744177664
  ·rw [if_pos c4] at H
   have c4b0:=eq_true c4
   have c4b1 : decide (((l0.length : Int) : Int).toNat≤70368744177664)=true:=decide_eq_true c4
   clear c4
   obtain ⟨y117,hy117⟩ : ∃ y_ : List Int,y_=(List.replicate ((l0.length : Int) : Int).toNat 0):=⟨_,rfl⟩
   replace H : (nat_small.l0 k l0 a1 y117 0 (wrap64 ((l0.length : Int) - 1)))=some (r1,r2):=by first|(rw [hy117];with_reducible exact H)|(have H2_:=(Option.bind_some _ _).symm.trans H;rw [hy117];with_reducible exact H2_)|(have H2_:=(Option.bind_some _ _).symm.trans H;with_reducible exact H2_)|with_reducible exact H|(rw [hy117];exact H)|exact H
   have Ny117:=Aside0.mk hy117
   clear hy117
   have H':=Aside0.mk H
   clear H
   go_enter Try.func75,Try.ntmps75
   go_wp2_with (first|((with_reducible refine gate_dst (N:=11) rfl ?_);refine Kd.R_make (Kd.int .u32) _ 82 rfl (N:=11) rfl 61 _ _ rfl (l0.length : Int) rfl rfl Try.underlying61 (.int .u32 0) 4 info82 rfl (by decide) (by omega) 0 (ok:=fun _=>True) (okp:=fun _=>True) rfl (fun _ hk=>hk) trivial (of_decide_eq_true (by first|(with_reducible assumption)|assumption)) (Nat.le_trans (Nat.mul_le_mul_right _ (of_decide_eq_true (by first|(with_reducible assumption)|assumption) : (l0.length : Int).toNat≤70368744177664)) (by omega)) (Below.refl _ _) (Nat.le_refl _) ?_;intro v118 w5 ho6 hb hg_ hnew_;clear hg_ hnew_;(first|rw [← Ny117.out] at ho6|(simp only [Int.reduceToNat] at ho6;rw [← Ny117.out] at ho6));have n0_:=Aside0.mk (Kd.R_lower ho6 (below_size (by repeat (first|(with_reducible first|exact HB.out|apply below_alloc|apply pw_below_drewN|apply below_drew1)|exact HB.out))));have n1_:=Aside0.mk (below_step (by repeat (first|(with_reducible first|exact HB.out|apply below_alloc|apply pw_below_drewN|apply below_drew1)|exact HB.out)) hb);clear HB;have HO119:=n0_;have HB:=n1_;clear n0_ n1_;clear hb ho6))
   go_loopg [7,8] k (fun kq v7 v8 w'=>∃ (x6_1 : List Int) (x7_1 : Int) (x8_1 : Int),v7=.int .u32 x7_1∧v8=.int .i64 x8_1∧Aside0 (nat_small.l0 kq l0 a1 x6_1 x7_1 x8_1=some (r1,r2))∧Aside0 (kq≤k)∧Aside0 (Kd.R (Kd.int .u32) 82 w' w.heap.size (fun _=>True) v118 x6_1)∧Aside0 (Below w.heap.size w w'))
   case atStart=>exact ⟨(y117),(0),(wrap64 ((l0.length : Int) - 1)),(by first|rfl|(simp;done)|(simp [*];done)),(by first|rfl|(simp;done)|(simp [*];done)),H',⟨Nat.le_refl _⟩,⟨by (with_reducible repeat (first|apply Kd.R_alloc|apply Kd.R_drewN|apply Kd.R_drew));exact HO119.out⟩,⟨by repeat (first|(with_reducible first|exact HB.out|apply below_alloc|apply pw_below_drewN|apply below_drew1)|exact HB.out)⟩⟩
   case round =>
    clear H'
    try clear p2
    try clear c3
    try clear c3b0
    try clear c3b1
    try clear c4
    try clear c4b0
    try clear c4b1
    try clear p6
    obtain ⟨x6_1,x7_1,x8_1,rfl,rfl,HA,HK1,HO_6,HB⟩:=hrel
    cases gk with
   |zero=>exact absurd HA.out (by simp [nat_small.l0])
   |succ k1 =>
     have H:=HA.out
     clear HA
     simp only [nat_small.l0] at H
     by_cases c7 : x8_1 ≥ 0
     ·rw [if_pos c7] at H
      have c7b0 : decide (0≤x8_1)=true:=decide_eq_true c7
      clear c7
      by_cases c8 : 0≤x8_1
      ·rw [if_pos c8] at H
       have c8b0 : decide (0≤x8_1)=true:=decide_eq_true c8
       clear c8
       by_cases c9 : x8_1 < (l0.length : Int)
       ·rw [if_pos c9] at H
        have c9b0 : decide (x8_1 < (l0.length : Int))=true:=decide_eq_true c9
        clear c9
        replace H:=Option.bind_eq_some_iff.mp H
        obtain ⟨⟨t121,t122⟩,A100,H⟩:=H
        replace H : (if x8_1 < (x6_1.length : Int) then (nat_small.l0 k1 l0 a1 (x6_1.set (x8_1 : Int).toNat t121) t122 (wrap64 (x8_1 - 1))) else (none))=some (r1,r2):=H
        have A10:=Aside0.mk A100
        clear A100
        by_cases c11 : x8_1 < (x6_1.length : Int)
        ·rw [if_pos c11] at H
         have c11b0 : decide (x8_1 < (x6_1.length : Int))=true:=decide_eq_true c11
         clear c11
         obtain ⟨y123,hy123⟩ : ∃ y_ : List Int,y_=(x6_1.set (x8_1 : Int).toNat t121):=⟨_,rfl⟩
         replace H : (nat_small.l0 k1 l0 a1 y123 t122 (wrap64 (x8_1 - 1)))=some (r1,r2):=by first|(rw [hy123];with_reducible exact H)|(have H2_:=(Option.bind_some _ _).symm.trans H;rw [hy123];with_reducible exact H2_)|(have H2_:=(Option.bind_some _ _).symm.trans H;with_reducible exact H2_)|with_reducible exact H|(rw [hy123];exact H)|exact H
         have Ny123:=Aside0.mk hy123
         clear hy123
         have H':=Aside0.mk H
         clear H
         have p120 : 0≤(x8_1 : Int):=of_decide_eq_true (by first|(with_reducible assumption)|assumption)
         have q120 : x8_1 < (l0.length : Int):=of_decide_eq_true (by first|(with_reducible assumption)|assumption)
         obtain ⟨ad120,e120,hx120_0⟩:=Kd.at_int HR0.out x8_1 p120 q120
         cases e120
         replace hx120_0:=(HB.out.cell (World.block_lt_of_cell? w _ hx120_0)).trans hx120_0
         replace p120:=eq_true p120
         replace q120:=eq_true q120
         go_wp2_with (first|((with_reducible refine gate_callee (f:=81) rfl ?_);refine goesL_ (some 28) rfl rfl Try.func81 (by kernel_rfl) rfl #[.int .u32 x7_1,.int .u32 (rd l0 x8_1),.int .u32 a1] rfl (by (try simp only [List.map_toArray,List.map_cons,List.map_nil]);first|done|rfl|(simp only [List.length_drop,List.length_take];rfl)) ?_;(with_reducible refine (bits_Div32.calls x7_1 (rd l0 x8_1) a1 t121 t122 _ A10.out).mono ?_);rintro e w' ⟨rfl,⟨nd,rfl⟩⟩;refine ⟨_,rfl,?_⟩;(try (rw [drewN_self wr];generalize hq_ : World.drewN wr _=wr;have n0_ : Aside0 (Kd.R (Kd.int .u32) 82 wr w.heap.size (fun _=>True) v118 x6_1):=⟨by rw [← hq_];exact (by (with_reducible repeat (first|apply Kd.R_alloc|apply Kd.R_drewN|apply Kd.R_drew));exact HO_6.out)⟩;have n1_ : Aside0 (Below w.heap.size w wr):=⟨by rw [← hq_];exact (by repeat (first|(with_reducible first|exact HB.out|apply below_alloc|apply pw_below_drewN|apply below_drew1)|exact HB.out))⟩;clear HO_6 HB hq_;have HO_6:=n0_;have HB:=n1_;clear n0_ n1_));have p12 : 0≤(x8_1 : Int):=of_decide_eq_true (by first|(with_reducible assumption)|assumption);have q12 : (x8_1 : Int) < ((x6_1.length : Int) : Int):=of_decide_eq_true (by first|(with_reducible assumption)|assumption);obtain ⟨go12,co12,eo12,gb12,gl12,cl12,HG12⟩:=Kd.R_form HO_6.out (by omega);(first|cases eo12|(injection eo12 with ea_ en_ ec_;(first|subst ea_|(injection ea_ with ea_;subst ea_));subst ec_;clear en_));have GB12:=Aside0.mk gb12;have GG12:=Aside0.mk HG12;clear gb12 gl12 HG12;obtain ⟨hx12_0,hf12_0⟩:=Kd.R_celln 0 HO_6.out (x8_1 : Int) p12 q12;replace p12:=eq_true p12;replace q12:=eq_true q12;obtain ⟨hy13_,hz13_⟩:=Kd.R_celln 0 HO_6.out (x8_1 : Int) (of_decide_eq_true (by first|(with_reducible assumption)|assumption)) (of_decide_eq_true (by first|(with_reducible assumption)|assumption));have HP13:=Kd.R_putg HO_6.out (x8_1 : Int) t121)|((with_reducible refine gate_store (t:=82) (p:=31) rfl ?_);refine store_event (t:=82) (p:=31) (v:=?vo_w14) (w1:=(wr.setCell ⟨go12,(x8_1 : Int).toNat,none⟩ (.int .u32 t121))) ?hg ?ho ?hn ?hr ?_;(case ho=>rfl);(case hg=>rfl);(case hn=>rfl);(case hr=>first|(go_simp;done)|(go_simp;(with_reducible rfl))|(go_simp;rfl)|(go_simp;have hu_ : ∀ x : Int,IntKind.u32.wrap x=HMod.hMod x (4294967296 : Int):=(fun x=>by simp only [IntKind.wrap,IntKind.bits,IntKind.signed];simp);simp only [hu_,Int.emod_sub_emod]));intro w14 hw;have hg : wr.grownBy w14 (some go12):=(by rw [hw];exact HP13.2);have hp_ : Kd.R (Kd.int .u32) 82 w14 w.heap.size (fun _=>True) (.slice (some ⟨go12,0,none⟩) x6_1.length co12) y123:=(by rw [hw,Ny123.out];exact HP13.1);clear HP13;have n0_:=Aside0.mk (hp_);have n1_:=Aside0.mk ((by rw [hw];exact below_set (HB.out) GB12.out : Below w.heap.size w w14));clear HO_6;clear HB;have HO_6:=n0_;have HB:=n1_;clear n0_ n1_;clear hg hw hp_))
         go_roundg k1
         case measure=>have:=HK1.out;omega
         case rel=>exact ⟨(y123),(t122),(wrap64 (x8_1 - 1)),(by first|rfl|(simp;done)|(simp [*];done)),(by first|rfl|(simp;done)|(simp [*];done)),H',⟨by have:=HK1.out;omega⟩,⟨by (with_reducible repeat (first|apply Kd.R_alloc|apply Kd.R_drewN|apply Kd.R_drew));exact HO_6.out⟩,⟨by repeat (first|(with_reducible first|exact HB.out|apply below_alloc|apply pw_below_drewN|apply below_drew1)|exact HB.out)⟩⟩
        ·rw [if_neg c11] at H
         exact absurd H (by simp)
       ·rw [if_neg c9] at H
        exact absurd H (by simp)
      ·rw [if_neg c8] at H
       exact absurd H (by simp)
     ·rw [if_neg c7] at H
      have c7b0 : decide (0≤x8_1)=false:=decide_eq_false c7
      clear c7
      replace H:=Option.bind_eq_some_iff.mp H
      obtain ⟨t124,A150,H⟩:=H
      replace H : ((nat_trim.f (([x7_1] : List Int))).bind fun t130=>(some (t124,t130)))=some (r1,r2):=H
      have A15:=Aside0.mk A150
      clear A150
      obtain ⟨y127,hy127⟩ : ∃ y_ : List Int,y_=(([x7_1] : List Int)):=⟨_,rfl⟩
      replace H : ((nat_trim.f y127).bind fun t130=>(some (t124,t130)))=some (r1,r2):=by first|(rw [hy127];with_reducible exact H)|(have H2_:=(Option.bind_some _ _).symm.trans H;rw [hy127];with_reducible exact H2_)|(have H2_:=(Option.bind_some _ _).symm.trans H;with_reducible exact H2_)|with_reducible exact H|(rw [hy127];exact H)|exact H
      have Ny127:=Aside0.mk hy127
      clear hy127
      replace H:=Option.bind_eq_some_iff.mp H
      obtain ⟨t130,A160,H⟩:=H
      replace H : (some (t124,t130))=some (r1,r2):=H
      have A16:=Aside0.mk A160
      clear A160
      simp only [Option.some.injEq,Prod.mk.injEq] at H
      obtain ⟨rfl,rfl⟩:=H
      obtain ⟨Ao17,co17,eo17⟩:=Kd.R_slice HO_6.out
      subst eo17
      go_wp2_with (first|((with_reducible refine gate_callee (f:=70) rfl ?_);refine goesL_ (some 33) rfl rfl Try.func70 (by kernel_rfl) rfl #[.slice Ao17 x6_1.length co17] rfl (by (try simp only [List.map_toArray,List.map_cons,List.map_nil]);first|done|rfl|(simp only [List.length_drop,List.length_take];rfl)) ?_;(with_reducible refine (nat_trim.calls _ _ x6_1 t124 _ ?side1 ?side2 A15.out).mono ?_);(case side1=>repeat (first|exact (Kd.R_reads' HO_6.out).2.2|(with_reducible refine Kd.C_alloc ?_ _)|(with_reducible refine Kd.C_drewN ?_ _)|(with_reducible refine Kd.C_drew ?_)));(case side2=>exact (Kd.R_reads' HO_6.out).2.1);rintro e w' ⟨rfl,⟨nd,rfl⟩⟩;refine ⟨_,rfl,?_⟩;have HO126:=Aside0.mk (nat_trim.R HO_6.out A15.out);clear HO_6)|((with_reducible refine gate_dst (N:=35) rfl ?_);refine Kd.R_lit (Kd.int .u32) _ 82 ?hg (N:=35) ?hd (xs:=([x7_1] : List Int)) (inner:=[.int .u32 x7_1]) (ok:=fun _=>True) (okp:=fun _=>True) ?hr ?hp (fun _ hk=>hk) trivial (Below.refl _ _) (Nat.le_refl _) (by simp) ?_;(case hd=>rfl);(case hg=>rfl);(case hr=>first|(go_simp;done)|(go_simp;(with_reducible rfl))|(go_simp;rfl)|(go_simp;have hu_ : ∀ x : Int,IntKind.u32.wrap x=HMod.hMod x (4294967296 : Int):=(fun x=>by simp only [IntKind.wrap,IntKind.bits,IntKind.signed];simp);simp only [hu_,Int.emod_sub_emod]));(case hp=>exact (Reps.one (show Kd.M (Kd.int .u32) _ _ _ x7_1 [.int .u32 x7_1] from rfl) (Reps.none _ _)));intro v128 w18 ho19 hb hg_ hnew_;clear hg_ hnew_;(first|rw [← Ny127.out] at ho19|(simp only [Int.reduceToNat] at ho19;rw [← Ny127.out] at ho19));have n0_:=Aside0.mk (Kd.R_elder' (by (with_reducible repeat (first|apply Kd.R_alloc|apply Kd.R_drewN|apply Kd.R_drew));exact HO126.out) (Kd.R_base ho19) hb);have n1_:=Aside0.mk (Kd.R_lower (Kd.R_new' ho19 (Kd.R_lt (by (with_reducible repeat (first|apply Kd.R_alloc|apply Kd.R_drewN|apply Kd.R_drew));exact HO126.out))) (below_size (by repeat (first|(with_reducible first|exact HB.out|apply below_alloc|apply pw_below_drewN|apply below_drew1)|exact HB.out))));have n2_:=Aside0.mk (below_step (by repeat (first|(with_reducible first|exact HB.out|apply below_alloc|apply pw_below_drewN|apply below_drew1)|exact HB.out)) hb);clear HO126;clear HB;have HO126:=n0_;have HO129:=n1_;have HB:=n2_;clear n0_ n1_ n2_;clear hb ho19;obtain ⟨Ao20,co20,eo20⟩:=Kd.R_slice HO129.out;subst eo20)|((with_reducible refine gate_callee (f:=70) rfl ?_);refine goesL_ (some 36) rfl rfl Try.func70 (by kernel_rfl) rfl #[.slice Ao20 y127.length co20] rfl (by (try simp only [List.map_toArray,List.map_cons,List.map_nil]);first|done|rfl|(simp only [List.length_drop,List.length_take];rfl)) ?_;(with_reducible refine (nat_trim.calls _ _ y127 t130 _ ?side1 ?side2 A16.out).mono ?_);(case side1=>repeat (first|exact (Kd.R_reads' HO129.out).2.2|(with_reducible refine Kd.C_alloc ?_ _)|(with_reducible refine Kd.C_drewN ?_ _)|(with_reducible refine Kd.C_drew ?_)));(case side2=>exact (Kd.R_reads' HO129.out).2.1);rintro e w' ⟨rfl,⟨nd,rfl⟩⟩;refine ⟨_,rfl,?_⟩;have HO132:=Aside0.mk (nat_trim.R HO129.out A16.out);clear HO129;have n_:=HO126.out;(try rw [own_same Ao20 y127.length co20 t130.length t130.length] at n_);clear HO126;have HO126:=Aside0.mk n_;clear n_))
      go_ret2
      exact ⟨_,_,by first|rfl|(simp [errW_none,errW_some] <;> rfl)|(simp [*,errW_none,errW_some] <;> rfl),by (with_reducible repeat (first|apply Kd.R_alloc|apply Kd.R_drewN|apply Kd.R_drew));exact Kd.R_mono HO126.out (fun _ hk=>hk.2),by (with_reducible repeat (first|apply Kd.R_alloc|apply Kd.R_drewN|apply Kd.R_drew));exact Kd.R_mono HO132.out (fun _ hk=>hk.2),by repeat (first|(with_reducible first|exact HB.out|apply below_alloc|apply pw_below_drewN|apply below_drew1)|exact HB.out)⟩
  ·rw [if_neg c4] at H
   exact absurd H (by simp)
 ·rw [if_neg c3] at H
  exact absurd H (by simp)
theorem nat_DivMod.calls (k : Nat) (A0 : Option Addr) (c0 : Nat) (l0 : List Int) (A1 : Option Addr) (c1 : Nat) (l1 : List Int) (r1 : List Int) (r2 : List Int) (r3 : Bool) (w : World) (hr0 : Kd.C (Kd.int .u32) w A0 l0.length l0) (hc0 : l0.length≤c0) (hr1 : Kd.C (Kd.int .u32) w A1 l1.length l1) (hc1 : l1.length≤c1) (h : nat_DivMod.f k l0 l1=some (r1,r2,r3)) :
  Calls Try.prog 62 #[.slice A0 l0.length c0,.slice A1 l1.length c1] w fun e w'=>∃ v0_ v1_ : Value,e=.returned (.tuple #[v0_,v1_,.bool r3])∧Kd.R (Kd.int .u32) 82 w' w.heap.size (fun k_=>some k_≠(v1_ : Value).ownBlock) v0_ r1∧Kd.R (Kd.int .u32) 82 w' w.heap.size (fun k_=>some k_≠(v0_ : Value).ownBlock) v1_ r2∧Below w.heap.size w w':=by
 have HR0:=Aside0.mk hr0
 have HC0:=Aside0.mk hc0
 clear hr0 hc0
 have HR1:=Aside0.mk hr1
 have HC1:=Aside0.mk hc1
 clear hr1 hc1
 have HB:=Aside0.mk (Below.refl w.heap.size w)
 have H : ((nat_trim.f l0).bind fun t197=>((nat_trim.f l1).bind fun t199=>(if (t199.length : Int)=0 then (some (([] : List Int),([] : List Int),false)) else ((nat_Cmp.f k t197 t199).bind fun t201=>(if t201 < 0 then ((nat_Norm.f t197).bind fun t202=>(some (([] : List Int),t202,true))) else (if (t199.length : Int)=1 then (if 0 < (t199.length : Int) then ((nat_small.f k t197 (rd t199 0)).bind fun bt206=>(some (bt206.1,bt206.2,true))) else (none)) else ((nat_long.f k t197 t199).bind fun bt212=>(some (bt212.1,bt212.2,true)))))))))=some (r1,r2,r3):=h
 clear h
 replace H:=Option.bind_eq_some_iff.mp H
 obtain ⟨t197,A30,H⟩:=H
 replace H : ((nat_trim.f l1).bind fun t199=>(if (t199.length : Int)=0 then (some (([] : List Int),([] : List Int),false)) else ((nat_Cmp.f k t197 t199).bind fun t201=>(if t201 < 0 then ((nat_Norm.f t197).bind fun t202=>(some (([] : List Int),t202,true))) else (if (t199.length : Int)=1 then (if 0 < (t199.length : Int) then ((nat_small.f k t197 (rd t199 0)).bind fun bt206=>(some (bt206.1,bt206.2,true))) else (none)) else ((nat_long.f k t197 t199).bind fun bt212=>(some (bt212.1,bt212.2,true))))))))=some (r1,r2,r3):=H
 have A3:=Aside0.mk A30
 clear A30
 replace H:=Option.bind_eq_some_iff.mp H
 obtain ⟨t199,A40,H⟩:=H
 replace H : (if (t199.length : Int)=0 then (some (([] : List Int),([] : List Int),false)) else ((nat_Cmp.f k t197 t199).bind fun t201=>(if t201 < 0 then ((nat_Norm.f t197).bind fun t202=>(some (([] : List Int),t202,true))) else (if (t199.length : Int)=1 then (if 0 < (t199.length : Int) then ((nat_small.f k t197 (rd t199 0)).bind fun bt206=>(some (bt206.1,bt206.2,true))) else (none)) else ((nat_long.f k t197 t199).bind fun bt212=>(some (bt212.1,bt212.2,true)))))))=some (r1,r2,r3):=H
 have A4:=Aside0.mk A40
 clear A40
 by_cases c5 : (t199.length : Int)=0
 ·rw [if_pos c5] at H
  have c5b0 : ((t199.length : Int) == 0)=true:=beq_iff_eq.mpr c5
  have c5b1 : ((t199.length : Int) != 0)=false:=bne_eq_false_iff_eq.mpr c5
  clear c5
  simp only [Option.some.injEq,Prod.mk.injEq] at H
  obtain ⟨rfl,rfl,rfl⟩:=H
  go_enter Try.func62,Try.ntmps62
  go_wp2_with (first|((with_reducible refine gate_callee (f:=70) rfl ?_);refine goesL_ (some 12) rfl rfl Try.func70 (by kernel_rfl) rfl #[.slice A0 l0.length c0] rfl (by (try simp only [List.map_toArray,List.map_cons,List.map_nil]);first|done|rfl|(simp only [List.length_drop,List.length_take];rfl)) ?_;(with_reducible refine (nat_trim.calls _ _ l0 t197 _ ?side1 ?side2 A3.out).mono ?_);(case side1=>repeat (first|exact HR0.out|(with_reducible refine Kd.C_alloc ?_ _)|(with_reducible refine Kd.C_drewN ?_ _)|(with_reducible refine Kd.C_drew ?_)));(case side2=>exact HC0.out);rintro e w' ⟨rfl,⟨nd,rfl⟩⟩;refine ⟨_,rfl,?_⟩;have HR198:=Aside0.mk (nat_trim.C HR0.out A3.out);have HC198:=Aside0.mk (Nat.le_refl t197.length))|((with_reducible refine gate_callee (f:=70) rfl ?_);refine goesL_ (some 14) rfl rfl Try.func70 (by kernel_rfl) rfl #[.slice A1 l1.length c1] rfl (by (try simp only [List.map_toArray,List.map_cons,List.map_nil]);first|done|rfl|(simp only [List.length_drop,List.length_take];rfl)) ?_;(with_reducible refine (nat_trim.calls _ _ l1 t199 _ ?side1 ?side2 A4.out).mono ?_);(case side1=>repeat (first|exact HR1.out|(with_reducible refine Kd.C_alloc ?_ _)|(with_reducible refine Kd.C_drewN ?_ _)|(with_reducible refine Kd.C_drew ?_)));(case side2=>exact HC1.out);rintro e w' ⟨rfl,⟨nd,rfl⟩⟩;refine ⟨_,rfl,?_⟩;have HR200:=Aside0.mk (nat_trim.C HR1.out A4.out);have HC200:=Aside0.mk (Nat.le_refl t199.length)))
  go_ret3
  exact ⟨_,_,by first|rfl|(simp [errW_none,errW_some] <;> rfl)|(simp [*,errW_none,errW_some] <;> rfl),by first|exact Kd.R_nil _ _ _ _ _|exact Kd.N_nil _ _ _ _ _|exact Kd.V_nil _ _ _ _ _|exact Kd.Q_nil _ _ _ _ _|exact Kd.S_nil _ _ _ _ _,by first|exact Kd.R_nil _ _ _ _ _|exact Kd.N_nil _ _ _ _ _|exact Kd.V_nil _ _ _ _ _|exact Kd.Q_nil _ _ _ _ _|exact Kd.S_nil _ _ _ _ _,by repeat (first|(with_reducible first|exact HB.out|apply below_alloc|apply pw_below_drewN|apply below_drew1)|exact HB.out)⟩
 ·rw [if_neg c5] at H
  have c5b0 : ((t199.length : Int) == 0)=false:=beq_eq_false_iff_ne.mpr c5
  have c5b1 : ((t199.length : Int) != 0)=true:=bne_iff_ne.mpr c5
  have c5b2 : ¬ (t199=[]):=fun h_=>c5 (by rw [h_];rfl)
  replace H:=Option.bind_eq_some_iff.mp H
  obtain ⟨t201,A60,H⟩:=H
  replace H : (if t201 < 0 then ((nat_Norm.f t197).bind fun t202=>(some (([] : List Int),t202,true))) else (if (t199.length : Int)=1 then (if 0 < (t199.length : Int) then ((nat_small.f k t197 (rd t199 0)).bind fun bt206=>(some (bt206.1,bt206.2,true))) else (none)) else ((nat_long.f k t197 t199).bind fun bt212=>(some (bt212.1,bt212.2,true)))))=some (r1,r2,r3):=H
  have A6:=Aside0.mk A60
  clear A60
  by_cases c7 : t201 < 0
  ·rw [if_pos c7] at H
   have c7b0 : decide (t201 < 0)=true:=decide_eq_true c7
   clear c7
   replace H:=Option.bind_eq_some_iff.mp H
   obtain ⟨t202,A80,H⟩:=H
   replace H : (some (([] : List Int),t202,true))=some (r1,r2,r3):=H
   have A8:=Aside0.mk A80
   clear A80
   simp only [Option.some.injEq,Prod.mk.injEq] at H
   obtain ⟨rfl,rfl,rfl⟩:=H
   go_enter Try.func62,Try.ntmps62
   go_wp2_with (first|((with_reducible refine gate_callee (f:=70) rfl ?_);refine goesL_ (some 12) rfl rfl Try.func70 (by kernel_rfl) rfl #[.slice A0 l0.length c0] rfl (by (try simp only [List.map_toArray,List.map_cons,List.map_nil]);first|done|rfl|(simp only [List.length_drop,List.length_take];rfl)) ?_;(with_reducible refine (nat_trim.calls _ _ l0 t197 _ ?side1 ?side2 A3.out).mono ?_);(case side1=>repeat (first|exact HR0.out|(with_reducible refine Kd.C_alloc ?_ _)|(with_reducible refine Kd.C_drewN ?_ _)|(with_reducible refine Kd.C_drew ?_)));(case side2=>exact HC0.out);rintro e w' ⟨rfl,⟨nd,rfl⟩⟩;refine ⟨_,rfl,?_⟩;have HR198:=Aside0.mk (nat_trim.C HR0.out A3.out);have HC198:=Aside0.mk (Nat.le_refl t197.length))|((with_reducible refine gate_callee (f:=70) rfl ?_);refine goesL_ (some 14) rfl rfl Try.func70 (by kernel_rfl) rfl #[.slice A1 l1.length c1] rfl (by (try simp only [List.map_toArray,List.map_cons,List.map_nil]);first|done|rfl|(simp only [List.length_drop,List.length_take];rfl)) ?_;(with_reducible refine (nat_trim.calls _ _ l1 t199 _ ?side1 ?side2 A4.out).mono ?_);(case side1=>repeat (first|exact HR1.out|(with_reducible refine Kd.C_alloc ?_ _)|(with_reducible refine Kd.C_drewN ?_ _)|(with_reducible refine Kd.C_drew ?_)));(case side2=>exact HC1.out);rintro e w' ⟨rfl,⟨nd,rfl⟩⟩;refine ⟨_,rfl,?_⟩;have HR200:=Aside0.mk (nat_trim.C HR1.out A4.out);have HC200:=Aside0.mk (Nat.le_refl t199.length))|((with_reducible refine gate_callee (f:=72) rfl ?_);refine goesL_ (some 20) rfl rfl Try.func72 (by kernel_rfl) rfl #[.slice A0 t197.length t197.length,.slice A1 t199.length t199.length] rfl (by (try simp only [List.map_toArray,List.map_cons,List.map_nil]);first|done|rfl|(simp only [List.length_drop,List.length_take];rfl)) ?_;(with_reducible refine (nat_Cmp.calls k _ _ t197 _ _ t199 t201 _ ?side1 ?side2 ?side3 ?side4 A6.out).mono ?_);(case side1=>repeat (first|exact HR198.out|(with_reducible refine Kd.C_alloc ?_ _)|(with_reducible refine Kd.C_drewN ?_ _)|(with_reducible refine Kd.C_drew ?_)));(case side2=>exact HC198.out);(case side3=>repeat (first|exact HR200.out|(with_reducible refine Kd.C_alloc ?_ _)|(with_reducible refine Kd.C_drewN ?_ _)|(with_reducible refine Kd.C_drew ?_)));(case side4=>exact HC200.out);rintro e w' ⟨rfl,⟨nd,rfl⟩⟩;refine ⟨_,rfl,?_⟩)|((with_reducible refine gate_callee (f:=60) rfl ?_);refine goesL_ (some 23) rfl rfl Try.func60 (by kernel_rfl) rfl #[.slice A0 t197.length t197.length] rfl (by (try simp only [List.map_toArray,List.map_cons,List.map_nil]);first|done|rfl|(simp only [List.length_drop,List.length_take];rfl)) ?_;(with_reducible refine (nat_Norm.calls _ _ t197 t202 _ ?side1 ?side2 A8.out).mono ?_);(case side1=>repeat (first|exact HR198.out|(with_reducible refine Kd.C_alloc ?_ _)|(with_reducible refine Kd.C_drewN ?_ _)|(with_reducible refine Kd.C_drew ?_)));(case side2=>exact HC198.out);rintro e w9 ⟨v203,rfl,ho0,hb⟩;refine ⟨_,rfl,?_⟩;have n0_:=Aside0.mk (Kd.R_lower ho0 (below_size (by repeat (first|(with_reducible first|exact HB.out|apply below_alloc|apply pw_below_drewN|apply below_drew1)|exact HB.out))));have n1_:=Aside0.mk (below_step (by repeat (first|(with_reducible first|exact HB.out|apply below_alloc|apply pw_below_drewN|apply below_drew1)|exact HB.out)) hb);clear HB;have HO204:=n0_;have HB:=n1_;clear n0_ n1_;(try clear hb);(try clear hb2);(try clear hk);(try clear hi);(try clear ho0)))
   go_ret3
   exact ⟨_,_,by first|rfl|(simp [errW_none,errW_some] <;> rfl)|(simp [*,errW_none,errW_some] <;> rfl),by first|exact Kd.R_nil _ _ _ _ _|exact Kd.N_nil _ _ _ _ _|exact Kd.V_nil _ _ _ _ _|exact Kd.Q_nil _ _ _ _ _|exact Kd.S_nil _ _ _ _ _,by (with_reducible repeat (first|apply Kd.R_alloc|apply Kd.R_drewN|apply Kd.R_drew));exact Kd.R_mono HO204.out (fun _ hk=>(by simp [Value.ownBlock])),by repeat (first|(with_reducible first|exact HB.out|apply below_alloc|apply pw_below_drewN|apply below_drew1)|exact HB.out)⟩
  ·rw [if_neg c7] at H
   have c7b0 : decide (t201 < 0)=false:=decide_eq_false c7
   clear c7
   by_cases c10 : (t199.length : Int)=1
   ·rw [if_pos c10] at H
    have c10b0 : ((t199.length : Int) == 1)=true:=beq_iff_eq.mpr c10
    have c10b1 : ((t199.length : Int) != 1)=false:=bne_eq_false_iff_eq.mpr c10
    clear c10
    by_cases c11 : 0 < (t199.length : Int)
    ·rw [if_pos c11] at H
     have c11b0 : decide (0 < (t199.length : Int))=true:=decide_eq_true c11
     have c11b1 : decide (0 < t199.length)=true:=decide_eq_true (by omega)
     clear c11
     replace H:=Option.bind_eq_some_iff.mp H
     obtain ⟨⟨t206,t207⟩,A120,H⟩:=H
     replace H : (some (t206,t207,true))=some (r1,r2,r3):=H
     have A12:=Aside0.mk A120
     clear A120
     simp only [Option.some.injEq,Prod.mk.injEq] at H
     obtain ⟨rfl,rfl,rfl⟩:=H
     go_enter Try.func62,Try.ntmps62
     go_wp2_with (first|((with_reducible refine gate_callee (f:=70) rfl ?_);refine goesL_ (some 12) rfl rfl Try.func70 (by kernel_rfl) rfl #[.slice A0 l0.length c0] rfl (by (try simp only [List.map_toArray,List.map_cons,List.map_nil]);first|done|rfl|(simp only [List.length_drop,List.length_take];rfl)) ?_;(with_reducible refine (nat_trim.calls _ _ l0 t197 _ ?side1 ?side2 A3.out).mono ?_);(case side1=>repeat (first|exact HR0.out|(with_reducible refine Kd.C_alloc ?_ _)|(with_reducible refine Kd.C_drewN ?_ _)|(with_reducible refine Kd.C_drew ?_)));(case side2=>exact HC0.out);rintro e w' ⟨rfl,⟨nd,rfl⟩⟩;refine ⟨_,rfl,?_⟩;have HR198:=Aside0.mk (nat_trim.C HR0.out A3.out);have HC198:=Aside0.mk (Nat.le_refl t197.length))|((with_reducible refine gate_callee (f:=70) rfl ?_);refine goesL_ (some 14) rfl rfl Try.func70 (by kernel_rfl) rfl #[.slice A1 l1.length c1] rfl (by (try simp only [List.map_toArray,List.map_cons,List.map_nil]);first|done|rfl|(simp only [List.length_drop,List.length_take];rfl)) ?_;(with_reducible refine (nat_trim.calls _ _ l1 t199 _ ?side1 ?side2 A4.out).mono ?_);(case side1=>repeat (first|exact HR1.out|(with_reducible refine Kd.C_alloc ?_ _)|(with_reducible refine Kd.C_drewN ?_ _)|(with_reducible refine Kd.C_drew ?_)));(case side2=>exact HC1.out);rintro e w' ⟨rfl,⟨nd,rfl⟩⟩;refine ⟨_,rfl,?_⟩;have HR200:=Aside0.mk (nat_trim.C HR1.out A4.out);have HC200:=Aside0.mk (Nat.le_refl t199.length))|((with_reducible refine gate_callee (f:=72) rfl ?_);refine goesL_ (some 20) rfl rfl Try.func72 (by kernel_rfl) rfl #[.slice A0 t197.length t197.length,.slice A1 t199.length t199.length] rfl (by (try simp only [List.map_toArray,List.map_cons,List.map_nil]);first|done|rfl|(simp only [List.length_drop,List.length_take];rfl)) ?_;(with_reducible refine (nat_Cmp.calls k _ _ t197 _ _ t199 t201 _ ?side1 ?side2 ?side3 ?side4 A6.out).mono ?_);(case side1=>repeat (first|exact HR198.out|(with_reducible refine Kd.C_alloc ?_ _)|(with_reducible refine Kd.C_drewN ?_ _)|(with_reducible refine Kd.C_drew ?_)));(case side2=>exact HC198.out);(case side3=>repeat (first|exact HR200.out|(with_reducible refine Kd.C_alloc ?_ _)|(with_reducible refine Kd.C_drewN ?_ _)|(with_reducible refine Kd.C_drew ?_)));(case side4=>exact HC200.out);rintro e w' ⟨rfl,⟨nd,rfl⟩⟩;refine ⟨_,rfl,?_⟩;have p205 : 0≤(0 : Int):=(by omega);have q205 : 0 < (t199.length : Int):=of_decide_eq_true (by first|(with_reducible assumption)|assumption);obtain ⟨ad205,e205,hx205_0⟩:=Kd.at_int HR200.out 0 p205 q205;cases e205;have qi205 : (0 < t199.length)=True:=eq_true (by omega);(try rw [show ((0 : Int)).toNat=0 from rfl] at hx205_0);(try rw [Addr.add_zero'] at hx205_0);replace p205:=eq_true p205;replace q205:=eq_true q205)|((with_reducible refine gate_callee (f:=75) rfl ?_);refine goesL_ (some 32) rfl rfl Try.func75 (by kernel_rfl) rfl #[.slice A0 t197.length t197.length,.int .u32 (rd t199 0)] rfl (by (try simp only [List.map_toArray,List.map_cons,List.map_nil]);first|done|rfl|(simp only [List.length_drop,List.length_take];rfl)) ?_;(with_reducible refine (nat_small.calls k _ _ t197 (rd t199 0) t206 t207 _ ?side1 ?side2 A12.out).mono ?_);(case side1=>repeat (first|exact HR198.out|(with_reducible refine Kd.C_alloc ?_ _)|(with_reducible refine Kd.C_drewN ?_ _)|(with_reducible refine Kd.C_drew ?_)));(case side2=>exact HC198.out);rintro e w13 ⟨v208,v210,rfl,ho0,ho1,hb⟩;refine ⟨_,rfl,?_⟩;have n0_:=Aside0.mk (Kd.R_lower ho0 (below_size (by repeat (first|(with_reducible first|exact HB.out|apply below_alloc|apply pw_below_drewN|apply below_drew1)|exact HB.out))));have n1_:=Aside0.mk (Kd.R_lower ho1 (below_size (by repeat (first|(with_reducible first|exact HB.out|apply below_alloc|apply pw_below_drewN|apply below_drew1)|exact HB.out))));have n2_:=Aside0.mk (below_step (by repeat (first|(with_reducible first|exact HB.out|apply below_alloc|apply pw_below_drewN|apply below_drew1)|exact HB.out)) hb);clear HB;have HO209:=n0_;have HO211:=n1_;have HB:=n2_;clear n0_ n1_ n2_;(try clear hb);(try clear hb2);(try clear hk);(try clear hi);(try clear ho0);(try clear ho1)))
     go_ret3
     exact ⟨_,_,by first|rfl|(simp [errW_none,errW_some] <;> rfl)|(simp [*,errW_none,errW_some] <;> rfl),by (with_reducible repeat (first|apply Kd.R_alloc|apply Kd.R_drewN|apply Kd.R_drew));exact HO209.out,by (with_reducible repeat (first|apply Kd.R_alloc|apply Kd.R_drewN|apply Kd.R_drew));exact HO211.out,by repeat (first|(with_reducible first|exact HB.out|apply below_alloc|apply pw_below_drewN|apply below_drew1)|exact HB.out)⟩
    ·rw [if_neg c11] at H
     exact absurd H (by simp)
   ·rw [if_neg c10] at H
    have c10b0 : ((t199.length : Int) == 1)=false:=beq_eq_false_iff_ne.mpr c10
    have c10b1 : ((t199.length : Int) != 1)=true:=bne_iff_ne.mpr c10
    replace H:=Option.bind_eq_some_iff.mp H
    obtain ⟨⟨t212,t213⟩,A140,H⟩:=H
    replace H : (some (t212,t213,true))=some (r1,r2,r3):=H
    have A14:=Aside0.mk A140
    clear A140
    simp only [Option.some.injEq,Prod.mk.injEq] at H
    obtain ⟨rfl,rfl,rfl⟩:=H
    go_enter Try.func62,Try.ntmps62
    go_wp2_with (first|((with_reducible refine gate_callee (f:=70) rfl ?_);refine goesL_ (some 12) rfl rfl Try.func70 (by kernel_rfl) rfl #[.slice A0 l0.length c0] rfl (by (try simp only [List.map_toArray,List.map_cons,List.map_nil]);first|done|rfl|(simp only [List.length_drop,List.length_take];rfl)) ?_;(with_reducible refine (nat_trim.calls _ _ l0 t197 _ ?side1 ?side2 A3.out).mono ?_);(case side1=>repeat (first|exact HR0.out|(with_reducible refine Kd.C_alloc ?_ _)|(with_reducible refine Kd.C_drewN ?_ _)|(with_reducible refine Kd.C_drew ?_)));(case side2=>exact HC0.out);rintro e w' ⟨rfl,⟨nd,rfl⟩⟩;refine ⟨_,rfl,?_⟩;have HR198:=Aside0.mk (nat_trim.C HR0.out A3.out);have HC198:=Aside0.mk (Nat.le_refl t197.length))|((with_reducible refine gate_callee (f:=70) rfl ?_);refine goesL_ (some 14) rfl rfl Try.func70 (by kernel_rfl) rfl #[.slice A1 l1.length c1] rfl (by (try simp only [List.map_toArray,List.map_cons,List.map_nil]);first|done|rfl|(simp only [List.length_drop,List.length_take];rfl)) ?_;(with_reducible refine (nat_trim.calls _ _ l1 t199 _ ?side1 ?side2 A4.out).mono ?_);(case side1=>repeat (first|exact HR1.out|(with_reducible refine Kd.C_alloc ?_ _)|(with_reducible refine Kd.C_drewN ?_ _)|(with_reducible refine Kd.C_drew ?_)));(case side2=>exact HC1.out);rintro e w' ⟨rfl,⟨nd,rfl⟩⟩;refine ⟨_,rfl,?_⟩;have HR200:=Aside0.mk (nat_trim.C HR1.out A4.out);have HC200:=Aside0.mk (Nat.le_refl t199.length))|((with_reducible refine gate_callee (f:=72) rfl ?_);refine goesL_ (some 20) rfl rfl Try.func72 (by kernel_rfl) rfl #[.slice A0 t197.length t197.length,.slice A1 t199.length t199.length] rfl (by (try simp only [List.map_toArray,List.map_cons,List.map_nil]);first|done|rfl|(simp only [List.length_drop,List.length_take];rfl)) ?_;(with_reducible refine (nat_Cmp.calls k _ _ t197 _ _ t199 t201 _ ?side1 ?side2 ?side3 ?side4 A6.out).mono ?_);(case side1=>repeat (first|exact HR198.out|(with_reducible refine Kd.C_alloc ?_ _)|(with_reducible refine Kd.C_drewN ?_ _)|(with_reducible refine Kd.C_drew ?_)));(case side2=>exact HC198.out);(case side3=>repeat (first|exact HR200.out|(with_reducible refine Kd.C_alloc ?_ _)|(with_reducible refine Kd.C_drewN ?_ _)|(with_reducible refine Kd.C_drew ?_)));(case side4=>exact HC200.out);rintro e w' ⟨rfl,⟨nd,rfl⟩⟩;refine ⟨_,rfl,?_⟩)|((with_reducible refine gate_callee (f:=76) rfl ?_);refine goesL_ (some 40) rfl rfl Try.func76 (by kernel_rfl) rfl #[.slice A0 t197.length t197.length,.slice A1 t199.length t199.length] rfl (by (try simp only [List.map_toArray,List.map_cons,List.map_nil]);first|done|rfl|(simp only [List.length_drop,List.length_take];rfl)) ?_;(with_reducible refine (nat_long.calls k _ _ t197 _ _ t199 t212 t213 _ ?side1 ?side2 ?side3 ?side4 A14.out).mono ?_);(case side1=>repeat (first|exact HR198.out|(with_reducible refine Kd.C_alloc ?_ _)|(with_reducible refine Kd.C_drewN ?_ _)|(with_reducible refine Kd.C_drew ?_)));(case side2=>exact HC198.out);(case side3=>repeat (first|exact HR200.out|(with_reducible refine Kd.C_alloc ?_ _)|(with_reducible refine Kd.C_drewN ?_ _)|(with_reducible refine Kd.C_drew ?_)));(case side4=>exact HC200.out);rintro e w15 ⟨v214,v216,rfl,ho0,ho1,hb⟩;refine ⟨_,rfl,?_⟩;have n0_:=Aside0.mk (Kd.R_lower ho0 (below_size (by repeat (first|(with_reducible first|exact HB.out|apply below_alloc|apply pw_below_drewN|apply below_drew1)|exact HB.out))));have n1_:=Aside0.mk (Kd.R_lower ho1 (below_size (by repeat (first|(with_reducible first|exact HB.out|apply below_alloc|apply pw_below_drewN|apply below_drew1)|exact HB.out))));have n2_:=Aside0.mk (below_step (by repeat (first|(with_reducible first|exact HB.out|apply below_alloc|apply pw_below_drewN|apply below_drew1)|exact HB.out)) hb);clear HB;have HO215:=n0_;have HO217:=n1_;have HB:=n2_;clear n0_ n1_ n2_;(try clear hb);(try clear hb2);(try clear hk);(try clear hi);(try clear ho0);(try clear ho1)))
    go_ret3
    exact ⟨_,_,by first|rfl|(simp [errW_none,errW_some] <;> rfl)|(simp [*,errW_none,errW_some] <;> rfl),by (with_reducible repeat (first|apply Kd.R_alloc|apply Kd.R_drewN|apply Kd.R_drew));exact HO215.out,by (with_reducible repeat (first|apply Kd.R_alloc|apply Kd.R_drewN|apply Kd.R_drew));exact HO217.out,by repeat (first|(with_reducible first|exact HB.out|apply below_alloc|apply pw_below_drewN|apply below_drew1)|exact HB.out)⟩
theorem rat_one.calls  (r : List Int) (w : World) (h : rat_one.f  = some r) :
  Calls Try.prog 42 #[] w fun e w'=>∃ v0_ : Value,e=.returned (v0_)∧Kd.R (Kd.int .u32) 82 w' w.heap.size (fun _=>True) v0_ r∧Below w.heap.size w w':=by
 have HB:=Aside0.mk (Below.refl w.heap.size w)
 have H : (some (([1] : List Int)))=some r:=h
 clear h
 obtain ⟨y101,hy101⟩ : ∃ y_ : List Int,y_=(([1] : List Int)):=⟨_,rfl⟩
 replace H : (some y101)=some r:=by first|(rw [hy101];with_reducible exact H)|(have H2_:=(Option.bind_some _ _).symm.trans H;rw [hy101];with_reducible exact H2_)|(have H2_:=(Option.bind_some _ _).symm.trans H;with_reducible exact H2_)|with_reducible exact H|(rw [hy101];exact H)|exact H
 have Ny101:=Aside0.mk hy101
 clear hy101
 obtain rfl:=Option.some.inj H
 go_enter Try.func42,Try.ntmps42
 go_wp2_with (first|((with_reducible refine gate_dst (N:=1) rfl ?_);refine Kd.R_lit (Kd.int .u32) _ 82 ?hg (N:=1) ?hd (xs:=([1] : List Int)) (inner:=[.int .u32 1]) (ok:=fun _=>True) (okp:=fun _=>True) ?hr ?hp (fun _ hk=>hk) trivial (Below.refl _ _) (Nat.le_refl _) (by simp) ?_;(case hd=>rfl);(case hg=>rfl);(case hr=>first|(go_simp;done)|(go_simp;(with_reducible rfl))|(go_simp;rfl)|(go_simp;have hu_ : ∀ x : Int,IntKind.u32.wrap x=HMod.hMod x (4294967296 : Int):=(fun x=>by simp only [IntKind.wrap,IntKind.bits,IntKind.signed];simp);simp only [hu_,Int.emod_sub_emod]));(case hp=>exact (Reps.one (show Kd.M (Kd.int .u32) _ _ _ 1 [.int .u32 1] from rfl) (Reps.none _ _)));intro v102 w1 ho2 hb hg_ hnew_;clear hg_ hnew_;(first|rw [← Ny101.out] at ho2|(simp only [Int.reduceToNat] at ho2;rw [← Ny101.out] at ho2));have n0_:=Aside0.mk (Kd.R_lower ho2 (below_size (by repeat (first|(with_reducible first|exact HB.out|apply below_alloc|apply pw_below_drewN|apply below_drew1)|exact HB.out))));have n1_:=Aside0.mk (below_step (by repeat (first|(with_reducible first|exact HB.out|apply below_alloc|apply pw_below_drewN|apply below_drew1)|exact HB.out)) hb);clear HB;have HO103:=n0_;have HB:=n1_;clear n0_ n1_;clear hb ho2))
 go_ret
 exact ⟨_,by first|rfl|(simp [errW_none,errW_some] <;> rfl)|(simp [*,errW_none,errW_some] <;> rfl),by (with_reducible repeat (first|apply Kd.R_alloc|apply Kd.R_drewN|apply Kd.R_drew));exact HO103.out,by repeat (first|(with_reducible first|exact HB.out|apply below_alloc|apply pw_below_drewN|apply below_drew1)|exact HB.out)⟩
theorem root_Gcd.calls (k : Nat) (A0 : Option Addr) (c0 : Nat) (l0 : List Int) (A1 : Option Addr) (c1 : Nat) (l1 : List Int) (r : List Int) (w : World) (hr0 : Kd.C (Kd.int .u32) w A0 l0.length l0) (hc0 : l0.length≤c0) (hr1 : Kd.C (Kd.int .u32) w A1 l1.length l1) (hc1 : l1.length≤c1) (h : root_Gcd.f k l0 l1=some r) :
  Calls Try.prog 61 #[.slice A0 l0.length c0,.slice A1 l1.length c1] w fun e w'=>∃ v0_ : Value,e=.returned (v0_)∧Kd.R (Kd.int .u32) 82 w' w.heap.size (fun _=>True) v0_ r∧Below w.heap.size w w':=by
 have HR0:=Aside0.mk hr0
 have HC0:=Aside0.mk hc0
 clear hr0 hc0
 have HR1:=Aside0.mk hr1
 have HC1:=Aside0.mk hc1
 clear hr1 hc1
 have HB:=Aside0.mk (Below.refl w.heap.size w)
 have H : ((nat_Norm.f l0).bind fun t218=>((nat_Norm.f l1).bind fun t221=>(root_Gcd.l0 k t218 t221)))=some r:=h
 clear h
 replace H:=Option.bind_eq_some_iff.mp H
 obtain ⟨t218,A30,H⟩:=H
 replace H : ((nat_Norm.f l1).bind fun t221=>(root_Gcd.l0 k t218 t221))=some r:=H
 have A3:=Aside0.mk A30
 clear A30
 replace H:=Option.bind_eq_some_iff.mp H
 obtain ⟨t221,A40,H⟩:=H
 replace H : (root_Gcd.l0 k t218 t221)=some r:=H
 have A4:=Aside0.mk A40
 clear A40
 have H':=Aside0.mk H
 clear H
 go_enter Try.func61,Try.ntmps61
 go_wp2_with (first|((with_reducible refine gate_callee (f:=60) rfl ?_);refine goesL_ (some 9) rfl rfl Try.func60 (by kernel_rfl) rfl #[.slice A0 l0.length c0] rfl (by (try simp only [List.map_toArray,List.map_cons,List.map_nil]);first|done|rfl|(simp only [List.length_drop,List.length_take];rfl)) ?_;(with_reducible refine (nat_Norm.calls _ _ l0 t218 _ ?side1 ?side2 A3.out).mono ?_);(case side1=>repeat (first|exact HR0.out|(with_reducible refine Kd.C_alloc ?_ _)|(with_reducible refine Kd.C_drewN ?_ _)|(with_reducible refine Kd.C_drew ?_)));(case side2=>exact HC0.out);rintro e w5 ⟨v219,rfl,ho0,hb⟩;refine ⟨_,rfl,?_⟩;have n0_:=Aside0.mk (Kd.R_lower ho0 (below_size (by repeat (first|(with_reducible first|exact HB.out|apply below_alloc|apply pw_below_drewN|apply below_drew1)|exact HB.out))));have n1_:=Aside0.mk (below_step (by repeat (first|(with_reducible first|exact HB.out|apply below_alloc|apply pw_below_drewN|apply below_drew1)|exact HB.out)) hb);clear HB;have HO220:=n0_;have HB:=n1_;clear n0_ n1_;(try clear hb);(try clear hb2);(try clear hk);(try clear hi);(try clear ho0))|((with_reducible refine gate_callee (f:=60) rfl ?_);refine goesL_ (some 11) rfl rfl Try.func60 (by kernel_rfl) rfl #[.slice A1 l1.length c1] rfl (by (try simp only [List.map_toArray,List.map_cons,List.map_nil]);first|done|rfl|(simp only [List.length_drop,List.length_take];rfl)) ?_;(with_reducible refine (nat_Norm.calls _ _ l1 t221 _ ?side1 ?side2 A4.out).mono ?_);(case side1=>repeat (first|exact (Kd.C_below HR1.out HB.out)|(with_reducible refine Kd.C_alloc ?_ _)|(with_reducible refine Kd.C_drewN ?_ _)|(with_reducible refine Kd.C_drew ?_)));(case side2=>exact HC1.out);rintro e w6 ⟨v222,rfl,ho0,hb⟩;refine ⟨_,rfl,?_⟩;have n0_:=Aside0.mk (Kd.R_elder' (by (with_reducible repeat (first|apply Kd.R_alloc|apply Kd.R_drewN|apply Kd.R_drew));exact HO220.out) (Kd.R_base ho0) hb);have n1_:=Aside0.mk (Kd.R_lower (Kd.R_new' ho0 (Kd.R_lt (by (with_reducible repeat (first|apply Kd.R_alloc|apply Kd.R_drewN|apply Kd.R_drew));exact HO220.out))) (below_size (by repeat (first|(with_reducible first|exact HB.out|apply below_alloc|apply pw_below_drewN|apply below_drew1)|exact HB.out))));have n2_:=Aside0.mk (below_step (by repeat (first|(with_reducible first|exact HB.out|apply below_alloc|apply pw_below_drewN|apply below_drew1)|exact HB.out)) hb);clear HO220;clear HB;have HO220:=n0_;have HO223:=n1_;have HB:=n2_;clear n0_ n1_ n2_;(try clear hb);(try clear hb2);(try clear hk);(try clear hi);(try clear ho0)))
 go_loopg [0,1] k (fun kq v0 v1 w'=>∃ (x0_1 : List Int) (x1_1 : List Int),Aside0 (root_Gcd.l0 kq x0_1 x1_1=some r)∧Aside0 (kq≤k)∧Aside0 (Kd.R (Kd.int .u32) 82 w' w.heap.size (fun k_=>some k_≠(v1 : Value).ownBlock) v0 x0_1)∧Aside0 (Kd.R (Kd.int .u32) 82 w' w.heap.size (fun k_=>some k_≠(v0 : Value).ownBlock) v1 x1_1)∧Aside0 (Below w.heap.size w w'))
 case atStart=>exact ⟨(t218),(t221),H',⟨Nat.le_refl _⟩,⟨by (with_reducible repeat (first|apply Kd.R_alloc|apply Kd.R_drewN|apply Kd.R_drew));exact Kd.R_mono HO220.out (fun _ hk=>hk.2)⟩,⟨by (with_reducible repeat (first|apply Kd.R_alloc|apply Kd.R_drewN|apply Kd.R_drew));exact Kd.R_mono HO223.out (fun _ hk=>hk.2)⟩,⟨by repeat (first|(with_reducible first|exact HB.out|apply below_alloc|apply pw_below_drewN|apply below_drew1)|exact HB.out)⟩⟩
 case round =>
  clear H'
  try clear c1
  try clear p2
  try clear c6
  obtain ⟨x0_1,x1_1,HA,HK1,HO_0,HO_1,HB⟩:=hrel
  cases gk with
 |zero=>exact absurd HA.out (by simp [root_Gcd.l0])
 |succ k1 =>
   have H:=HA.out
   clear HA
   simp only [root_Gcd.l0] at H
   by_cases c7 : (x1_1.length : Int) > 0
   ·rw [if_pos c7] at H
    have c7b0 : decide (0 < (x1_1.length : Int))=true:=decide_eq_true c7
    have c7b1 : decide (0 < x1_1.length)=true:=decide_eq_true (by omega)
    clear c7
    replace H:=Option.bind_eq_some_iff.mp H
    obtain ⟨⟨t224,t225,t226⟩,A80,H⟩:=H
    replace H : (root_Gcd.l0 k1 x1_1 t225)=some r:=H
    have A8:=Aside0.mk A80
    clear A80
    have H':=Aside0.mk H
    clear H
    obtain ⟨Ao9,co9,eo9⟩:=Kd.R_slice HO_1.out
    subst eo9
    obtain ⟨Ao10,co10,eo10⟩:=Kd.R_slice HO_0.out
    subst eo10
    go_wp2_with (first|((with_reducible refine gate_callee (f:=62) rfl ?_);refine goesL_ (some 18) rfl rfl Try.func62 (by kernel_rfl) rfl #[.slice Ao10 x0_1.length co10,.slice Ao9 x1_1.length co9] rfl (by (try simp only [List.map_toArray,List.map_cons,List.map_nil]);first|done|rfl|(simp only [List.length_drop,List.length_take];rfl)) ?_;(with_reducible refine (nat_DivMod.calls k1 _ _ x0_1 _ _ x1_1 t224 t225 t226 _ ?side1 ?side2 ?side3 ?side4 A8.out).mono ?_);(case side1=>repeat (first|exact (Kd.R_reads' HO_0.out).2.2|(with_reducible refine Kd.C_alloc ?_ _)|(with_reducible refine Kd.C_drewN ?_ _)|(with_reducible refine Kd.C_drew ?_)));(case side2=>exact (Kd.R_reads' HO_0.out).2.1);(case side3=>repeat (first|exact (Kd.R_reads' HO_1.out).2.2|(with_reducible refine Kd.C_alloc ?_ _)|(with_reducible refine Kd.C_drewN ?_ _)|(with_reducible refine Kd.C_drew ?_)));(case side4=>exact (Kd.R_reads' HO_1.out).2.1);rintro e w11 ⟨v227,v229,rfl,ho0,ho1,hb⟩;refine ⟨_,rfl,?_⟩;have n0_:=Aside0.mk (Kd.R_mono (Kd.R_told (Kd.R_told (Kd.R_old (by (with_reducible repeat (first|apply Kd.R_alloc|apply Kd.R_drewN|apply Kd.R_drew));exact HO_0.out) hb) (Kd.R_base ho0)) (Kd.R_base ho1)) (fun _ h_=>h_.1));have n1_:=Aside0.mk (Kd.R_mono (Kd.R_told (Kd.R_told (Kd.R_old (by (with_reducible repeat (first|apply Kd.R_alloc|apply Kd.R_drewN|apply Kd.R_drew));exact HO_1.out) hb) (Kd.R_base ho0)) (Kd.R_base ho1)) (fun _ h_=>h_.1));have n2_:=Aside0.mk (Kd.R_lower (Kd.R_new' (Kd.R_new' ho0 (Kd.R_lt (by (with_reducible repeat (first|apply Kd.R_alloc|apply Kd.R_drewN|apply Kd.R_drew));exact HO_0.out))) (Kd.R_lt (by (with_reducible repeat (first|apply Kd.R_alloc|apply Kd.R_drewN|apply Kd.R_drew));exact HO_1.out))) (below_size (by repeat (first|(with_reducible first|exact HB.out|apply below_alloc|apply pw_below_drewN|apply below_drew1)|exact HB.out))));have n3_:=Aside0.mk (Kd.R_lower (Kd.R_new' (Kd.R_new' ho1 (Kd.R_lt (by (with_reducible repeat (first|apply Kd.R_alloc|apply Kd.R_drewN|apply Kd.R_drew));exact HO_0.out))) (Kd.R_lt (by (with_reducible repeat (first|apply Kd.R_alloc|apply Kd.R_drewN|apply Kd.R_drew));exact HO_1.out))) (below_size (by repeat (first|(with_reducible first|exact HB.out|apply below_alloc|apply pw_below_drewN|apply below_drew1)|exact HB.out))));have n4_:=Aside0.mk (below_step (by repeat (first|(with_reducible first|exact HB.out|apply below_alloc|apply pw_below_drewN|apply below_drew1)|exact HB.out)) hb);clear HO_0;clear HO_1;clear HB;have HO_0:=n0_;have HO_1:=n1_;have HO228:=n2_;have HO230:=n3_;have HB:=n4_;clear n0_ n1_ n2_ n3_ n4_;(try clear hb);(try clear hb2);(try clear hk);(try clear hi);(try clear ho0);(try clear ho1)))
    go_roundg k1
    case measure=>have:=HK1.out;omega
    case rel=>exact ⟨(x1_1),(t225),H',⟨by have:=HK1.out;omega⟩,⟨by (with_reducible repeat (first|apply Kd.R_alloc|apply Kd.R_drewN|apply Kd.R_drew));exact Kd.R_mono HO_1.out (fun _ hk=>hk.2)⟩,⟨by (with_reducible repeat (first|apply Kd.R_alloc|apply Kd.R_drewN|apply Kd.R_drew));exact Kd.R_mono HO230.out (fun _ hk=>hk.2)⟩,⟨by repeat (first|(with_reducible first|exact HB.out|apply below_alloc|apply pw_below_drewN|apply below_drew1)|exact HB.out)⟩⟩
   ·rw [if_neg c7] at H
    have c7b0 : decide (0 < (x1_1.length : Int))=false:=decide_eq_false c7
    have c7b1 : decide (0 < x1_1.length)=false:=decide_eq_false (by omega)
    clear c7
    obtain rfl:=Option.some.inj H
    obtain ⟨Ao12,co12,eo12⟩:=Kd.R_slice HO_1.out
    subst eo12
    go_wp2
    go_ret
    exact ⟨_,by first|rfl|(simp [errW_none,errW_some] <;> rfl)|(simp [*,errW_none,errW_some] <;> rfl),by (with_reducible repeat (first|apply Kd.R_alloc|apply Kd.R_drewN|apply Kd.R_drew));exact Kd.R_mono HO_0.out (fun _ hk=>trivial),by repeat (first|(with_reducible first|exact HB.out|apply below_alloc|apply pw_below_drewN|apply below_drew1)|exact HB.out)⟩
theorem rat_made.calls (k : Nat) (a0 : Bool) (A1 : Option Addr) (c1 : Nat) (l1 : List Int) (A2 : Option Addr) (c2 : Nat) (l2 : List Int) (r1 : Bool) (r2 : List Int) (r3 : List Int) (w : World) (hr1 : Kd.C (Kd.int .u32) w A1 l1.length l1) (hc1 : l1.length≤c1) (hr2 : Kd.C (Kd.int .u32) w A2 l2.length l2) (hc2 : l2.length≤c2) (h : rat_made.f k a0 l1 l2=some (r1,r2,r3)) :
  Calls Try.prog 44 #[.bool a0,.slice A1 l1.length c1,.slice A2 l2.length c2] w fun e w'=>∃ v1_ v2_ : Value,e=.returned (.agg #[.bool r1,v1_,v2_])∧Kd.R (Kd.int .u32) 82 w' w.heap.size (fun k_=>some k_≠(v2_ : Value).ownBlock) v1_ r2∧Kd.R (Kd.int .u32) 82 w' w.heap.size (fun k_=>some k_≠(v1_ : Value).ownBlock) v2_ r3∧Below w.heap.size w w':=by
 have hu63:=Try.underlying63
 have HR1:=Aside0.mk hr1
 have HC1:=Aside0.mk hc1
 clear hr1 hc1
 have HR2:=Aside0.mk hr2
 have HC2:=Aside0.mk hc2
 clear hr2 hc2
 have HB:=Aside0.mk (Below.refl w.heap.size w)
 have H : ((nat_Norm.f l1).bind fun t232=>((nat_Norm.f l2).bind fun t235=>(if (t232.length : Int)=0 then (rat_made.j0 k a0 t232 t235 true) else (rat_made.j0 k a0 t232 t235 ((t235.length : Int) == 0)))))=some (r1,r2,r3):=h
 clear h
 replace H:=Option.bind_eq_some_iff.mp H
 obtain ⟨t232,A40,H⟩:=H
 replace H : ((nat_Norm.f l2).bind fun t235=>(if (t232.length : Int)=0 then (rat_made.j0 k a0 t232 t235 true) else (rat_made.j0 k a0 t232 t235 ((t235.length : Int) == 0))))=some (r1,r2,r3):=H
 have A4:=Aside0.mk A40
 clear A40
 replace H:=Option.bind_eq_some_iff.mp H
 obtain ⟨t235,A50,H⟩:=H
 replace H : (if (t232.length : Int)=0 then (rat_made.j0 k a0 t232 t235 true) else (rat_made.j0 k a0 t232 t235 ((t235.length : Int) == 0)))=some (r1,r2,r3):=H
 have A5:=Aside0.mk A50
 clear A50
 have HC6:=Aside0.mk H
 clear H
 go_enter Try.func44,Try.ntmps44
 go_upto_region 2 with (first|((with_reducible refine gate_dst (N:=6) rfl ?_);(try (refine gate_guard (by rfl) ?_;dsimp only));refine box_event ?hg (N:=6) ?hd (cs:=#[.bool false,.slice none 0 0,.slice none 0 0]) (t:=63) ?hr ?_;(case hd=>rfl);(case hg=>rfl);(case hr=>first|(go_simp;done)|(go_simp;(with_reducible rfl))|(go_simp;rfl)|(go_simp;have hu_ : ∀ x : Int,IntKind.u32.wrap x=HMod.hMod x (4294967296 : Int):=(fun x=>by simp only [IntKind.wrap,IntKind.bits,IntKind.signed];simp);simp only [hu_,Int.emod_sub_emod]));intro gb231 hg w7 hbox hb;have n0_:=Aside0.mk (below_step (by repeat (first|(with_reducible first|exact HB.out|apply below_alloc|apply pw_below_drewN|apply below_drew1)|exact HB.out)) hb);have n1_:=Aside0.mk (hbox);have n2_:=Aside0.mk ((by rw [hg];exact (below_size (by repeat (first|(with_reducible first|exact HB.out|apply below_alloc|apply pw_below_drewN|apply below_drew1)|exact HB.out))) : w.heap.size≤gb231));have n3_:=Aside0.mk ((by rw [hg];exact (below_size (by repeat (first|(with_reducible first|exact HB.out|apply below_alloc|apply pw_below_drewN|apply below_drew1)|exact HB.out))) : w.heap.size≤gb231));clear HB;have HB:=n0_;have BK231:=n1_;have GW231:=n2_;have GE231:=n3_;clear n0_ n1_ n2_ n3_;clear hb hbox hg)|((with_reducible refine gate_callee (f:=60) rfl ?_);refine goesL_ (some 9) rfl rfl Try.func60 (by kernel_rfl) rfl #[.slice A1 l1.length c1] rfl (by (try simp only [List.map_toArray,List.map_cons,List.map_nil]);first|done|rfl|(simp only [List.length_drop,List.length_take];rfl)) ?_;(with_reducible refine (nat_Norm.calls _ _ l1 t232 _ ?side1 ?side2 A4.out).mono ?_);(case side1=>repeat (first|exact (Kd.C_below HR1.out HB.out)|(with_reducible refine Kd.C_alloc ?_ _)|(with_reducible refine Kd.C_drewN ?_ _)|(with_reducible refine Kd.C_drew ?_)));(case side2=>exact HC1.out);rintro e w8 ⟨v233,rfl,ho0,hb⟩;refine ⟨_,rfl,?_⟩;have n0_:=Aside0.mk (Kd.R_lower ho0 (below_size (by repeat (first|(with_reducible first|exact HB.out|apply below_alloc|apply pw_below_drewN|apply below_drew1|refine below_set ?_ GE231.out)|exact HB.out))));have n1_:=Aside0.mk (blk_below (g:=gb231) (o:=.cells #[.bool false,.slice none 0 0,.slice none 0 0] 63 (0,0)) (by (with_reducible repeat (first|refine blk_drewN ?_ _|refine blk_drew ?_|refine blk_alloc ?_ _));exact BK231.out) hb);have n2_:=Aside0.mk (below_step (by repeat (first|(with_reducible first|exact HB.out|apply below_alloc|apply pw_below_drewN|apply below_drew1|refine below_set ?_ GE231.out)|exact HB.out)) hb);clear BK231;clear HB;have HO234:=n0_;have BK231:=n1_;have HB:=n2_;clear n0_ n1_ n2_;(try clear hb);(try clear hb2);(try clear hk);(try clear hi);(try clear ho0))|((with_reducible refine gate_callee (f:=60) rfl ?_);refine goesL_ (some 11) rfl rfl Try.func60 (by kernel_rfl) rfl #[.slice A2 l2.length c2] rfl (by (try simp only [List.map_toArray,List.map_cons,List.map_nil]);first|done|rfl|(simp only [List.length_drop,List.length_take];rfl)) ?_;(with_reducible refine (nat_Norm.calls _ _ l2 t235 _ ?side1 ?side2 A5.out).mono ?_);(case side1=>repeat (first|exact (Kd.C_below HR2.out HB.out)|(with_reducible refine Kd.C_alloc ?_ _)|(with_reducible refine Kd.C_drewN ?_ _)|(with_reducible refine Kd.C_drew ?_)));(case side2=>exact HC2.out);rintro e w9 ⟨v236,rfl,ho0,hb⟩;refine ⟨_,rfl,?_⟩;have n0_:=Aside0.mk (Kd.R_elder' (by (with_reducible repeat (first|apply Kd.R_alloc|apply Kd.R_drewN|apply Kd.R_drew));exact HO234.out) (Kd.R_base ho0) hb);have n1_:=Aside0.mk (Kd.R_lower (Kd.R_new' ho0 (Kd.R_lt (by (with_reducible repeat (first|apply Kd.R_alloc|apply Kd.R_drewN|apply Kd.R_drew));exact HO234.out))) (below_size (by repeat (first|(with_reducible first|exact HB.out|apply below_alloc|apply pw_below_drewN|apply below_drew1|refine below_set ?_ GE231.out)|exact HB.out))));have n2_:=Aside0.mk (blk_below (g:=gb231) (o:=.cells #[.bool false,.slice none 0 0,.slice none 0 0] 63 (0,0)) (by (with_reducible repeat (first|refine blk_drewN ?_ _|refine blk_drew ?_|refine blk_alloc ?_ _));exact BK231.out) hb);have n3_:=Aside0.mk (below_step (by repeat (first|(with_reducible first|exact HB.out|apply below_alloc|apply pw_below_drewN|apply below_drew1|refine below_set ?_ GE231.out)|exact HB.out)) hb);clear HO234;clear BK231;clear HB;have HO234:=n0_;have HO237:=n1_;have BK231:=n2_;have HB:=n3_;clear n0_ n1_ n2_ n3_;(try clear hb);(try clear hb2);(try clear hk);(try clear hi);(try clear ho0)))
 (try simp only [Act.put,List.setIfInBounds_toArray,List.set_cons_zero,List.set_cons_succ])
 go_cut [19] (fun v19 wc=>∃ (kq : Nat) (x19_5 : Bool),v19=.bool x19_5∧Aside0 (rat_made.j0 kq a0 t232 t235 x19_5=some (r1,r2,r3))∧Aside0 (kq≤k)∧Aside0 (Kd.R (Kd.int .u32) 82 wc w.heap.size (fun k_=>some k_≠(v236 : Value).ownBlock) v233 t232)∧Aside0 (Kd.R (Kd.int .u32) 82 wc w.heap.size (fun k_=>some k_≠(v233 : Value).ownBlock) v236 t235)∧Aside0 (wc.heap[gb231]? = some (.cells #[.bool false,(.slice none 0 0),(.slice none 0 0)] 63 (0,0)))∧Aside0 (Below w.heap.size w wc))
 case first =>
  have H:=HC6.out
  clear HC6
  by_cases c10 : (t232.length : Int)=0
  ·rw [if_pos c10] at H
   have c10b0 : ((t232.length : Int) == 0)=true:=beq_iff_eq.mpr c10
   have c10b1 : ((t232.length : Int) != 0)=false:=bne_eq_false_iff_eq.mpr c10
   clear c10
   (first|rw [c10b0]|(simp only [i64_w,i32_w];rw [c10b0])|skip)
   have H':=Aside0.mk H
   clear H
   obtain ⟨Ao11,co11,eo11⟩:=Kd.R_slice HO234.out
   subst eo11
   go_wp2
   go_meet
   case rel=>exact ⟨_,(true),(by first|rfl|(simp;done)|(simp [*];done)),H',⟨by first|omega|exact Nat.le_refl _⟩,⟨by (with_reducible repeat (first|apply Kd.R_alloc|apply Kd.R_drewN|apply Kd.R_drew));exact Kd.R_mono HO234.out (fun _ hk=>hk.2)⟩,⟨by (with_reducible repeat (first|apply Kd.R_alloc|apply Kd.R_drewN|apply Kd.R_drew));exact Kd.R_mono HO237.out (fun _ hk=>hk.2)⟩,⟨by (with_reducible repeat (first|refine blk_drewN ?_ _|refine blk_drew ?_|refine blk_alloc ?_ _));exact BK231.out⟩,⟨by repeat (first|(with_reducible first|exact HB.out|apply below_alloc|apply pw_below_drewN|apply below_drew1|refine below_set ?_ GE231.out)|exact HB.out)⟩⟩
  ·rw [if_neg c10] at H
   have c10b0 : ((t232.length : Int) == 0)=false:=beq_eq_false_iff_ne.mpr c10
   have c10b1 : ((t232.length : Int) != 0)=true:=bne_iff_ne.mpr c10
   have c10b2 : ¬ (t232=[]):=fun h_=>c10 (by rw [h_];rfl)
   (first|rw [c10b0]|(simp only [i64_w,i32_w];rw [c10b0])|skip)
   have H':=Aside0.mk H
   clear H
   obtain ⟨Ao12,co12,eo12⟩:=Kd.R_slice HO234.out
   subst eo12
   obtain ⟨Ao13,co13,eo13⟩:=Kd.R_slice HO237.out
   subst eo13
   go_wp2
   go_meet
   case rel=>exact ⟨_,(((t235.length : Int) == 0)),(by first|rfl|(simp;done)|(simp [*];done)),H',⟨by first|omega|exact Nat.le_refl _⟩,⟨by (with_reducible repeat (first|apply Kd.R_alloc|apply Kd.R_drewN|apply Kd.R_drew));exact Kd.R_mono HO234.out (fun _ hk=>hk.2)⟩,⟨by (with_reducible repeat (first|apply Kd.R_alloc|apply Kd.R_drewN|apply Kd.R_drew));exact Kd.R_mono HO237.out (fun _ hk=>hk.2)⟩,⟨by (with_reducible repeat (first|refine blk_drewN ?_ _|refine blk_drew ?_|refine blk_alloc ?_ _));exact BK231.out⟩,⟨by repeat (first|(with_reducible first|exact HB.out|apply below_alloc|apply pw_below_drewN|apply below_drew1|refine below_set ?_ GE231.out)|exact HB.out)⟩⟩
 case rest =>
  clear HC6
  try clear c1
  try clear c2
  try clear p2
  try clear c4
  try clear c6
  try clear c10
  try clear c10b0
  try clear c10b1
  try clear c10b2
  obtain ⟨kq,x19_5,rfl,HA,HJ5,HO_1,HO_2,BK231,HB⟩:=hcut
  cases kq with
 |zero=>exact absurd HA.out (by simp [rat_made.j0])
 |succ kj5 =>
   have H:=HA.out
   clear HA
   simp only [rat_made.j0] at H
   by_cases c14 : x19_5=true
   ·subst c14
    have H1 : ((rat_one.f).bind fun t238=>(some (false,([] : List Int),t238)))=some (r1,r2,r3):=by rw [if_pos rfl] at H;exact H
    clear H
    have H:=H1
    clear H1
    replace H:=Option.bind_eq_some_iff.mp H
    obtain ⟨t238,A150,H⟩:=H
    replace H : (some (false,([] : List Int),t238))=some (r1,r2,r3):=H
    have A15:=Aside0.mk A150
    clear A150
    simp only [Option.some.injEq,Prod.mk.injEq] at H
    obtain ⟨rfl,rfl,rfl⟩:=H
    go_wp2_with (first|((with_reducible refine gate_callee (f:=42) rfl ?_);refine goesL_ (some 20) rfl rfl Try.func42 (by kernel_rfl) rfl #[] rfl (by (try simp only [List.map_toArray,List.map_cons,List.map_nil]);first|done|rfl|(simp only [List.length_drop,List.length_take];rfl)) ?_;(with_reducible refine (rat_one.calls  t238 _ A15.out).mono ?_);rintro e w16 ⟨v239,rfl,ho0,hb⟩;refine ⟨_,rfl,?_⟩;have n0_:=Aside0.mk (Kd.R_elder' (by (with_reducible repeat (first|apply Kd.R_alloc|apply Kd.R_drewN|apply Kd.R_drew));exact HO_1.out) (Kd.R_base ho0) hb);have n1_:=Aside0.mk (Kd.R_elder' (by (with_reducible repeat (first|apply Kd.R_alloc|apply Kd.R_drewN|apply Kd.R_drew));exact HO_2.out) (Kd.R_base ho0) hb);have n2_:=Aside0.mk (Kd.R_lower (Kd.R_new' (Kd.R_new' ho0 (Kd.R_lt (by (with_reducible repeat (first|apply Kd.R_alloc|apply Kd.R_drewN|apply Kd.R_drew));exact HO_1.out))) (Kd.R_lt (by (with_reducible repeat (first|apply Kd.R_alloc|apply Kd.R_drewN|apply Kd.R_drew));exact HO_2.out))) (below_size (by repeat (first|(with_reducible first|exact HB.out|apply below_alloc|apply pw_below_drewN|apply below_drew1|refine below_set ?_ GE231.out)|exact HB.out))));have n3_:=Aside0.mk (blk_below (g:=gb231) (o:=.cells #[.bool false,.slice none 0 0,.slice none 0 0] 63 (0,0)) (by (with_reducible repeat (first|refine blk_drewN ?_ _|refine blk_drew ?_|refine blk_alloc ?_ _));exact BK231.out) hb);have n4_:=Aside0.mk (below_step (by repeat (first|(with_reducible first|exact HB.out|apply below_alloc|apply pw_below_drewN|apply below_drew1|refine below_set ?_ GE231.out)|exact HB.out)) hb);clear HO_1;clear HO_2;clear BK231;clear HB;have HO_1:=n0_;have HO_2:=n1_;have HO240:=n2_;have BK231:=n3_;have HB:=n4_;clear n0_ n1_ n2_ n3_ n4_;(try clear hb);(try clear hb2);(try clear hk);(try clear hi);(try clear ho0);obtain ⟨Ao17,co17,eo17⟩:=Kd.R_slice HO240.out;subst eo17;have hcz18_0 : w16.cell? ⟨gb231,0,none⟩=some (.bool false):=(blk_cell BK231.out 0).trans rfl;have hcz18_1 : w16.cell? ⟨gb231,1,none⟩=some (.slice none 0 0):=(blk_cell BK231.out 1).trans rfl;have hcz18_2 : w16.cell? ⟨gb231,2,none⟩=some (.slice none 0 0):=(blk_cell BK231.out 2).trans rfl;have hfz18_0:=blk_frozen BK231.out 0;have hfz18_1:=blk_frozen BK231.out 1;have hfz18_2:=blk_frozen BK231.out 2))
    refine bodyPost_ret (results_cell_row rfl _ _ gb231 63 #[.bool false,.slice none 0 0,.slice Ao17 t238.length co17] (0,0) _ rfl (by (with_reducible repeat (first|refine blk_drewN ?_ _|refine blk_drew ?_|refine blk_alloc ?_ _));refine blk_put (cs:=#[.bool false,.slice none 0 0,.slice none 0 0]) ?_ 2 _ rfl;(with_reducible repeat (first|refine blk_drewN ?_ _|refine blk_drew ?_|refine blk_alloc ?_ _));refine blk_put (cs:=#[.bool false,.slice none 0 0,.slice none 0 0]) ?_ 1 _ rfl;(with_reducible repeat (first|refine blk_drewN ?_ _|refine blk_drew ?_|refine blk_alloc ?_ _));refine blk_put (cs:=#[.bool false,.slice none 0 0,.slice none 0 0]) ?_ 0 _ rfl;(with_reducible repeat (first|refine blk_drewN ?_ _|refine blk_drew ?_|refine blk_alloc ?_ _));exact BK231.out) Try.underlying63 rfl (by kernel_rfl)) rfl ?_
    exact ⟨_,_,by first|rfl|(simp [errW_none,errW_some] <;> rfl)|(simp [*,errW_none,errW_some] <;> rfl),by first|exact Kd.R_nil _ _ _ _ _|exact Kd.N_nil _ _ _ _ _|exact Kd.V_nil _ _ _ _ _|exact Kd.Q_nil _ _ _ _ _|exact Kd.S_nil _ _ _ _ _,by (with_reducible repeat (first|apply Kd.R_alloc|apply Kd.R_drewN|apply Kd.R_drew));exact Kd.R_mono (Kd.R_far (p:=⟨gb231,2,none⟩) (Kd.R_far (p:=⟨gb231,1,none⟩) (Kd.R_far (p:=⟨gb231,0,none⟩) (Kd.R_types HO240.out BK231.out (by decide)) (fun _ hk=>hk.2) (.bool false)) (fun _ hk=>hk.2) (.slice none 0 0)) (fun _ hk=>hk.2) (.slice Ao17 t238.length co17)) (fun _ hk=>(by simp [Value.ownBlock])),by repeat (first|(with_reducible first|exact HB.out|apply below_alloc|apply pw_below_drewN|apply below_drew1|refine below_set ?_ GE231.out)|exact HB.out)⟩
   ·replace c14:=Bool.eq_false_iff.mpr c14
    subst c14
    have H1 : ((root_Gcd.f kj5 t232 t235).bind fun t241=>(if (t241.length : Int) > 1 then (rat_made.j1 kj5 a0 t232 t235 t241 true) else (if 0 < (t241.length : Int) then (rat_made.j1 kj5 a0 t232 t235 t241 (decide ((rd t241 0) > 1))) else (none))))=some (r1,r2,r3):=by rw [if_neg (show ¬ (false=true) by decide)] at H;exact H
    clear H
    have H:=H1
    clear H1
    replace H:=Option.bind_eq_some_iff.mp H
    obtain ⟨t241,A190,H⟩:=H
    replace H : (if (t241.length : Int) > 1 then (rat_made.j1 kj5 a0 t232 t235 t241 true) else (if 0 < (t241.length : Int) then (rat_made.j1 kj5 a0 t232 t235 t241 (decide ((rd t241 0) > 1))) else (none)))=some (r1,r2,r3):=H
    have A19:=Aside0.mk A190
    clear A190
    have HC20:=Aside0.mk H
    clear H
    obtain ⟨Ao21,co21,eo21⟩:=Kd.R_slice HO_1.out
    subst eo21
    obtain ⟨Ao22,co22,eo22⟩:=Kd.R_slice HO_2.out
    subst eo22
    go_upto_region 5 with (first|((with_reducible refine gate_callee (f:=61) rfl ?_);refine goesL_ (some 24) rfl rfl Try.func61 (by kernel_rfl) rfl #[.slice Ao21 t232.length co21,.slice Ao22 t235.length co22] rfl (by (try simp only [List.map_toArray,List.map_cons,List.map_nil]);first|done|rfl|(simp only [List.length_drop,List.length_take];rfl)) ?_;(with_reducible refine (root_Gcd.calls kj5 _ _ t232 _ _ t235 t241 _ ?side1 ?side2 ?side3 ?side4 A19.out).mono ?_);(case side1=>repeat (first|exact (Kd.R_reads' HO_1.out).2.2|(with_reducible refine Kd.C_alloc ?_ _)|(with_reducible refine Kd.C_drewN ?_ _)|(with_reducible refine Kd.C_drew ?_)));(case side2=>exact (Kd.R_reads' HO_1.out).2.1);(case side3=>repeat (first|exact (Kd.R_reads' HO_2.out).2.2|(with_reducible refine Kd.C_alloc ?_ _)|(with_reducible refine Kd.C_drewN ?_ _)|(with_reducible refine Kd.C_drew ?_)));(case side4=>exact (Kd.R_reads' HO_2.out).2.1);rintro e w23 ⟨v242,rfl,ho0,hb⟩;refine ⟨_,rfl,?_⟩;have n0_:=Aside0.mk (Kd.R_elder' (by (with_reducible repeat (first|apply Kd.R_alloc|apply Kd.R_drewN|apply Kd.R_drew));exact HO_1.out) (Kd.R_base ho0) hb);have n1_:=Aside0.mk (Kd.R_elder' (by (with_reducible repeat (first|apply Kd.R_alloc|apply Kd.R_drewN|apply Kd.R_drew));exact HO_2.out) (Kd.R_base ho0) hb);have n2_:=Aside0.mk (Kd.R_lower (Kd.R_new' (Kd.R_new' ho0 (Kd.R_lt (by (with_reducible repeat (first|apply Kd.R_alloc|apply Kd.R_drewN|apply Kd.R_drew));exact HO_1.out))) (Kd.R_lt (by (with_reducible repeat (first|apply Kd.R_alloc|apply Kd.R_drewN|apply Kd.R_drew));exact HO_2.out))) (below_size (by repeat (first|(with_reducible first|exact HB.out|apply below_alloc|apply pw_below_drewN|apply below_drew1|refine below_set ?_ GE231.out)|exact HB.out))));have n3_:=Aside0.mk (blk_below (g:=gb231) (o:=.cells #[.bool false,.slice none 0 0,.slice none 0 0] 63 (0,0)) (by (with_reducible repeat (first|refine blk_drewN ?_ _|refine blk_drew ?_|refine blk_alloc ?_ _));exact BK231.out) hb);have n4_:=Aside0.mk (below_step (by repeat (first|(with_reducible first|exact HB.out|apply below_alloc|apply pw_below_drewN|apply below_drew1|refine below_set ?_ GE231.out)|exact HB.out)) hb);clear HO_1;clear HO_2;clear BK231;clear HB;have HO_1:=n0_;have HO_2:=n1_;have HO243:=n2_;have BK231:=n3_;have HB:=n4_;clear n0_ n1_ n2_ n3_ n4_;(try clear hb);(try clear hb2);(try clear hk);(try clear hi);(try clear ho0)))
    (try simp only [Act.put,List.setIfInBounds_toArray,List.set_cons_zero,List.set_cons_succ])
    go_cut [33] (fun v33 wc=>∃ (kq : Nat) (x33_19 : Bool),v33=.bool x33_19∧Aside0 (rat_made.j1 kq a0 t232 t235 t241 x33_19=some (r1,r2,r3))∧Aside0 (kq≤kj5)∧Aside0 (Kd.R (Kd.int .u32) 82 wc w.heap.size (fun k_=>some k_≠((.slice Ao22 t235.length co22) : Value).ownBlock∧some k_≠(v242 : Value).ownBlock) (.slice Ao21 t232.length co21) t232)∧Aside0 (Kd.R (Kd.int .u32) 82 wc w.heap.size (fun k_=>some k_≠((.slice Ao21 t232.length co21) : Value).ownBlock∧some k_≠(v242 : Value).ownBlock) (.slice Ao22 t235.length co22) t235)∧Aside0 (Kd.R (Kd.int .u32) 82 wc w.heap.size (fun k_=>some k_≠((.slice Ao21 t232.length co21) : Value).ownBlock∧some k_≠((.slice Ao22 t235.length co22) : Value).ownBlock) v242 t241)∧Aside0 (wc.heap[gb231]? = some (.cells #[.bool false,(.slice none 0 0),(.slice none 0 0)] 63 (0,0)))∧Aside0 (Below w.heap.size w wc))
    case first =>
     have H:=HC20.out
     clear HC20
     by_cases c24 : (t241.length : Int) > 1
     ·rw [if_pos c24] at H
      have c24b0 : decide (1 < (t241.length : Int))=true:=decide_eq_true c24
      have c24b1 : decide (1 < t241.length)=true:=decide_eq_true (by omega)
      clear c24
      (first|rw [c24b0]|(simp only [i64_w,i32_w];rw [c24b0])|skip)
      have H':=Aside0.mk H
      clear H
      obtain ⟨Ao25,co25,eo25⟩:=Kd.R_slice HO243.out
      subst eo25
      go_wp2
      go_meet
      case rel=>exact ⟨_,(true),(by first|rfl|(simp;done)|(simp [*];done)),H',⟨by have:=HJ5.out;first|omega|exact Nat.le_refl _⟩,⟨by (with_reducible repeat (first|apply Kd.R_alloc|apply Kd.R_drewN|apply Kd.R_drew));exact HO_1.out⟩,⟨by (with_reducible repeat (first|apply Kd.R_alloc|apply Kd.R_drewN|apply Kd.R_drew));exact HO_2.out⟩,⟨by (with_reducible repeat (first|apply Kd.R_alloc|apply Kd.R_drewN|apply Kd.R_drew));exact Kd.R_mono HO243.out (fun _ hk=>⟨hk.1.2,hk.2⟩)⟩,⟨by (with_reducible repeat (first|refine blk_drewN ?_ _|refine blk_drew ?_|refine blk_alloc ?_ _));exact BK231.out⟩,⟨by repeat (first|(with_reducible first|exact HB.out|apply below_alloc|apply pw_below_drewN|apply below_drew1|refine below_set ?_ GE231.out)|exact HB.out)⟩⟩
     ·rw [if_neg c24] at H
      have c24b0 : decide (1 < (t241.length : Int))=false:=decide_eq_false c24
      have c24b1 : decide (1 < t241.length)=false:=decide_eq_false (by omega)
      clear c24
      (first|rw [c24b0]|(simp only [i64_w,i32_w];rw [c24b0])|skip)
      by_cases c26 : 0 < (t241.length : Int)
      ·rw [if_pos c26] at H
       have c26b0 : decide (0 < (t241.length : Int))=true:=decide_eq_true c26
       have c26b1 : decide (0 < t241.length)=true:=decide_eq_true (by omega)
       clear c26
       have H':=Aside0.mk H
       clear H
       obtain ⟨Ao27,co27,eo27⟩:=Kd.R_slice HO243.out
       subst eo27
       have p244 : 0≤(0 : Int):=(by omega)
       have q244 : 0 < (t241.length : Int):=of_decide_eq_true (by first|(with_reducible assumption)|assumption)
       obtain ⟨ad244,e244,hx244_0⟩:=Kd.at_int (Kd.R_reads' HO243.out).2.2 0 p244 q244
       cases e244
       have qi244 : (0 < t241.length)=True:=eq_true (by omega)
       (try rw [show ((0 : Int)).toNat=0 from rfl] at hx244_0)
       (try rw [Addr.add_zero'] at hx244_0)
       replace p244:=eq_true p244
       replace q244:=eq_true q244
       go_wp2
       go_meet
       case rel=>exact ⟨_,(decide ((rd t241 0) > 1)),(by first|rfl|(simp;done)|(simp [*];done)),H',⟨by have:=HJ5.out;first|omega|exact Nat.le_refl _⟩,⟨by (with_reducible repeat (first|apply Kd.R_alloc|apply Kd.R_drewN|apply Kd.R_drew));exact HO_1.out⟩,⟨by (with_reducible repeat (first|apply Kd.R_alloc|apply Kd.R_drewN|apply Kd.R_drew));exact HO_2.out⟩,⟨by (with_reducible repeat (first|apply Kd.R_alloc|apply Kd.R_drewN|apply Kd.R_drew));exact Kd.R_mono HO243.out (fun _ hk=>⟨hk.1.2,hk.2⟩)⟩,⟨by (with_reducible repeat (first|refine blk_drewN ?_ _|refine blk_drew ?_|refine blk_alloc ?_ _));exact BK231.out⟩,⟨by repeat (first|(with_reducible first|exact HB.out|apply below_alloc|apply pw_below_drewN|apply below_drew1|refine below_set ?_ GE231.out)|exact HB.out)⟩⟩
      ·rw [if_neg c26] at H
       exact absurd H (by simp)
    case rest =>
     clear HC20
     try clear c1
     try clear c2
     try clear p2
     try clear q2
     try clear hx2
     try clear qi2
     try clear c4
     try clear c6
     try clear c10
     try clear c10b0
     try clear c10b1
     try clear c10b2
     try clear c14
     try clear c24
     try clear c24b0
     try clear c24b1
     try clear p24
     try clear q24
     try clear hx24
     try clear qi24
     try clear c26
     try clear c26b0
     try clear c26b1
     try clear hcz18_0
     try clear hcz18_1
     try clear hcz18_2
     try clear hfz18_0
     try clear hfz18_1
     try clear hfz18_2
     try clear hx244_0
     try clear p2
     try clear p244
     try clear q244
     obtain ⟨kq,x33_19,rfl,HA,HJ19,HO_1,HO_2,HO_7,BK231,HB⟩:=hcut
     cases kq with
    |zero=>exact absurd HA.out (by simp [rat_made.j1])
    |succ kj19 =>
      have H:=HA.out
      clear HA
      simp only [rat_made.j1] at H
      by_cases c28 : x33_19=true
      ·subst c28
       have H1 : ((nat_DivMod.f kj19 t232 t241).bind fun bt245=>((nat_DivMod.f kj19 t235 t241).bind fun bt252=>(some (a0,bt245.1,bt252.1))))=some (r1,r2,r3):=by rw [if_pos rfl] at H;exact H
       clear H
       have H:=H1
       clear H1
       replace H:=Option.bind_eq_some_iff.mp H
       obtain ⟨⟨t245,t246,t247⟩,A290,H⟩:=H
       replace H : ((nat_DivMod.f kj19 t235 t241).bind fun bt252=>(some (a0,t245,bt252.1)))=some (r1,r2,r3):=H
       have A29:=Aside0.mk A290
       clear A290
       replace H:=Option.bind_eq_some_iff.mp H
       obtain ⟨⟨t252,t253,t254⟩,A300,H⟩:=H
       replace H : (some (a0,t245,t252))=some (r1,r2,r3):=H
       have A30:=Aside0.mk A300
       clear A300
       simp only [Option.some.injEq,Prod.mk.injEq] at H
       obtain ⟨rfl,rfl,rfl⟩:=H
       obtain ⟨Ao31,co31,eo31⟩:=Kd.R_slice HO_7.out
       subst eo31
       go_wp2_with (first|((with_reducible refine gate_callee (f:=62) rfl ?_);refine goesL_ (some 37) rfl rfl Try.func62 (by kernel_rfl) rfl #[.slice Ao21 t232.length co21,.slice Ao31 t241.length co31] rfl (by (try simp only [List.map_toArray,List.map_cons,List.map_nil]);first|done|rfl|(simp only [List.length_drop,List.length_take];rfl)) ?_;(with_reducible refine (nat_DivMod.calls kj19 _ _ t232 _ _ t241 t245 t246 t247 _ ?side1 ?side2 ?side3 ?side4 A29.out).mono ?_);(case side1=>repeat (first|exact (Kd.R_reads' HO_1.out).2.2|(with_reducible refine Kd.C_alloc ?_ _)|(with_reducible refine Kd.C_drewN ?_ _)|(with_reducible refine Kd.C_drew ?_)));(case side2=>exact (Kd.R_reads' HO_1.out).2.1);(case side3=>repeat (first|exact (Kd.R_reads' HO_7.out).2.2|(with_reducible refine Kd.C_alloc ?_ _)|(with_reducible refine Kd.C_drewN ?_ _)|(with_reducible refine Kd.C_drew ?_)));(case side4=>exact (Kd.R_reads' HO_7.out).2.1);rintro e w32 ⟨v248,v250,rfl,ho0,ho1,hb⟩;refine ⟨_,rfl,?_⟩;have n0_:=Aside0.mk (Kd.R_mono (Kd.R_told (Kd.R_told (Kd.R_old (by (with_reducible repeat (first|apply Kd.R_alloc|apply Kd.R_drewN|apply Kd.R_drew));exact HO_1.out) hb) (Kd.R_base ho0)) (Kd.R_base ho1)) (fun _ h_=>h_.1));have n1_:=Aside0.mk (Kd.R_mono (Kd.R_told (Kd.R_told (Kd.R_old (by (with_reducible repeat (first|apply Kd.R_alloc|apply Kd.R_drewN|apply Kd.R_drew));exact HO_2.out) hb) (Kd.R_base ho0)) (Kd.R_base ho1)) (fun _ h_=>h_.1));have n2_:=Aside0.mk (Kd.R_mono (Kd.R_told (Kd.R_told (Kd.R_old (by (with_reducible repeat (first|apply Kd.R_alloc|apply Kd.R_drewN|apply Kd.R_drew));exact HO_7.out) hb) (Kd.R_base ho0)) (Kd.R_base ho1)) (fun _ h_=>h_.1));have n3_:=Aside0.mk (Kd.R_lower (Kd.R_new' (Kd.R_new' (Kd.R_new' ho0 (Kd.R_lt (by (with_reducible repeat (first|apply Kd.R_alloc|apply Kd.R_drewN|apply Kd.R_drew));exact HO_1.out))) (Kd.R_lt (by (with_reducible repeat (first|apply Kd.R_alloc|apply Kd.R_drewN|apply Kd.R_drew));exact HO_2.out))) (Kd.R_lt (by (with_reducible repeat (first|apply Kd.R_alloc|apply Kd.R_drewN|apply Kd.R_drew));exact HO_7.out))) (below_size (by repeat (first|(with_reducible first|exact HB.out|apply below_alloc|apply pw_below_drewN|apply below_drew1|refine below_set ?_ GE231.out)|exact HB.out))));have n4_:=Aside0.mk (Kd.R_lower (Kd.R_new' (Kd.R_new' (Kd.R_new' ho1 (Kd.R_lt (by (with_reducible repeat (first|apply Kd.R_alloc|apply Kd.R_drewN|apply Kd.R_drew));exact HO_1.out))) (Kd.R_lt (by (with_reducible repeat (first|apply Kd.R_alloc|apply Kd.R_drewN|apply Kd.R_drew));exact HO_2.out))) (Kd.R_lt (by (with_reducible repeat (first|apply Kd.R_alloc|apply Kd.R_drewN|apply Kd.R_drew));exact HO_7.out))) (below_size (by repeat (first|(with_reducible first|exact HB.out|apply below_alloc|apply pw_below_drewN|apply below_drew1|refine below_set ?_ GE231.out)|exact HB.out))));have n5_:=Aside0.mk (blk_below (g:=gb231) (o:=.cells #[.bool false,.slice none 0 0,.slice none 0 0] 63 (0,0)) (by (with_reducible repeat (first|refine blk_drewN ?_ _|refine blk_drew ?_|refine blk_alloc ?_ _));exact BK231.out) hb);have n6_:=Aside0.mk (below_step (by repeat (first|(with_reducible first|exact HB.out|apply below_alloc|apply pw_below_drewN|apply below_drew1|refine below_set ?_ GE231.out)|exact HB.out)) hb);clear HO_1;clear HO_2;clear HO_7;clear BK231;clear HB;have HO_1:=n0_;have HO_2:=n1_;have HO_7:=n2_;have HO249:=n3_;have HO251:=n4_;have BK231:=n5_;have HB:=n6_;clear n0_ n1_ n2_ n3_ n4_ n5_ n6_;(try clear hb);(try clear hb2);(try clear hk);(try clear hi);(try clear ho0);(try clear ho1))|((with_reducible refine gate_callee (f:=62) rfl ?_);refine goesL_ (some 44) rfl rfl Try.func62 (by kernel_rfl) rfl #[.slice Ao22 t235.length co22,.slice Ao31 t241.length co31] rfl (by (try simp only [List.map_toArray,List.map_cons,List.map_nil]);first|done|rfl|(simp only [List.length_drop,List.length_take];rfl)) ?_;(with_reducible refine (nat_DivMod.calls kj19 _ _ t235 _ _ t241 t252 t253 t254 _ ?side1 ?side2 ?side3 ?side4 A30.out).mono ?_);(case side1=>repeat (first|exact (Kd.R_reads' HO_2.out).2.2|(with_reducible refine Kd.C_alloc ?_ _)|(with_reducible refine Kd.C_drewN ?_ _)|(with_reducible refine Kd.C_drew ?_)));(case side2=>exact (Kd.R_reads' HO_2.out).2.1);(case side3=>repeat (first|exact (Kd.R_reads' HO_7.out).2.2|(with_reducible refine Kd.C_alloc ?_ _)|(with_reducible refine Kd.C_drewN ?_ _)|(with_reducible refine Kd.C_drew ?_)));(case side4=>exact (Kd.R_reads' HO_7.out).2.1);rintro e w33 ⟨v255,v257,rfl,ho0,ho1,hb⟩;refine ⟨_,rfl,?_⟩;have n0_:=Aside0.mk (Kd.R_mono (Kd.R_told (Kd.R_told (Kd.R_old (by (with_reducible repeat (first|apply Kd.R_alloc|apply Kd.R_drewN|apply Kd.R_drew));exact HO_1.out) hb) (Kd.R_base ho0)) (Kd.R_base ho1)) (fun _ h_=>h_.1));have n1_:=Aside0.mk (Kd.R_mono (Kd.R_told (Kd.R_told (Kd.R_old (by (with_reducible repeat (first|apply Kd.R_alloc|apply Kd.R_drewN|apply Kd.R_drew));exact HO_2.out) hb) (Kd.R_base ho0)) (Kd.R_base ho1)) (fun _ h_=>h_.1));have n2_:=Aside0.mk (Kd.R_mono (Kd.R_told (Kd.R_told (Kd.R_old (by (with_reducible repeat (first|apply Kd.R_alloc|apply Kd.R_drewN|apply Kd.R_drew));exact HO_7.out) hb) (Kd.R_base ho0)) (Kd.R_base ho1)) (fun _ h_=>h_.1));have n3_:=Aside0.mk (Kd.R_mono (Kd.R_told (Kd.R_told (Kd.R_old (by (with_reducible repeat (first|apply Kd.R_alloc|apply Kd.R_drewN|apply Kd.R_drew));exact HO249.out) hb) (Kd.R_base ho0)) (Kd.R_base ho1)) (fun _ h_=>h_.1));have n4_:=Aside0.mk (Kd.R_mono (Kd.R_told (Kd.R_told (Kd.R_old (by (with_reducible repeat (first|apply Kd.R_alloc|apply Kd.R_drewN|apply Kd.R_drew));exact HO251.out) hb) (Kd.R_base ho0)) (Kd.R_base ho1)) (fun _ h_=>h_.1));have n5_:=Aside0.mk (Kd.R_lower (Kd.R_new' (Kd.R_new' (Kd.R_new' (Kd.R_new' (Kd.R_new' ho0 (Kd.R_lt (by (with_reducible repeat (first|apply Kd.R_alloc|apply Kd.R_drewN|apply Kd.R_drew));exact HO_1.out))) (Kd.R_lt (by (with_reducible repeat (first|apply Kd.R_alloc|apply Kd.R_drewN|apply Kd.R_drew));exact HO_2.out))) (Kd.R_lt (by (with_reducible repeat (first|apply Kd.R_alloc|apply Kd.R_drewN|apply Kd.R_drew));exact HO_7.out))) (Kd.R_lt (by (with_reducible repeat (first|apply Kd.R_alloc|apply Kd.R_drewN|apply Kd.R_drew));exact HO249.out))) (Kd.R_lt (by (with_reducible repeat (first|apply Kd.R_alloc|apply Kd.R_drewN|apply Kd.R_drew));exact HO251.out))) (below_size (by repeat (first|(with_reducible first|exact HB.out|apply below_alloc|apply pw_below_drewN|apply below_drew1|refine below_set ?_ GE231.out)|exact HB.out))));have n6_:=Aside0.mk (Kd.R_lower (Kd.R_new' (Kd.R_new' (Kd.R_new' (Kd.R_new' (Kd.R_new' ho1 (Kd.R_lt (by (with_reducible repeat (first|apply Kd.R_alloc|apply Kd.R_drewN|apply Kd.R_drew));exact HO_1.out))) (Kd.R_lt (by (with_reducible repeat (first|apply Kd.R_alloc|apply Kd.R_drewN|apply Kd.R_drew));exact HO_2.out))) (Kd.R_lt (by (with_reducible repeat (first|apply Kd.R_alloc|apply Kd.R_drewN|apply Kd.R_drew));exact HO_7.out))) (Kd.R_lt (by (with_reducible repeat (first|apply Kd.R_alloc|apply Kd.R_drewN|apply Kd.R_drew));exact HO249.out))) (Kd.R_lt (by (with_reducible repeat (first|apply Kd.R_alloc|apply Kd.R_drewN|apply Kd.R_drew));exact HO251.out))) (below_size (by repeat (first|(with_reducible first|exact HB.out|apply below_alloc|apply pw_below_drewN|apply below_drew1|refine below_set ?_ GE231.out)|exact HB.out))));have n7_:=Aside0.mk (blk_below (g:=gb231) (o:=.cells #[.bool false,.slice none 0 0,.slice none 0 0] 63 (0,0)) (by (with_reducible repeat (first|refine blk_drewN ?_ _|refine blk_drew ?_|refine blk_alloc ?_ _));exact BK231.out) hb);have n8_:=Aside0.mk (below_step (by repeat (first|(with_reducible first|exact HB.out|apply below_alloc|apply pw_below_drewN|apply below_drew1|refine below_set ?_ GE231.out)|exact HB.out)) hb);clear HO_1;clear HO_2;clear HO_7;clear HO249;clear HO251;clear BK231;clear HB;have HO_1:=n0_;have HO_2:=n1_;have HO_7:=n2_;have HO249:=n3_;have HO251:=n4_;have HO256:=n5_;have HO258:=n6_;have BK231:=n7_;have HB:=n8_;clear n0_ n1_ n2_ n3_ n4_ n5_ n6_ n7_ n8_;(try clear hb);(try clear hb2);(try clear hk);(try clear hi);(try clear ho0);(try clear ho1);obtain ⟨Ao34,co34,eo34⟩:=Kd.R_slice HO256.out;subst eo34;obtain ⟨Ao35,co35,eo35⟩:=Kd.R_slice HO249.out;subst eo35;have hcz36_0 : w33.cell? ⟨gb231,0,none⟩=some (.bool false):=(blk_cell BK231.out 0).trans rfl;have hcz36_1 : w33.cell? ⟨gb231,1,none⟩=some (.slice none 0 0):=(blk_cell BK231.out 1).trans rfl;have hcz36_2 : w33.cell? ⟨gb231,2,none⟩=some (.slice none 0 0):=(blk_cell BK231.out 2).trans rfl;have hfz36_0:=blk_frozen BK231.out 0;have hfz36_1:=blk_frozen BK231.out 1;have hfz36_2:=blk_frozen BK231.out 2))
       refine bodyPost_ret (results_cell_row rfl _ _ gb231 63 #[.bool a0,.slice Ao35 t245.length co35,.slice Ao34 t252.length co34] (0,0) _ rfl (by (with_reducible repeat (first|refine blk_drewN ?_ _|refine blk_drew ?_|refine blk_alloc ?_ _));refine blk_put (cs:=#[.bool a0,.slice Ao35 t245.length co35,.slice none 0 0]) ?_ 2 _ rfl;(with_reducible repeat (first|refine blk_drewN ?_ _|refine blk_drew ?_|refine blk_alloc ?_ _));refine blk_put (cs:=#[.bool a0,.slice none 0 0,.slice none 0 0]) ?_ 1 _ rfl;(with_reducible repeat (first|refine blk_drewN ?_ _|refine blk_drew ?_|refine blk_alloc ?_ _));refine blk_put (cs:=#[.bool false,.slice none 0 0,.slice none 0 0]) ?_ 0 _ rfl;(with_reducible repeat (first|refine blk_drewN ?_ _|refine blk_drew ?_|refine blk_alloc ?_ _));exact BK231.out) Try.underlying63 rfl (by kernel_rfl)) rfl ?_
       exact ⟨_,_,by first|rfl|(simp [errW_none,errW_some] <;> rfl)|(simp [*,errW_none,errW_some] <;> rfl),by (with_reducible repeat (first|apply Kd.R_alloc|apply Kd.R_drewN|apply Kd.R_drew));exact Kd.R_mono (Kd.R_far (p:=⟨gb231,2,none⟩) (Kd.R_far (p:=⟨gb231,1,none⟩) (Kd.R_far (p:=⟨gb231,0,none⟩) (Kd.R_types HO249.out BK231.out (by decide)) (fun _ hk=>hk.2) (.bool a0)) (fun _ hk=>hk.2) (.slice Ao35 t245.length co35)) (fun _ hk=>hk.2) (.slice Ao34 t252.length co34)) (fun _ hk=>hk.1.1.2),by (with_reducible repeat (first|apply Kd.R_alloc|apply Kd.R_drewN|apply Kd.R_drew));exact Kd.R_mono (Kd.R_far (p:=⟨gb231,2,none⟩) (Kd.R_far (p:=⟨gb231,1,none⟩) (Kd.R_far (p:=⟨gb231,0,none⟩) (Kd.R_types HO256.out BK231.out (by decide)) (fun _ hk=>hk.2) (.bool a0)) (fun _ hk=>hk.2) (.slice Ao35 t245.length co35)) (fun _ hk=>hk.2) (.slice Ao34 t252.length co34)) (fun _ hk=>hk.1.1.2),by repeat (first|(with_reducible first|exact HB.out|apply below_alloc|apply pw_below_drewN|apply below_drew1|refine below_set ?_ GE231.out)|exact HB.out)⟩
      ·replace c28:=Bool.eq_false_iff.mpr c28
       subst c28
       have H1 : (some (a0,t232,t235))=some (r1,r2,r3):=by rw [if_neg (show ¬ (false=true) by decide)] at H;exact H
       clear H
       have H:=H1
       clear H1
       simp only [Option.some.injEq,Prod.mk.injEq] at H
       obtain ⟨rfl,rfl,rfl⟩:=H
       have hcz37_0 : wc.cell? ⟨gb231,0,none⟩=some (.bool false):=(blk_cell BK231.out 0).trans rfl
       have hcz37_1 : wc.cell? ⟨gb231,1,none⟩=some (.slice none 0 0):=(blk_cell BK231.out 1).trans rfl
       have hcz37_2 : wc.cell? ⟨gb231,2,none⟩=some (.slice none 0 0):=(blk_cell BK231.out 2).trans rfl
       have hfz37_0:=blk_frozen BK231.out 0
       have hfz37_1:=blk_frozen BK231.out 1
       have hfz37_2:=blk_frozen BK231.out 2
       go_wp2
       refine bodyPost_ret (results_cell_row rfl _ _ gb231 63 #[.bool a0,.slice Ao21 t232.length co21,.slice Ao22 t235.length co22] (0,0) _ rfl (by (with_reducible repeat (first|refine blk_drewN ?_ _|refine blk_drew ?_|refine blk_alloc ?_ _));refine blk_put (cs:=#[.bool a0,.slice Ao21 t232.length co21,.slice none 0 0]) ?_ 2 _ rfl;(with_reducible repeat (first|refine blk_drewN ?_ _|refine blk_drew ?_|refine blk_alloc ?_ _));refine blk_put (cs:=#[.bool a0,.slice none 0 0,.slice none 0 0]) ?_ 1 _ rfl;(with_reducible repeat (first|refine blk_drewN ?_ _|refine blk_drew ?_|refine blk_alloc ?_ _));refine blk_put (cs:=#[.bool false,.slice none 0 0,.slice none 0 0]) ?_ 0 _ rfl;(with_reducible repeat (first|refine blk_drewN ?_ _|refine blk_drew ?_|refine blk_alloc ?_ _));exact BK231.out) Try.underlying63 rfl (by kernel_rfl)) rfl ?_
       exact ⟨_,_,by first|rfl|(simp [errW_none,errW_some] <;> rfl)|(simp [*,errW_none,errW_some] <;> rfl),by (with_reducible repeat (first|apply Kd.R_alloc|apply Kd.R_drewN|apply Kd.R_drew));exact Kd.R_mono (Kd.R_far (p:=⟨gb231,2,none⟩) (Kd.R_far (p:=⟨gb231,1,none⟩) (Kd.R_far (p:=⟨gb231,0,none⟩) (Kd.R_types HO_1.out BK231.out (by decide)) (fun _ hk=>hk.2) (.bool a0)) (fun _ hk=>hk.2) (.slice Ao21 t232.length co21)) (fun _ hk=>hk.2) (.slice Ao22 t235.length co22)) (fun _ hk=>hk.1.1),by (with_reducible repeat (first|apply Kd.R_alloc|apply Kd.R_drewN|apply Kd.R_drew));exact Kd.R_mono (Kd.R_far (p:=⟨gb231,2,none⟩) (Kd.R_far (p:=⟨gb231,1,none⟩) (Kd.R_far (p:=⟨gb231,0,none⟩) (Kd.R_types HO_2.out BK231.out (by decide)) (fun _ hk=>hk.2) (.bool a0)) (fun _ hk=>hk.2) (.slice Ao21 t232.length co21)) (fun _ hk=>hk.2) (.slice Ao22 t235.length co22)) (fun _ hk=>hk.1.1),by repeat (first|(with_reducible first|exact HB.out|apply below_alloc|apply pw_below_drewN|apply below_drew1|refine below_set ?_ GE231.out)|exact HB.out)⟩
theorem rat_Read.calls (k : Nat) (a0_0 : Bool) (A0_1 : Option Addr) (c0_1 : Nat) (l0_1 : List Int) (A0_2 : Option Addr) (c0_2 : Nat) (l0_2 : List Int) (r1 : Bool) (r2 : List Int) (r3 : List Int) (w : World) (hr0_1 : Kd.C (Kd.int .u32) w A0_1 l0_1.length l0_1) (hc0_1 : l0_1.length≤c0_1) (hr0_2 : Kd.C (Kd.int .u32) w A0_2 l0_2.length l0_2) (hc0_2 : l0_2.length≤c0_2) (h : rat_Read.f k a0_0 l0_1 l0_2=some (r1,r2,r3)) :
  Calls Try.prog 41 #[.agg #[.bool a0_0,.slice A0_1 l0_1.length c0_1,.slice A0_2 l0_2.length c0_2]] w fun e w'=>∃ v1_ v2_ : Value,e=.returned (.agg #[.bool r1,v1_,v2_])∧Kd.R (Kd.int .u32) 82 w' w.heap.size (fun k_=>some k_≠(v2_ : Value).ownBlock) v1_ r2∧Kd.R (Kd.int .u32) 82 w' w.heap.size (fun k_=>some k_≠(v1_ : Value).ownBlock) v2_ r3∧Below w.heap.size w w':=by
 have hu63:=Try.underlying63
 have HR0_1:=Aside0.mk hr0_1
 have HC0_1:=Aside0.mk hc0_1
 clear hr0_1 hc0_1
 have HR0_2:=Aside0.mk hr0_2
 have HC0_2:=Aside0.mk hc0_2
 clear hr0_2 hc0_2
 have HB:=Aside0.mk (Below.refl w.heap.size w)
 have H : ((rat_made.f k a0_0 l0_1 l0_2).bind fun bt261=>(some (bt261.1,bt261.2.1,bt261.2.2)))=some (r1,r2,r3):=h
 clear h
 replace H:=Option.bind_eq_some_iff.mp H
 obtain ⟨⟨t261,t262,t265⟩,A20,H⟩:=H
 replace H : (some (t261,t262,t265))=some (r1,r2,r3):=H
 have A2:=Aside0.mk A20
 clear A20
 simp only [Option.some.injEq,Prod.mk.injEq] at H
 obtain ⟨rfl,rfl,rfl⟩:=H
 go_enter Try.func41,Try.ntmps41
 go_wp2_with (first|((with_reducible refine gate_dst (N:=1) rfl ?_);refine box_event ?hg (N:=1) ?hd (cs:=#[.bool a0_0,.slice A0_1 l0_1.length c0_1,.slice A0_2 l0_2.length c0_2]) (t:=63) ?hr ?_;(case hd=>rfl);(case hg=>rfl);(case hr=>first|(go_simp;done)|(go_simp;(with_reducible rfl))|(go_simp;rfl)|(go_simp;have hu_ : ∀ x : Int,IntKind.u32.wrap x=HMod.hMod x (4294967296 : Int):=(fun x=>by simp only [IntKind.wrap,IntKind.bits,IntKind.signed];simp);simp only [hu_,Int.emod_sub_emod]));intro gb259 hg w3 hbox hb;have n0_:=Aside0.mk (below_step (by repeat (first|(with_reducible first|exact HB.out|apply below_alloc|apply pw_below_drewN|apply below_drew1)|exact HB.out)) hb);have n1_:=Aside0.mk (hbox);have n2_:=Aside0.mk ((by rw [hg];exact (below_size (by repeat (first|(with_reducible first|exact HB.out|apply below_alloc|apply pw_below_drewN|apply below_drew1)|exact HB.out))) : w.heap.size≤gb259));have n3_:=Aside0.mk ((by rw [hg];exact (below_size (by repeat (first|(with_reducible first|exact HB.out|apply below_alloc|apply pw_below_drewN|apply below_drew1)|exact HB.out))) : w.heap.size≤gb259));clear HB;have HB:=n0_;have BK259:=n1_;have GW259:=n2_;have GE259:=n3_;clear n0_ n1_ n2_ n3_;clear hb hbox hg)|((with_reducible refine gate_dst (N:=2) rfl ?_);refine box_event ?hg (N:=2) ?hd (cs:=#[.bool false,.slice none 0 0,.slice none 0 0]) (t:=63) ?hr ?_;(case hd=>rfl);(case hg=>rfl);(case hr=>first|(go_simp;done)|(go_simp;(with_reducible rfl))|(go_simp;rfl)|(go_simp;have hu_ : ∀ x : Int,IntKind.u32.wrap x=HMod.hMod x (4294967296 : Int):=(fun x=>by simp only [IntKind.wrap,IntKind.bits,IntKind.signed];simp);simp only [hu_,Int.emod_sub_emod]));intro gb260 hg w4 hbox hb;have n0_:=Aside0.mk (blk_below (g:=gb259) (o:=.cells #[.bool a0_0,.slice A0_1 l0_1.length c0_1,.slice A0_2 l0_2.length c0_2] 63 (0,0)) (by (with_reducible repeat (first|refine blk_drewN ?_ _|refine blk_drew ?_|refine blk_alloc ?_ _));exact BK259.out) hb);have n1_:=Aside0.mk (below_step (by repeat (first|(with_reducible first|exact HB.out|apply below_alloc|apply pw_below_drewN|apply below_drew1|refine below_set ?_ GE259.out)|exact HB.out)) hb);have n2_:=Aside0.mk (hbox);have n3_:=Aside0.mk ((by rw [hg];exact (below_size (by repeat (first|(with_reducible first|exact HB.out|apply below_alloc|apply pw_below_drewN|apply below_drew1|refine below_set ?_ GE259.out)|exact HB.out))) : w.heap.size≤gb260));have n4_:=Aside0.mk ((by rw [hg];exact (below_size (by repeat (first|(with_reducible first|exact HB.out|apply below_alloc|apply pw_below_drewN|apply below_drew1|refine below_set ?_ GE259.out)|exact HB.out))) : w.heap.size≤gb260));have n5_:=Aside0.mk ((by rw [hg];exact Nat.ne_of_lt (blk_lt (g:=gb259) (o:=.cells #[.bool a0_0,.slice A0_1 l0_1.length c0_1,.slice A0_2 l0_2.length c0_2] 63 (0,0)) (by (with_reducible repeat (first|refine blk_drewN ?_ _|refine blk_drew ?_|refine blk_alloc ?_ _));exact BK259.out)) : gb259≠gb260));have n6_:=Aside0.mk ((by rw [hg];exact Nat.ne_of_gt (blk_lt (g:=gb259) (o:=.cells #[.bool a0_0,.slice A0_1 l0_1.length c0_1,.slice A0_2 l0_2.length c0_2] 63 (0,0)) (by (with_reducible repeat (first|refine blk_drewN ?_ _|refine blk_drew ?_|refine blk_alloc ?_ _));exact BK259.out)) : gb260≠gb259));clear BK259;clear HB;have BK259:=n0_;have HB:=n1_;have BK260:=n2_;have GW260:=n3_;have GE260:=n4_;have NB259_260:=n5_;have NB260_259:=n6_;clear n0_ n1_ n2_ n3_ n4_ n5_ n6_;clear hb hbox hg;have hnb5:=NB259_260.out;have hnc5:=NB260_259.out;have hcz6_0 : w4.cell? ⟨gb259,0,none⟩=some (.bool a0_0):=(blk_cell BK259.out 0).trans rfl;have hcz6_1 : w4.cell? ⟨gb259,1,none⟩=some (.slice A0_1 l0_1.length c0_1):=(blk_cell BK259.out 1).trans rfl;have hcz6_2 : w4.cell? ⟨gb259,2,none⟩=some (.slice A0_2 l0_2.length c0_2):=(blk_cell BK259.out 2).trans rfl;have hfz6_0:=blk_frozen BK259.out 0;have hfz6_1:=blk_frozen BK259.out 1;have hfz6_2:=blk_frozen BK259.out 2)|((with_reducible refine gate_callee (f:=44) rfl ?_);refine goesL_ (some 9) rfl rfl Try.func44 (by kernel_rfl) rfl #[.bool a0_0,.slice A0_1 l0_1.length c0_1,.slice A0_2 l0_2.length c0_2] rfl (by (try simp only [List.map_toArray,List.map_cons,List.map_nil]);first|done|rfl|(simp only [List.length_drop,List.length_take];rfl)) ?_;(with_reducible refine (rat_made.calls k a0_0 _ _ l0_1 _ _ l0_2 t261 t262 t265 _ ?side1 ?side2 ?side3 ?side4 A2.out).mono ?_);(case side1=>repeat (first|exact (Kd.C_below HR0_1.out HB.out)|(with_reducible refine Kd.C_alloc ?_ _)|(with_reducible refine Kd.C_drewN ?_ _)|(with_reducible refine Kd.C_drew ?_)));(case side2=>exact HC0_1.out);(case side3=>repeat (first|exact (Kd.C_below HR0_2.out HB.out)|(with_reducible refine Kd.C_alloc ?_ _)|(with_reducible refine Kd.C_drewN ?_ _)|(with_reducible refine Kd.C_drew ?_)));(case side4=>exact HC0_2.out);rintro e w7 ⟨v263,v266,rfl,ho0,ho1,hb⟩;refine ⟨_,rfl,?_⟩;have n0_:=Aside0.mk (Kd.R_lower ho0 (below_size (by repeat (first|(with_reducible first|exact HB.out|apply below_alloc|apply pw_below_drewN|apply below_drew1|refine below_set ?_ GE259.out|refine below_set ?_ GE260.out)|exact HB.out))));have n1_:=Aside0.mk (Kd.R_lower ho1 (below_size (by repeat (first|(with_reducible first|exact HB.out|apply below_alloc|apply pw_below_drewN|apply below_drew1|refine below_set ?_ GE259.out|refine below_set ?_ GE260.out)|exact HB.out))));have n2_:=Aside0.mk (blk_below (g:=gb259) (o:=.cells #[.bool a0_0,.slice A0_1 l0_1.length c0_1,.slice A0_2 l0_2.length c0_2] 63 (0,0)) (by (with_reducible repeat (first|refine blk_drewN ?_ _|refine blk_drew ?_|refine blk_alloc ?_ _));exact BK259.out) hb);have n3_:=Aside0.mk (blk_below (g:=gb260) (o:=.cells #[.bool false,.slice none 0 0,.slice none 0 0] 63 (0,0)) (by (with_reducible repeat (first|refine blk_drewN ?_ _|refine blk_drew ?_|refine blk_alloc ?_ _));exact BK260.out) hb);have n4_:=Aside0.mk (below_step (by repeat (first|(with_reducible first|exact HB.out|apply below_alloc|apply pw_below_drewN|apply below_drew1|refine below_set ?_ GE259.out|refine below_set ?_ GE260.out)|exact HB.out)) hb);clear BK259;clear BK260;clear HB;have HO264:=n0_;have HO267:=n1_;have BK259:=n2_;have BK260:=n3_;have HB:=n4_;clear n0_ n1_ n2_ n3_ n4_;(try clear hb);(try clear hb2);(try clear hk);(try clear hi);(try clear ho0);(try clear ho1);have hcz8_0 : w7.cell? ⟨gb260,0,none⟩=some (.bool false):=(blk_cell BK260.out 0).trans rfl;have hcz8_1 : w7.cell? ⟨gb260,1,none⟩=some (.slice none 0 0):=(blk_cell BK260.out 1).trans rfl;have hcz8_2 : w7.cell? ⟨gb260,2,none⟩=some (.slice none 0 0):=(blk_cell BK260.out 2).trans rfl;have hfz8_0:=blk_frozen BK260.out 0;have hfz8_1:=blk_frozen BK260.out 1;have hfz8_2:=blk_frozen BK260.out 2;obtain ⟨Ao9,co9,eo9⟩:=Kd.R_slice HO264.out;subst eo9;obtain ⟨Ao10,co10,eo10⟩:=Kd.R_slice HO267.out;subst eo10))
 refine bodyPost_ret (results_cell_row rfl _ _ gb260 63 #[.bool t261,.slice Ao9 t262.length co9,.slice Ao10 t265.length co10] (0,0) _ rfl (by (with_reducible repeat (first|refine blk_drewN ?_ _|refine blk_drew ?_|refine blk_alloc ?_ _));refine blk_put (cs:=#[.bool t261,.slice Ao9 t262.length co9,.slice none 0 0]) ?_ 2 _ rfl;(with_reducible repeat (first|refine blk_drewN ?_ _|refine blk_drew ?_|refine blk_alloc ?_ _));refine blk_put (cs:=#[.bool t261,.slice none 0 0,.slice none 0 0]) ?_ 1 _ rfl;(with_reducible repeat (first|refine blk_drewN ?_ _|refine blk_drew ?_|refine blk_alloc ?_ _));refine blk_put (cs:=#[.bool false,.slice none 0 0,.slice none 0 0]) ?_ 0 _ rfl;(with_reducible repeat (first|refine blk_drewN ?_ _|refine blk_drew ?_|refine blk_alloc ?_ _));exact BK260.out) Try.underlying63 rfl (by kernel_rfl)) rfl ?_
 exact ⟨_,_,by first|rfl|(simp [errW_none,errW_some] <;> rfl)|(simp [*,errW_none,errW_some] <;> rfl),by (with_reducible repeat (first|apply Kd.R_alloc|apply Kd.R_drewN|apply Kd.R_drew));exact Kd.R_mono (Kd.R_far (p:=⟨gb260,2,none⟩) (Kd.R_far (p:=⟨gb260,1,none⟩) (Kd.R_far (p:=⟨gb260,0,none⟩) (Kd.R_types HO264.out BK260.out (by decide)) (fun _ hk=>hk.2) (.bool t261)) (fun _ hk=>hk.2) (.slice Ao9 t262.length co9)) (fun _ hk=>hk.2) (.slice Ao10 t265.length co10)) (fun _ hk=>hk.1),by (with_reducible repeat (first|apply Kd.R_alloc|apply Kd.R_drewN|apply Kd.R_drew));exact Kd.R_mono (Kd.R_far (p:=⟨gb260,2,none⟩) (Kd.R_far (p:=⟨gb260,1,none⟩) (Kd.R_far (p:=⟨gb260,0,none⟩) (Kd.R_types HO267.out BK260.out (by decide)) (fun _ hk=>hk.2) (.bool t261)) (fun _ hk=>hk.2) (.slice Ao9 t262.length co9)) (fun _ hk=>hk.2) (.slice Ao10 t265.length co10)) (fun _ hk=>hk.1),by repeat (first|(with_reducible first|exact HB.out|apply below_alloc|apply pw_below_drewN|apply below_drew1|refine below_set ?_ GE259.out|refine below_set ?_ GE260.out)|exact HB.out)⟩
end Go.Proofs.Ytjiaobcoeegioaa.Pq
end
