import Derived.Test.YtncdiodnbkhacaaDoorDPoi3
set_option linter.unusedVariables false
set_option linter.unusedSimpArgs false
section
section
namespace Go.Proofs.YtncdiodnbkhacaaDoor.Pq
open Go.RowKit Go.Proofs.YtncdiodnbkhacaaDoorW.PrintWords Go.Proofs.YtncdiodnbkhacaaDoorW.PrintLast Go.Proofs.YtncdiodnbkhacaaDoorW.PrintMore
attribute [local go_sem] max2_int min2_int max_two min_two max_three min_three max_four min_four
set_option linter.unusedVariables false
set_option linter.unusedSimpArgs false
set_option maxHeartbeats 8000000
set_option maxRecDepth 100000
theorem penumbraref01_Mul.mono_l : ∀ k,(∀ y0 y1 y2 y3,LeO (penumbraref01_Mul.l0 k y0 y1 y2 y3) (penumbraref01_Mul.l0 (k+1) y0 y1 y2 y3))∧(∀ y0 y1 y2 y3 y4 y5,LeO (penumbraref01_Mul.l1 k y0 y1 y2 y3 y4 y5) (penumbraref01_Mul.l1 (k+1) y0 y1 y2 y3 y4 y5))
|0=>⟨fun _ _ _ _ r h=>by simp [penumbraref01_Mul.l0] at h,fun _ _ _ _ _ _ r h=>by simp [penumbraref01_Mul.l1] at h⟩
|k+1=>by
  obtain ⟨ih0,ih1⟩:=penumbraref01_Mul.mono_l k
  refine ⟨?_,?_⟩
  ·intro y0 y1 y2 y3
   unfold penumbraref01_Mul.l0
   with_reducible repeat' first
  |exact ih0 _ _ _ _
  |exact ih1 _ _ _ _ _ _
  |exact penumbraref01_Norm.mono _ _
  |exact LeO.refl _
  |exact LeO.none _
  |refine LeO.ite ?_ ?_
  |refine LeO.bind ?_ (fun _=>?_)
  ·intro y0 y1 y2 y3 y4 y5
   unfold penumbraref01_Mul.l1
   with_reducible repeat' first
  |exact ih0 _ _ _ _
  |exact ih1 _ _ _ _ _ _
  |exact penumbraref01_Norm.mono _ _
  |exact LeO.refl _
  |exact LeO.none _
  |refine LeO.ite ?_ ?_
  |refine LeO.bind ?_ (fun _=>?_)
theorem penumbraref01_Mul.mono : ∀ a0 a1 k,LeO (penumbraref01_Mul.f k a0 a1) (penumbraref01_Mul.f (k+1) a0 a1):=by
 intro a0 a1 k
 obtain ⟨ih0,ih1⟩:=penumbraref01_Mul.mono_l k
 unfold penumbraref01_Mul.f
 with_reducible repeat' first
  |exact ih0 _ _ _ _
  |exact ih1 _ _ _ _ _ _
  |exact penumbraref01_Norm.mono _ _
  |exact LeO.refl _
  |exact LeO.none _
  |refine LeO.ite ?_ ?_
  |refine LeO.bind ?_ (fun _=>?_)
theorem penumbraref01_Mul.calls (k : Nat) (A0 : Option Addr) (c0 : Nat) (l0 : List Int) (A1 : Option Addr) (c1 : Nat) (l1 : List Int) (r : List Int) (w : World) (hr0 : Kd.C (Kd.int .u32) w A0 l0.length l0) (hc0 : l0.length≤c0) (hr1 : Kd.C (Kd.int .u32) w A1 l1.length l1) (hc1 : l1.length≤c1) (h : penumbraref01_Mul.f k l0 l1=some r) :
  Calls Tryd.prog 32 #[.slice A0 l0.length c0,.slice A1 l1.length c1] w fun e w'=>∃ v0_ : Value,e=.returned (v0_)∧Kd.R (Kd.int .u32) 35 w' w.heap.size (fun _=>True) v0_ r∧Below w.heap.size w w':=by
 have HR0:=Aside0.mk hr0
 have HC0:=Aside0.mk hc0
 clear hr0 hc0
 have HR1:=Aside0.mk hr1
 have HC1:=Aside0.mk hc1
 clear hr1 hc1
 have HB:=Aside0.mk (Below.refl w.heap.size w)
 have H : (if 0≤(wrap64 ((wrap64 ((l0.length : Int)+(l1.length : Int)))+1)) then (if (wrap64 ((wrap64 ((l0.length : Int)+(l1.length : Int)))+1) : Int).toNat≤70368744177664 then (penumbraref01_Mul.l0 k l0 l1 (List.replicate (wrap64 ((wrap64 ((l0.length : Int)+(l1.length : Int)))+1) : Int).toNat 0) 0) else (none)) else (none))=some r:=h
 clear h
 obtain ⟨ji3,hji3⟩ : ∃ j_ : Int,(wrap64 ((wrap64 ((l0.length : Int)+(l1.length : Int)))+1))=j_:=⟨_,rfl⟩
 replace H : (if 0≤(ji3) then (if (ji3 : Int).toNat≤70368744177664 then (penumbraref01_Mul.l0 k l0 l1 (List.replicate (ji3 : Int).toNat 0) 0) else (none)) else (none))=some r:=by first|(rw [hji3] at H;exact H)|(simp only [hji3] at H ⊢;exact H)
 have hji3w : (IntKind.i64.wrap ((wrap64 ((l0.length : Int)+(l1.length : Int)))+1))=ji3:=(i64_w _).trans hji3
 by_cases c4 : 0≤(ji3)
 case neg =>rw [if_neg c4] at H;exact absurd H (by simp)
 rw [if_pos c4] at H
 have c4b0:=eq_true c4
 have c4b1 : decide (0≤(ji3))=true:=decide_eq_true c4
 clear c4
 by_cases c5 : (ji3 : Int).toNat≤70368744177664
 case neg =>rw [if_neg c5] at H;exact absurd H (by simp)
 rw [if_pos c5] at H
 have c5b0:=eq_true c5
 have c5b1 : decide ((ji3 : Int).toNat≤70368744177664)=true:=decide_eq_true c5
 clear c5
 obtain ⟨y441,hy441⟩ : ∃ y_ : List Int,y_=(List.replicate (ji3 : Int).toNat 0):=⟨_,rfl⟩
 replace H : (penumbraref01_Mul.l0 k l0 l1 y441 0)=some r:=by first|(rw [hy441];with_reducible exact H)|(have H2_:=(Option.bind_some _ _).symm.trans H;rw [hy441];with_reducible exact H2_)|(have H2_:=(Option.bind_some _ _).symm.trans H;with_reducible exact H2_)|with_reducible exact H|(rw [hy441];exact H)|exact H
 have Ny441:=Aside0.mk hy441
 clear hy441
 have H':=Aside0.mk H
 clear H
 go_enter Tryd.func32,Tryd.ntmps32
 go_wp2_with (first|((with_reducible refine gate_dst (N:=16) rfl ?_);refine Kd.R_make (Kd.int .u32) _ 35 rfl (N:=16) rfl 23 _ _ rfl ji3 rfl rfl Tryd.underlying23 (.int .u32 0) 4 info35 rfl (by decide) (by omega) 0 (ok:=fun _=>True) (okp:=fun _=>True) rfl (fun _ hk=>hk) trivial (of_decide_eq_true (by assumption)) (Nat.le_trans (Nat.mul_le_mul_right _ (of_decide_eq_true (by assumption) : ji3.toNat≤70368744177664)) (by omega)) (Below.refl _ _) (Nat.le_refl _) ?_;intro v442 w6 ho7 hb hg_ hnew_;clear hg_ hnew_;(first|rw [← Ny441.out] at ho7|(simp only [Int.reduceToNat] at ho7;rw [← Ny441.out] at ho7));have n0_:=Aside0.mk (Kd.R_lower ho7 (below_size (Hu HB.out)));have n1_:=Aside0.mk (below_step (Hu HB.out) hb);clear HB;have HO443:=n0_;have HB:=n1_;clear n0_ n1_;clear hb ho7))
 go_loopg [6] k (fun kq v6 w'=>∃ (x5_1 : List Int) (x6_1 : Int),v6=.int .i64 x6_1∧Aside0 (penumbraref01_Mul.l0 kq l0 l1 x5_1 x6_1=some r)∧Aside0 (kq≤k)∧Aside0 (Kd.R (Kd.int .u32) 35 w' w.heap.size (fun _=>True) v442 x5_1)∧Aside0 (Below w.heap.size w w'))
 case atStart=>exact ⟨(y441),(0),(by first|rfl|(simp;done)|(simp [*];done)),H',⟨Nat.le_refl _⟩,⟨Ru HO443.out⟩,⟨Hu HB.out⟩⟩
 case round =>
  clear H'
  obtain ⟨x5_1,x6_1,rfl,HA,HK1,HO_5,HB⟩:=hrel
  cases gk with
 |zero=>exact absurd HA.out (by simp [penumbraref01_Mul.l0])
 |succ k1 =>
   have H:=HA.out
   clear HA
   simp only [penumbraref01_Mul.l0] at H
   by_cases c8 : x6_1 < (l0.length : Int)
   ·rw [if_pos c8] at H
    have c8b0 : decide (x6_1 < (l0.length : Int))=true:=decide_eq_true c8
    clear c8
    have H':=Aside0.mk H
    clear H
    go_wp2
    go_loopg [7,8] k1 (fun kq v7 v8 w'=>∃ (x5_2 : List Int) (x7_2 : Int) (x8_2 : Int),v7=.int .u64 x7_2∧v8=.int .i64 x8_2∧Aside0 (penumbraref01_Mul.l1 kq l0 l1 x5_2 x6_1 x7_2 x8_2=some r)∧Aside0 (kq≤k1)∧Aside0 (Kd.R (Kd.int .u32) 35 w' w.heap.size (fun _=>True) v442 x5_2)∧Aside0 (Below w.heap.size w w'))
    case atStart=>exact ⟨(x5_1),(0),(0),(by first|rfl|(simp;done)|(simp [*];done)),(by first|rfl|(simp;done)|(simp [*];done)),H',⟨Nat.le_refl _⟩,⟨Ru HO_5.out⟩,⟨Hu HB.out⟩⟩
    case round =>
     clear H'
     obtain ⟨x5_2,x7_2,x8_2,rfl,rfl,HA,HK2,HO_5,HB⟩:=hrel
     cases gk with
    |zero=>exact absurd HA.out (by simp [penumbraref01_Mul.l1])
    |succ k2 =>
      have H:=HA.out
      clear HA
      simp only [penumbraref01_Mul.l1] at H
      by_cases c9 : x8_2 < (l1.length : Int)
      ·rw [if_pos c9] at H
       have c9b0 : decide (x8_2 < (l1.length : Int))=true:=decide_eq_true c9
       clear c9
       by_cases c10 : 0≤x6_1
       case neg =>rw [if_neg c10] at H;exact absurd H (by simp)
       rw [if_pos c10] at H
       have c10b0 : decide (0≤x6_1)=true:=decide_eq_true c10
       clear c10
       by_cases c11 : x6_1 < (l0.length : Int)
       case neg =>rw [if_neg c11] at H;exact absurd H (by simp)
       rw [if_pos c11] at H
       have c11b0 : decide (x6_1 < (l0.length : Int))=true:=decide_eq_true c11
       clear c11
       by_cases c12 : 0≤x8_2
       case neg =>rw [if_neg c12] at H;exact absurd H (by simp)
       rw [if_pos c12] at H
       have c12b0 : decide (0≤x8_2)=true:=decide_eq_true c12
       clear c12
       obtain ⟨ji13,hji13⟩ : ∃ j_ : Int,(wrap64 (x6_1+x8_2))=j_:=⟨_,rfl⟩
       replace H : (if 0≤(ji13) then (if (ji13) < (x5_2.length : Int) then (penumbraref01_Mul.l1 k2 l0 l1 (x5_2.set ((ji13) : Int).toNat ((Int.tmod (IntKind.u64.wrap ((IntKind.u64.wrap ((IntKind.u64.wrap ((IntKind.u64.wrap (rd l0 x6_1)) * (IntKind.u64.wrap (rd l1 x8_2))))+(IntKind.u64.wrap (rd x5_2 (ji13)))))+x7_2)) 4294967296) % 4294967296)) x6_1 (IntKind.u64.wrap (Int.tdiv (IntKind.u64.wrap ((IntKind.u64.wrap ((IntKind.u64.wrap ((IntKind.u64.wrap (rd l0 x6_1)) * (IntKind.u64.wrap (rd l1 x8_2))))+(IntKind.u64.wrap (rd x5_2 (ji13)))))+x7_2)) 4294967296)) (wrap64 (x8_2+1))) else (none)) else (none))=some r:=by first|(rw [hji13] at H;exact H)|(simp only [hji13] at H ⊢;exact H)
       have hji13w : (IntKind.i64.wrap (x6_1+x8_2))=ji13:=(i64_w _).trans hji13
       by_cases c14 : 0≤(ji13)
       case neg =>rw [if_neg c14] at H;exact absurd H (by simp)
       rw [if_pos c14] at H
       have c14b0 : decide (0≤(ji13))=true:=decide_eq_true c14
       clear c14
       by_cases c15 : (ji13) < (x5_2.length : Int)
       case neg =>rw [if_neg c15] at H;exact absurd H (by simp)
       rw [if_pos c15] at H
       have c15b0 : decide ((ji13) < (x5_2.length : Int))=true:=decide_eq_true c15
       clear c15
       obtain ⟨y450,hy450⟩ : ∃ y_ : List Int,y_=(x5_2.set ((ji13) : Int).toNat ((Int.tmod (IntKind.u64.wrap ((IntKind.u64.wrap ((IntKind.u64.wrap ((IntKind.u64.wrap (rd l0 x6_1)) * (IntKind.u64.wrap (rd l1 x8_2))))+(IntKind.u64.wrap (rd x5_2 (ji13)))))+x7_2)) 4294967296) % 4294967296)):=⟨_,rfl⟩
       replace H : (penumbraref01_Mul.l1 k2 l0 l1 y450 x6_1 (IntKind.u64.wrap (Int.tdiv (IntKind.u64.wrap ((IntKind.u64.wrap ((IntKind.u64.wrap ((IntKind.u64.wrap (rd l0 x6_1)) * (IntKind.u64.wrap (rd l1 x8_2))))+(IntKind.u64.wrap (rd x5_2 (ji13)))))+x7_2)) 4294967296)) (wrap64 (x8_2+1)))=some r:=by first|(rw [hy450];with_reducible exact H)|(have H2_:=(Option.bind_some _ _).symm.trans H;rw [hy450];with_reducible exact H2_)|(have H2_:=(Option.bind_some _ _).symm.trans H;with_reducible exact H2_)|with_reducible exact H|(rw [hy450];exact H)|exact H
       have Ny450:=Aside0.mk hy450
       clear hy450
       have H':=Aside0.mk H
       clear H
       have p447 : 0≤(x6_1 : Int):=of_decide_eq_true (by assumption)
       have q447 : x6_1 < (l0.length : Int):=of_decide_eq_true (by assumption)
       obtain ⟨ad447,e447,hx447_0⟩:=Kd.at_int HR0.out x6_1 p447 q447
       cases e447
       replace hx447_0:=(HB.out.cell (World.block_lt_of_cell? w _ hx447_0)).trans hx447_0
       replace p447:=eq_true p447
       replace q447:=eq_true q447
       have p448 : 0≤(x8_2 : Int):=of_decide_eq_true (by assumption)
       have q448 : x8_2 < (l1.length : Int):=of_decide_eq_true (by assumption)
       obtain ⟨ad448,e448,hx448_0⟩:=Kd.at_int HR1.out x8_2 p448 q448
       cases e448
       replace hx448_0:=(HB.out.cell (World.block_lt_of_cell? w _ hx448_0)).trans hx448_0
       replace p448:=eq_true p448
       replace q448:=eq_true q448
       obtain ⟨Ao17,co17,eo17⟩:=Kd.R_slice HO_5.out
       subst eo17
       have p449 : 0≤((ji13) : Int):=of_decide_eq_true (by assumption)
       have q449 : (ji13) < (x5_2.length : Int):=of_decide_eq_true (by assumption)
       obtain ⟨ad449,e449,hx449_0⟩:=Kd.at_int (Kd.R_reads' HO_5.out).2.2 (ji13) p449 q449
       cases e449
       replace p449:=eq_true p449
       replace q449:=eq_true q449
       have p16 : 0≤((ji13) : Int):=of_decide_eq_true (by assumption)
       have q16 : ((ji13) : Int) < ((x5_2.length : Int) : Int):=of_decide_eq_true (by assumption)
       obtain ⟨go16,co16,eo16,gb16,gl16,cl16,HG16⟩:=Kd.R_form HO_5.out (by omega)
       (first|cases eo16|(injection eo16 with ea_ en_ ec_;(first|subst ea_|(injection ea_ with ea_;subst ea_));subst ec_;clear en_))
       have GB16:=Aside0.mk gb16
       have GG16:=Aside0.mk HG16
       clear gb16 gl16 HG16
       (first|simp only [add_plain] at hx449_0|skip)
       obtain ⟨hx16_0,hf16_0⟩:=Kd.R_celln 0 HO_5.out ((ji13) : Int) p16 q16
       replace p16:=eq_true p16
       replace q16:=eq_true q16
       obtain ⟨hy18_,hz18_⟩:=Kd.R_celln 0 HO_5.out ((ji13) : Int) (of_decide_eq_true (by assumption)) (of_decide_eq_true (by assumption))
       have HP18:=Kd.R_putg HO_5.out ((ji13) : Int) ((Int.tmod (IntKind.u64.wrap ((IntKind.u64.wrap ((IntKind.u64.wrap ((IntKind.u64.wrap (rd l0 x6_1)) * (IntKind.u64.wrap (rd l1 x8_2))))+(IntKind.u64.wrap (rd x5_2 (ji13)))))+x7_2)) 4294967296) % 4294967296)
       go_wp2_with (first|((with_reducible refine gate_store (t:=35) (p:=57) rfl ?_);(try (rw [drewN_self wr];generalize hq_ : World.drewN wr _=wr;have n0_:=Aside0.mk (Kd.R_at hq_ HO_5.out);have n1_:=Aside0.mk (below_at hq_ HB.out);clear hq_ HO_5 HB;have HO_5:=n0_;have HB:=n1_;clear n0_ n1_;(try (obtain ⟨hy18_,hz18_⟩:=Kd.R_celln 0 HO_5.out ((ji13) : Int) (of_decide_eq_true (by assumption)) (of_decide_eq_true (by assumption))));(try (have HP18:=Kd.R_putg HO_5.out ((ji13) : Int) ((Int.tmod (IntKind.u64.wrap ((IntKind.u64.wrap ((IntKind.u64.wrap ((IntKind.u64.wrap (rd l0 x6_1)) * (IntKind.u64.wrap (rd l1 x8_2))))+(IntKind.u64.wrap (rd x5_2 (ji13)))))+x7_2)) 4294967296) % 4294967296)))));refine store_event (t:=35) (p:=57) (v:=?vo_w19) (w1:=(wr.setCell ⟨go16,((ji13) : Int).toNat,none⟩ (.int .u32 ((Int.tmod (IntKind.u64.wrap ((IntKind.u64.wrap ((IntKind.u64.wrap ((IntKind.u64.wrap (rd l0 x6_1)) * (IntKind.u64.wrap (rd l1 x8_2))))+(IntKind.u64.wrap (rd x5_2 (ji13)))))+x7_2)) 4294967296) % 4294967296)))) ?hg ?ho ?hn ?hr ?_;(case ho=>rfl);(case hg=>rfl);(case hn=>rfl);(case hr=>first|(go_simp;done)|(go_simp;(with_reducible rfl))|(go_simp;rfl)|(go_simp;simp only [hu,Int.emod_sub_emod]));intro w19 hw;have hg : wr.grownBy w19 (some go16):=(by rw [hw];exact HP18.2);have hp_ : Kd.R (Kd.int .u32) 35 w19 w.heap.size (fun _=>True) (.slice (some ⟨go16,0,none⟩) x5_2.length co17) y450:=(by rw [hw,Ny450.out];exact HP18.1);clear HP18;have n0_:=Aside0.mk (hp_);have n1_:=Aside0.mk ((by rw [hw];exact below_set (HB.out) GB16.out : Below w.heap.size w w19));clear HO_5;clear HB;have HO_5:=n0_;have HB:=n1_;clear n0_ n1_;clear hg hw hp_))
       repeat (go_quiet (first|((with_reducible refine gate_store (t:=35) (p:=57) rfl ?_);(try (rw [drewN_self wr];generalize hq_ : World.drewN wr _=wr;have n0_:=Aside0.mk (Kd.R_at hq_ HO_5.out);have n1_:=Aside0.mk (below_at hq_ HB.out);clear hq_ HO_5 HB;have HO_5:=n0_;have HB:=n1_;clear n0_ n1_;(try (obtain ⟨hy18_,hz18_⟩:=Kd.R_celln 0 HO_5.out ((ji13) : Int) (of_decide_eq_true (by first|(with_reducible assumption)|assumption)) (of_decide_eq_true (by first|(with_reducible assumption)|assumption))));(try (have HP18:=Kd.R_putg HO_5.out ((ji13) : Int) ((Int.tmod (IntKind.u64.wrap ((IntKind.u64.wrap ((IntKind.u64.wrap ((IntKind.u64.wrap (rd l0 x6_1)) * (IntKind.u64.wrap (rd l1 x8_2))))+(IntKind.u64.wrap (rd x5_2 (ji13)))))+x7_2)) 4294967296) % 4294967296)))));refine store_event (t:=35) (p:=57) (v:=?vo_w19) (w1:=(wr.setCell ⟨go16,((ji13) : Int).toNat,none⟩ (.int .u32 ((Int.tmod (IntKind.u64.wrap ((IntKind.u64.wrap ((IntKind.u64.wrap ((IntKind.u64.wrap (rd l0 x6_1)) * (IntKind.u64.wrap (rd l1 x8_2))))+(IntKind.u64.wrap (rd x5_2 (ji13)))))+x7_2)) 4294967296) % 4294967296)))) ?hg ?ho ?hn ?hr ?_;(case ho=>rfl);(case hg=>rfl);(case hn=>rfl);(case hr=>first|(go_simp;done)|(go_simp;(with_reducible rfl))|(go_simp;rfl)|(go_simp;have hu_ : ∀ x : Int,IntKind.u32.wrap x=HMod.hMod x (4294967296 : Int):=(fun x=>by simp only [IntKind.wrap,IntKind.bits,IntKind.signed];simp);simp only [hu_,Int.emod_sub_emod]));intro w19 hw;have hg : wr.grownBy w19 (some go16):=(by rw [hw];exact HP18.2);have hp_ : Kd.R (Kd.int .u32) 35 w19 w.heap.size (fun _=>True) (.slice (some ⟨go16,0,none⟩) x5_2.length co17) y450:=(by rw [hw,Ny450.out];exact HP18.1);clear HP18;have n0_:=Aside0.mk (hp_);have n1_:=Aside0.mk ((by rw [hw];exact below_set (HB.out) GB16.out : Below w.heap.size w w19));clear HO_5;clear HB;have HO_5:=n0_;have HB:=n1_;clear n0_ n1_;clear hg hw hp_));try go_wp2_with (first|((with_reducible refine gate_store (t:=35) (p:=57) rfl ?_);(try (rw [drewN_self wr];generalize hq_ : World.drewN wr _=wr;have n0_:=Aside0.mk (Kd.R_at hq_ HO_5.out);have n1_:=Aside0.mk (below_at hq_ HB.out);clear hq_ HO_5 HB;have HO_5:=n0_;have HB:=n1_;clear n0_ n1_;(try (obtain ⟨hy18_,hz18_⟩:=Kd.R_celln 0 HO_5.out ((ji13) : Int) (of_decide_eq_true (by first|(with_reducible assumption)|assumption)) (of_decide_eq_true (by first|(with_reducible assumption)|assumption))));(try (have HP18:=Kd.R_putg HO_5.out ((ji13) : Int) ((Int.tmod (IntKind.u64.wrap ((IntKind.u64.wrap ((IntKind.u64.wrap ((IntKind.u64.wrap (rd l0 x6_1)) * (IntKind.u64.wrap (rd l1 x8_2))))+(IntKind.u64.wrap (rd x5_2 (ji13)))))+x7_2)) 4294967296) % 4294967296)))));refine store_event (t:=35) (p:=57) (v:=?vo_w19) (w1:=(wr.setCell ⟨go16,((ji13) : Int).toNat,none⟩ (.int .u32 ((Int.tmod (IntKind.u64.wrap ((IntKind.u64.wrap ((IntKind.u64.wrap ((IntKind.u64.wrap (rd l0 x6_1)) * (IntKind.u64.wrap (rd l1 x8_2))))+(IntKind.u64.wrap (rd x5_2 (ji13)))))+x7_2)) 4294967296) % 4294967296)))) ?hg ?ho ?hn ?hr ?_;(case ho=>rfl);(case hg=>rfl);(case hn=>rfl);(case hr=>first|(go_simp;done)|(go_simp;(with_reducible rfl))|(go_simp;rfl)|(go_simp;have hu_ : ∀ x : Int,IntKind.u32.wrap x=HMod.hMod x (4294967296 : Int):=(fun x=>by simp only [IntKind.wrap,IntKind.bits,IntKind.signed];simp);simp only [hu_,Int.emod_sub_emod]));intro w19 hw;have hg : wr.grownBy w19 (some go16):=(by rw [hw];exact HP18.2);have hp_ : Kd.R (Kd.int .u32) 35 w19 w.heap.size (fun _=>True) (.slice (some ⟨go16,0,none⟩) x5_2.length co17) y450:=(by rw [hw,Ny450.out];exact HP18.1);clear HP18;have n0_:=Aside0.mk (hp_);have n1_:=Aside0.mk ((by rw [hw];exact below_set (HB.out) GB16.out : Below w.heap.size w w19));clear HO_5;clear HB;have HO_5:=n0_;have HB:=n1_;clear n0_ n1_;clear hg hw hp_)))
       go_roundg k2
       case measure=>have:=HK1.out;have:=HK2.out;omega
       case rel=>exact ⟨(y450),(IntKind.u64.wrap (Int.tdiv (IntKind.u64.wrap ((IntKind.u64.wrap ((IntKind.u64.wrap ((IntKind.u64.wrap (rd l0 x6_1)) * (IntKind.u64.wrap (rd l1 x8_2))))+(IntKind.u64.wrap (rd x5_2 (ji13)))))+x7_2)) 4294967296)),(wrap64 (x8_2+1)),(by first|rfl|(simp;done)|(simp only [← hji13] <;> (first|rfl|simp))|(simp [*];done)),(by first|rfl|(simp;done)|(simp [*];done)),H',⟨by have:=HK1.out;have:=HK2.out;omega⟩,⟨Ru HO_5.out⟩,⟨Hu HB.out⟩⟩
      ·rw [if_neg c9] at H
       have c9b0 : decide (x8_2 < (l1.length : Int))=false:=decide_eq_false c9
       clear c9
       obtain ⟨ji20,hji20⟩ : ∃ j_ : Int,(wrap64 (x6_1+(l1.length : Int)))=j_:=⟨_,rfl⟩
       replace H : (if 0≤(ji20) then (if (ji20) < (x5_2.length : Int) then (penumbraref01_Mul.l0 k2 l0 l1 (x5_2.set ((ji20) : Int).toNat ((x7_2) % 4294967296)) (wrap64 (x6_1+1))) else (none)) else (none))=some r:=by first|(rw [hji20] at H;exact H)|(simp only [hji20] at H ⊢;exact H)
       have hji20w : (IntKind.i64.wrap (x6_1+(l1.length : Int)))=ji20:=(i64_w _).trans hji20
       by_cases c21 : 0≤(ji20)
       case neg =>rw [if_neg c21] at H;exact absurd H (by simp)
       rw [if_pos c21] at H
       have c21b0 : decide (0≤(ji20))=true:=decide_eq_true c21
       clear c21
       by_cases c22 : (ji20) < (x5_2.length : Int)
       case neg =>rw [if_neg c22] at H;exact absurd H (by simp)
       rw [if_pos c22] at H
       have c22b0 : decide ((ji20) < (x5_2.length : Int))=true:=decide_eq_true c22
       clear c22
       obtain ⟨y451,hy451⟩ : ∃ y_ : List Int,y_=(x5_2.set ((ji20) : Int).toNat ((x7_2) % 4294967296)):=⟨_,rfl⟩
       replace H : (penumbraref01_Mul.l0 k2 l0 l1 y451 (wrap64 (x6_1+1)))=some r:=by first|(rw [hy451];with_reducible exact H)|(have H2_:=(Option.bind_some _ _).symm.trans H;rw [hy451];with_reducible exact H2_)|(have H2_:=(Option.bind_some _ _).symm.trans H;with_reducible exact H2_)|with_reducible exact H|(rw [hy451];exact H)|exact H
       have Ny451:=Aside0.mk hy451
       clear hy451
       have H':=Aside0.mk H
       clear H
       have p23 : 0≤((ji20) : Int):=of_decide_eq_true (by assumption)
       have q23 : ((ji20) : Int) < ((x5_2.length : Int) : Int):=of_decide_eq_true (by assumption)
       obtain ⟨go23,co23,eo23,gb23,gl23,cl23,HG23⟩:=Kd.R_form HO_5.out (by omega)
       (first|cases eo23|(injection eo23 with ea_ en_ ec_;(first|subst ea_|(injection ea_ with ea_;subst ea_));subst ec_;clear en_))
       have GB23:=Aside0.mk gb23
       have GG23:=Aside0.mk HG23
       clear gb23 gl23 HG23
       obtain ⟨hx23_0,hf23_0⟩:=Kd.R_celln 0 HO_5.out ((ji20) : Int) p23 q23
       replace p23:=eq_true p23
       replace q23:=eq_true q23
       obtain ⟨hy24_,hz24_⟩:=Kd.R_celln 0 HO_5.out ((ji20) : Int) (of_decide_eq_true (by assumption)) (of_decide_eq_true (by assumption))
       have HP24:=Kd.R_putg HO_5.out ((ji20) : Int) ((x7_2) % 4294967296)
       go_wp2_with (first|((with_reducible refine gate_store (t:=35) (p:=67) rfl ?_);(try (rw [drewN_self wr];generalize hq_ : World.drewN wr _=wr;have n0_:=Aside0.mk (Kd.R_at hq_ HO_5.out);have n1_:=Aside0.mk (below_at hq_ HB.out);clear hq_ HO_5 HB;have HO_5:=n0_;have HB:=n1_;clear n0_ n1_;(try (obtain ⟨hy24_,hz24_⟩:=Kd.R_celln 0 HO_5.out ((ji20) : Int) (of_decide_eq_true (by assumption)) (of_decide_eq_true (by assumption))));(try (have HP24:=Kd.R_putg HO_5.out ((ji20) : Int) ((x7_2) % 4294967296)))));refine store_event (t:=35) (p:=67) (v:=?vo_w25) (w1:=(wr.setCell ⟨go23,((ji20) : Int).toNat,none⟩ (.int .u32 ((x7_2) % 4294967296)))) ?hg ?ho ?hn ?hr ?_;(case ho=>rfl);(case hg=>rfl);(case hn=>rfl);(case hr=>first|(go_simp;done)|(go_simp;(with_reducible rfl))|(go_simp;rfl)|(go_simp;simp only [hu,Int.emod_sub_emod]));intro w25 hw;have hg : wr.grownBy w25 (some go23):=(by rw [hw];exact HP24.2);have hp_ : Kd.R (Kd.int .u32) 35 w25 w.heap.size (fun _=>True) (.slice (some ⟨go23,0,none⟩) x5_2.length co23) y451:=(by rw [hw,Ny451.out];exact HP24.1);clear HP24;have n0_:=Aside0.mk (hp_);have n1_:=Aside0.mk ((by rw [hw];exact below_set (HB.out) GB23.out : Below w.heap.size w w25));clear HO_5;clear HB;have HO_5:=n0_;have HB:=n1_;clear n0_ n1_;clear hg hw hp_))
       go_roundg k2
       case measure=>have:=HK1.out;have:=HK2.out;omega
       case rel=>exact ⟨(y451),(wrap64 (x6_1+1)),(by first|rfl|(simp;done)|(simp [*];done)),H',⟨by have:=HK1.out;have:=HK2.out;omega⟩,⟨Ru HO_5.out⟩,⟨Hu HB.out⟩⟩
   ·rw [if_neg c8] at H
    have c8b0 : decide (x6_1 < (l0.length : Int))=false:=decide_eq_false c8
    clear c8
    replace H:=Option.bind_eq_some_iff.mp H
    obtain ⟨t444,A260,H⟩:=H
    try dsimp only at H
    have A26:=Aside0.mk A260
    clear A260
    obtain rfl:=Option.some.inj H
    obtain ⟨Ao27,co27,eo27⟩:=Kd.R_slice HO_5.out
    subst eo27
    go_wp2_with (first|(go_at_call 58;(with_reducible refine (penumbraref01_Norm.calls k1 _ _ x5_1 t444 _ ?side1 ?side2 A26.out).mono ?_);(case side1=>exact Cu (Kd.R_reads' HO_5.out).2.2);(case side2=>exact (Kd.R_reads' HO_5.out).2.1);rintro e w28 ⟨v445,rfl,ho0,hb⟩;have n0_:=Aside0.mk (Kd.R_elder' (Ru HO_5.out) (Kd.R_base ho0) hb);have n1_:=Aside0.mk (Kd.R_lower (Kd.R_new' ho0 (Kd.R_lt (Ru HO_5.out))) (below_size (Hu HB.out)));have n2_:=Aside0.mk (below_step (Hu HB.out) hb);clear HO_5;clear HB;have HO_5:=n0_;have HO446:=n1_;have HB:=n2_;clear n0_ n1_ n2_))
    go_ret
    exact ⟨_,by first|rfl|(simp [errW_none,errW_some] <;> rfl)|(simp only [← hji3];first|rfl|(simp [errW_none,errW_some] <;> rfl))|(simp [*,errW_none,errW_some] <;> rfl),by (with_reducible repeat (first|apply Ra|apply Rn|apply Rd));exact Kd.R_mono HO446.out (fun _ hk=>trivial),Hu HB.out⟩
end Go.Proofs.YtncdiodnbkhacaaDoor.Pq
end
end
section
section
namespace Go.Proofs.YtncdiodnbkhacaaDoor.Pq
open Go.RowKit Go.Proofs.YtncdiodnbkhacaaDoorW.PrintWords Go.Proofs.YtncdiodnbkhacaaDoorW.PrintLast Go.Proofs.YtncdiodnbkhacaaDoorW.PrintMore
attribute [local go_sem] max2_int min2_int max_two min_two max_three min_three max_four min_four
set_option linter.unusedVariables false
set_option linter.unusedSimpArgs false
set_option maxHeartbeats 8000000
set_option maxRecDepth 100000
theorem penumbraref01_Sub.mono_l : ∀ k,(∀ y0 y1 y2 y3 y4,LeO (penumbraref01_Sub.l0 k y0 y1 y2 y3 y4) (penumbraref01_Sub.l0 (k+1) y0 y1 y2 y3 y4))
|0=>fun _ _ _ _ _ r h=>by simp [penumbraref01_Sub.l0] at h
|k+1=>by
  have ih0:=penumbraref01_Sub.mono_l k
  ·intro y0 y1 y2 y3 y4
   unfold penumbraref01_Sub.l0
   with_reducible repeat' first
  |exact ih0 _ _ _ _ _
  |exact penumbraref01_Cmp.mono _ _ _
  |exact penumbraref01_Norm.mono _ _
  |exact LeO.refl _
  |exact LeO.none _
  |refine LeO.ite ?_ ?_
  |refine LeO.bind ?_ (fun _=>?_)
theorem penumbraref01_Sub.mono : ∀ a0 a1 k,LeO (penumbraref01_Sub.f k a0 a1) (penumbraref01_Sub.f (k+1) a0 a1):=by
 intro a0 a1 k
 have ih0:=penumbraref01_Sub.mono_l k
 unfold penumbraref01_Sub.f
 with_reducible repeat' first
  |exact ih0 _ _ _ _ _
  |exact penumbraref01_Cmp.mono _ _ _
  |exact penumbraref01_Norm.mono _ _
  |exact LeO.refl _
  |exact LeO.none _
  |refine LeO.ite ?_ ?_
  |refine LeO.bind ?_ (fun _=>?_)
theorem penumbraref01_Sub.calls (k : Nat) (A0 : Option Addr) (c0 : Nat) (l0 : List Int) (A1 : Option Addr) (c1 : Nat) (l1 : List Int) (r1 : List Int) (r2 : Bool) (w : World) (hr0 : Kd.C (Kd.int .u32) w A0 l0.length l0) (hc0 : l0.length≤c0) (hr1 : Kd.C (Kd.int .u32) w A1 l1.length l1) (hc1 : l1.length≤c1) (h : penumbraref01_Sub.f k l0 l1=some (r1,r2)) :
  Calls Tryd.prog 72 #[.slice A0 l0.length c0,.slice A1 l1.length c1] w fun e w'=>∃ v0_ : Value,e=.returned (.tuple #[v0_,.bool r2])∧Kd.R (Kd.int .u32) 35 w' w.heap.size (fun _=>True) v0_ r1∧Below w.heap.size w w':=by
 have HR0:=Aside0.mk hr0
 have HC0:=Aside0.mk hc0
 clear hr0 hc0
 have HR1:=Aside0.mk hr1
 have HC1:=Aside0.mk hc1
 clear hr1 hc1
 have HB:=Aside0.mk (Below.refl w.heap.size w)
 have H : ((penumbraref01_Cmp.f k l0 l1).bind fun t488=>(if t488 < 0 then (some (([] : List Int),false)) else (penumbraref01_Sub.l0 k l0 l1 (([] : List Int)) 0 0)))=some (r1,r2):=h
 clear h
 replace H:=Option.bind_eq_some_iff.mp H
 obtain ⟨t488,A30,H⟩:=H
 try dsimp only at H
 have A3:=Aside0.mk A30
 clear A30
 by_cases c4 : t488 < 0
 ·rw [if_pos c4] at H
  have c4b0 : decide (t488 < 0)=true:=decide_eq_true c4
  clear c4
  simp only [Option.some.injEq,Prod.mk.injEq] at H
  obtain ⟨rfl,rfl⟩:=H
  go_enter Tryd.func72,Tryd.ntmps72
  go_wp2_with (first|((with_reducible refine gate_callee (f:=59) rfl ?_);refine goesL_ (some 12) rfl rfl Tryd.func59 (by kernel_rfl) rfl #[.slice A0 l0.length c0,.slice A1 l1.length c1] rfl (by (try simp only [List.map_toArray,List.map_cons,List.map_nil]);first|done|rfl) ?_;(with_reducible refine (penumbraref01_Cmp.calls k _ _ l0 _ _ l1 t488 _ ?side1 ?side2 ?side3 ?side4 A3.out).mono ?_);(case side1=>exact Cu HR0.out);(case side2=>exact HC0.out);(case side3=>exact Cu HR1.out);(case side4=>exact HC1.out);rintro e w5 ⟨rfl,hb⟩;refine ⟨_,rfl,?_⟩;have n0_:=Aside0.mk (below_step (Hu HB.out) hb);clear HB;have HB:=n0_;clear n0_))
  go_ret2
  exact ⟨_,by first|rfl|(simp [errW_none,errW_some] <;> rfl)|(simp [*,errW_none,errW_some] <;> rfl),by first|exact Kd.R_nil _ _ _ _ _|exact Kd.N_nil _ _ _ _ _|exact Kd.V_nil _ _ _ _ _|exact Kd.Q_nil _ _ _ _ _|exact Kd.S_nil _ _ _ _ _,Hu HB.out⟩
 ·rw [if_neg c4] at H
  have c4b0 : decide (t488 < 0)=false:=decide_eq_false c4
  clear c4
  obtain ⟨y489,hy489⟩ : ∃ y_ : List Int,y_=(([] : List Int)):=⟨_,rfl⟩
  replace H : (penumbraref01_Sub.l0 k l0 l1 y489 0 0)=some (r1,r2):=by first|(rw [hy489];with_reducible exact H)|(have H2_:=(Option.bind_some _ _).symm.trans H;rw [hy489];with_reducible exact H2_)|(have H2_:=(Option.bind_some _ _).symm.trans H;with_reducible exact H2_)|with_reducible exact H|(rw [hy489];exact H)|exact H
  have Ny489:=Aside0.mk hy489
  clear hy489
  have H':=Aside0.mk H
  clear H
  go_enter Tryd.func72,Tryd.ntmps72
  go_wp2_with (first|((with_reducible refine gate_callee (f:=59) rfl ?_);refine goesL_ (some 12) rfl rfl Tryd.func59 (by kernel_rfl) rfl #[.slice A0 l0.length c0,.slice A1 l1.length c1] rfl (by (try simp only [List.map_toArray,List.map_cons,List.map_nil]);first|done|rfl) ?_;(with_reducible refine (penumbraref01_Cmp.calls k _ _ l0 _ _ l1 t488 _ ?side1 ?side2 ?side3 ?side4 A3.out).mono ?_);(case side1=>exact Cu HR0.out);(case side2=>exact HC0.out);(case side3=>exact Cu HR1.out);(case side4=>exact HC1.out);rintro e w6 ⟨rfl,hb⟩;refine ⟨_,rfl,?_⟩;have n0_:=Aside0.mk (below_step (Hu HB.out) hb);clear HB;have HB:=n0_;clear n0_)|((with_reducible refine gate_dst (N:=14) rfl ?_);refine Kd.R_lit (Kd.int .u32) _ 35 ?hg (N:=14) ?hd (xs:=([] : List Int)) (inner:=[]) (ok:=fun _=>True) (okp:=fun _=>True) ?hr ?hp (fun _ hk=>hk) trivial (Below.refl _ _) (Nat.le_refl _) (by simp) ?_;(case hd=>rfl);(case hg=>rfl);(case hr=>first|(go_simp;done)|(go_simp;(with_reducible rfl))|(go_simp;rfl)|(go_simp;simp only [hu,Int.emod_sub_emod]));(case hp=>exact (Reps.none _ _));intro v490 w7 ho8 hb hg_ hnew_;clear hg_ hnew_;(first|rw [← Ny489.out] at ho8|(simp only [Int.reduceToNat] at ho8;rw [← Ny489.out] at ho8));have n0_:=Aside0.mk (Kd.R_lower ho8 (below_size (Hu HB.out)));have n1_:=Aside0.mk (below_step (Hu HB.out) hb);clear HB;have HO491:=n0_;have HB:=n1_;clear n0_ n1_;clear hb ho8))
  go_loopg [6,7,8] k (fun kq v6 v7 v8 w'=>∃ (x6_1 : List Int) (x7_1 : Int) (x8_1 : Int),v7=.int .u64 x7_1∧v8=.int .i64 x8_1∧Aside0 (penumbraref01_Sub.l0 kq l0 l1 x6_1 x7_1 x8_1=some (r1,r2))∧Aside0 (kq≤k)∧Aside0 (Kd.R (Kd.int .u32) 35 w' w.heap.size (fun _=>True) v6 x6_1)∧Aside0 (Below w.heap.size w w'))
  case atStart=>exact ⟨(y489),(0),(0),(by first|rfl|(simp;done)|(simp [*];done)),(by first|rfl|(simp;done)|(simp [*];done)),H',⟨Nat.le_refl _⟩,⟨Ru HO491.out⟩,⟨Hu HB.out⟩⟩
  case round =>
   clear H'
   obtain ⟨x6_1,x7_1,x8_1,rfl,rfl,HA,HK1,HO_6,HB⟩:=hrel
   cases gk with
  |zero=>exact absurd HA.out (by simp [penumbraref01_Sub.l0])
  |succ k1 =>
    have H:=HA.out
    clear HA
    simp only [penumbraref01_Sub.l0] at H
    by_cases c9 : x8_1 < (l0.length : Int)
    ·rw [if_pos c9] at H
     have c9b0 : decide (x8_1 < (l0.length : Int))=true:=decide_eq_true c9
     clear c9
     replace H:=Option.bind_eq_some_iff.mp H
     obtain ⟨t492,A100,H⟩:=H
     try dsimp only at H
     have A10:=Aside0.mk A100
     clear A100
     replace H:=Option.bind_eq_some_iff.mp H
     obtain ⟨t493,A110,H⟩:=H
     try dsimp only at H
     have A11:=Aside0.mk A110
     clear A110
     by_cases c12 : x6_1.length < 35184372088832
     case neg =>rw [if_neg c12] at H;exact absurd H (by simp)
     rw [if_pos c12] at H
     have LMc12:=Aside0.mk c12
     clear c12
     obtain ⟨y494,hy494⟩ : ∃ y_ : List Int,y_=(x6_1++[(Int.tmod (IntKind.u64.wrap ((IntKind.u64.wrap ((IntKind.u64.wrap (4294967296+t492)) - t493)) - x7_1)) 4294967296) % 4294967296]):=⟨_,rfl⟩
     replace H : (penumbraref01_Sub.l0 k1 l0 l1 y494 (IntKind.u64.wrap (1 - (IntKind.u64.wrap (Int.tdiv (IntKind.u64.wrap ((IntKind.u64.wrap ((IntKind.u64.wrap (4294967296+t492)) - t493)) - x7_1)) 4294967296)))) (wrap64 (x8_1+1)))=some (r1,r2):=by first|(rw [hy494];with_reducible exact H)|(have H2_:=(Option.bind_some _ _).symm.trans H;rw [hy494];with_reducible exact H2_)|(have H2_:=(Option.bind_some _ _).symm.trans H;with_reducible exact H2_)|with_reducible exact H|(rw [hy494];exact H)|exact H
     have Ny494:=Aside0.mk hy494
     clear hy494
     have H':=Aside0.mk H
     clear H
     go_wp2_with (first|((with_reducible refine gate_callee (f:=84) rfl ?_);refine goesL_ (some 23) rfl rfl Tryd.func84 (by kernel_rfl) rfl #[.slice A0 l0.length c0,.int .i64 x8_1] rfl (by (try simp only [List.map_toArray,List.map_cons,List.map_nil]);first|done|rfl) ?_;(with_reducible refine (penumbraref01_limb.calls _ _ l0 x8_1 t492 _ ?side1 ?side2 A10.out).mono ?_);(case side1=>repeat (first|exact (Kd.C_below HR0.out HB.out)|(with_reducible refine Kd.C_alloc ?_ _)|(with_reducible refine Kd.C_drewN ?_ _)|(with_reducible refine Kd.C_drew ?_)));(case side2=>exact HC0.out);rintro e w' ⟨rfl,⟨nd,rfl⟩⟩;refine ⟨_,rfl,?_⟩)|((with_reducible refine gate_callee (f:=84) rfl ?_);refine goesL_ (some 27) rfl rfl Tryd.func84 (by kernel_rfl) rfl #[.slice A1 l1.length c1,.int .i64 x8_1] rfl (by (try simp only [List.map_toArray,List.map_cons,List.map_nil]);first|done|rfl) ?_;(with_reducible refine (penumbraref01_limb.calls _ _ l1 x8_1 t493 _ ?side1 ?side2 A11.out).mono ?_);(case side1=>repeat (first|exact (Kd.C_below HR1.out (Hu HB.out))|(with_reducible refine Kd.C_alloc ?_ _)|(with_reducible refine Kd.C_drewN ?_ _)|(with_reducible refine Kd.C_drew ?_)));(case side2=>exact HC1.out);rintro e w' ⟨rfl,⟨nd,rfl⟩⟩;refine ⟨_,rfl,?_⟩)|((with_reducible refine gate_builtin (b:=.append) (xs:=#[.tmp 31,.tmp 35]) rfl ?_);at_builtin;refine Kd.R_append (Kd.int .u32) (w0:=w) w.heap.size rfl (.tmp 31) (.tmp 35) 23 35 (.int .u32 0) 4 rfl Tryd.underlying23 info35 rfl (by decide) (by omega) u6 x6_1 ((Int.tmod (IntKind.u64.wrap ((IntKind.u64.wrap ((IntKind.u64.wrap (4294967296+t492)) - t493)) - x7_1)) 4294967296) % 4294967296) [.int .u32 ((Int.tmod (IntKind.u64.wrap ((IntKind.u64.wrap ((IntKind.u64.wrap (4294967296+t492)) - t493)) - x7_1)) 4294967296) % 4294967296)] (fun _=>True) (fun _=>False) rfl rfl ?aP (fun _ hk=>hk.elim) ?aF ?aO ?aB ?aS ?aL ?_;(case aP=>exact rfl);(case aB=>exact (Hu HB.out));(case aF=>exact (fun _ _=>trivial));(case aO=>exact (Ru HO_6.out));(case aS=>exact (below_size (Hu HB.out)));(case aL=>have:=LMc12.out;omega);intro v495 w13 ho hb hg hat;rw [← Ny494.out] at ho;have n0_:=Aside0.mk (hb);have n1_:=Aside0.mk (ho);clear HB;clear HO_6;have HB:=n0_;have HO496:=n1_;clear n0_ n1_;clear ho hb hg hat))
     go_roundg k1
     case measure=>have:=HK1.out;omega
     case rel=>exact ⟨(y494),(IntKind.u64.wrap (1 - (IntKind.u64.wrap (Int.tdiv (IntKind.u64.wrap ((IntKind.u64.wrap ((IntKind.u64.wrap (4294967296+t492)) - t493)) - x7_1)) 4294967296)))),(wrap64 (x8_1+1)),(by first|rfl|(simp;done)|(simp [*];done)),(by first|rfl|(simp;done)|(simp [*];done)),H',⟨by have:=HK1.out;omega⟩,⟨Ru HO496.out⟩,⟨Hu HB.out⟩⟩
    ·rw [if_neg c9] at H
     have c9b0 : decide (x8_1 < (l0.length : Int))=false:=decide_eq_false c9
     clear c9
     replace H:=Option.bind_eq_some_iff.mp H
     obtain ⟨t497,A140,H⟩:=H
     try dsimp only at H
     have A14:=Aside0.mk A140
     clear A140
     simp only [Option.some.injEq,Prod.mk.injEq] at H
     obtain ⟨rfl,rfl⟩:=H
     obtain ⟨Ao15,co15,eo15⟩:=Kd.R_slice HO_6.out
     subst eo15
     go_wp2_with (first|((with_reducible refine gate_callee (f:=58) rfl ?_);refine goesL_ (some 41) rfl rfl Tryd.func58 (by kernel_rfl) rfl #[.slice Ao15 x6_1.length co15] rfl (by (try simp only [List.map_toArray,List.map_cons,List.map_nil]);first|done|rfl) ?_;(with_reducible refine (penumbraref01_Norm.calls k1 _ _ x6_1 t497 _ ?side1 ?side2 A14.out).mono ?_);(case side1=>exact Cu (Kd.R_reads' HO_6.out).2.2);(case side2=>exact (Kd.R_reads' HO_6.out).2.1);rintro e w16 ⟨v498,rfl,ho0,hb⟩;refine ⟨_,rfl,?_⟩;have n0_:=Aside0.mk (Kd.R_elder' (Ru HO_6.out) (Kd.R_base ho0) hb);have n1_:=Aside0.mk (Kd.R_lower (Kd.R_new' ho0 (Kd.R_lt (Ru HO_6.out))) (below_size (Hu HB.out)));have n2_:=Aside0.mk (below_step (Hu HB.out) hb);clear HO_6;clear HB;have HO_6:=n0_;have HO499:=n1_;have HB:=n2_;clear n0_ n1_ n2_))
     go_ret2
     exact ⟨_,by first|rfl|(simp [errW_none,errW_some] <;> rfl)|(simp [*,errW_none,errW_some] <;> rfl),by (with_reducible repeat (first|apply Ra|apply Rn|apply Rd));exact Kd.R_mono HO499.out (fun _ hk=>trivial),Hu HB.out⟩
end Go.Proofs.YtncdiodnbkhacaaDoor.Pq
end
end
section
section
namespace Go.Proofs.YtncdiodnbkhacaaDoor.Pq
open Go.RowKit Go.Proofs.YtncdiodnbkhacaaDoorW.PrintWords Go.Proofs.YtncdiodnbkhacaaDoorW.PrintLast Go.Proofs.YtncdiodnbkhacaaDoorW.PrintMore
attribute [local go_sem] max2_int min2_int max_two min_two max_three min_three max_four min_four
set_option linter.unusedVariables false
set_option linter.unusedSimpArgs false
set_option maxHeartbeats 8000000
set_option maxRecDepth 100000
open Go.Shelf
theorem penumbraref01_Zero.mono : ∀ a0 k,LeO (penumbraref01_Zero.f k a0) (penumbraref01_Zero.f (k+1) a0):=by
 intro a0 k
 unfold penumbraref01_Zero.f
 with_reducible repeat' first
  |exact penumbraref01_Cmp.mono _ _ _
  |exact LeO.refl _
  |exact LeO.none _
  |refine LeO.ite ?_ ?_
  |refine LeO.bind ?_ (fun _=>?_)
theorem penumbraref01_Zero.calls (k : Nat) (A0 : Option Addr) (c0 : Nat) (l0 : List Int) (r : Bool) (w : World) (hr0 : Kd.C (Kd.int .u32) w A0 l0.length l0) (hc0 : l0.length≤c0) (h : penumbraref01_Zero.f k l0=some r) :
  Calls Tryd.prog 33 #[.slice A0 l0.length c0] w fun e w'=>e=.returned (.bool r)∧Below w.heap.size w w':=by
 have HR0:=Aside0.mk hr0
 have HC0:=Aside0.mk hc0
 clear hr0 hc0
 have HB:=Aside0.mk (Below.refl w.heap.size w)
 have H : ((penumbraref01_Cmp.f k l0 ([] : List Int)).bind fun t425=>(some (t425 == 0)))=some r:=h
 clear h
 replace H:=Option.bind_eq_some_iff.mp H
 obtain ⟨t425,A20,H⟩:=H
 try dsimp only at H
 have A2:=Aside0.mk A20
 clear A20
 obtain rfl:=Option.some.inj H
 go_enter Tryd.func33,Tryd.ntmps33
 go_wp2_with (first|((with_reducible refine gate_callee (f:=59) rfl ?_);refine goesL_ (some 4) rfl rfl Tryd.func59 (by kernel_rfl) rfl #[.slice A0 l0.length c0,.slice none 0 0] rfl (by (try simp only [List.map_toArray,List.map_cons,List.map_nil]);first|done|rfl) ?_;(refine (penumbraref01_Cmp.calls k _ _ l0 _ _ ([] : List Int) t425 _ ?side1 ?side2 ?side3 ?side4 A2.out).mono ?_);(case side1=>exact Cu HR0.out);(case side2=>exact HC0.out);(case side3=>exact Kd.C_nil _ _);(case side4=>exact Nat.le_refl _);rintro e w3 ⟨rfl,hb⟩;refine ⟨_,rfl,?_⟩;have n0_:=Aside0.mk (below_step (Hu HB.out) hb);clear HB;have HB:=n0_;clear n0_))
 go_ret
 exact ⟨by first|rfl|(simp [errW_none,errW_some] <;> rfl)|(simp [*,errW_none,errW_some] <;> rfl),Hu HB.out⟩
end Go.Proofs.YtncdiodnbkhacaaDoor.Pq
end
end
section
section
namespace Go.Proofs.YtncdiodnbkhacaaDoor.Pq
open Go.RowKit Go.Proofs.YtncdiodnbkhacaaDoorW.PrintWords Go.Proofs.YtncdiodnbkhacaaDoorW.PrintLast Go.Proofs.YtncdiodnbkhacaaDoorW.PrintMore
attribute [local go_sem] max2_int min2_int max_two min_two max_three min_three max_four min_four
set_option linter.unusedVariables false
set_option linter.unusedSimpArgs false
set_option maxHeartbeats 8000000
set_option maxRecDepth 100000
theorem penumbraref01_at.calls (a0 : Int) (a1 : Int) (r : List Int) (w : World) (h : penumbraref01_at.f a0 a1=some r) :
  Calls Tryd.prog 71 #[.int .u64 a0,.int .i64 a1] w fun e w'=>∃ v0_ : Value,e=.returned (v0_)∧Kd.R (Kd.int .u32) 35 w' w.heap.size (fun _=>True) v0_ r∧Below w.heap.size w w':=by
 have HB:=Aside0.mk (Below.refl w.heap.size w)
 have H : (if 0≤a1 then (if (a1 : Int).toNat≤70368744177664 then ((some (List.replicate (a1 : Int).toNat 0 : List Int)).bind fun y479=>((some (([(Int.tmod a0 4294967296) % 4294967296,(IntKind.u64.wrap (Int.tdiv a0 4294967296)) % 4294967296] : List Int) : List Int)).bind fun y482=>(if y479.length+y482.length < 35184372088832 then (some (y479++y482)) else (none)))) else (none)) else (none))=some r:=h
 clear h
 by_cases c3 : 0≤a1
 case neg =>rw [if_neg c3] at H;exact absurd H (by simp)
 rw [if_pos c3] at H
 have c3b0:=eq_true c3
 have c3b1 : decide (0≤a1)=true:=decide_eq_true c3
 clear c3
 by_cases c4 : (a1 : Int).toNat≤70368744177664
 case neg =>rw [if_neg c4] at H;exact absurd H (by simp)
 rw [if_pos c4] at H
 have c4b0:=eq_true c4
 have c4b1 : decide ((a1 : Int).toNat≤70368744177664)=true:=decide_eq_true c4
 clear c4
 obtain ⟨y479,hy479⟩ : ∃ y_ : List Int,y_=(List.replicate (a1 : Int).toNat 0):=⟨_,rfl⟩
 replace H : ((some (([(Int.tmod a0 4294967296) % 4294967296,(IntKind.u64.wrap (Int.tdiv a0 4294967296)) % 4294967296] : List Int) : List Int)).bind fun y482=>(if y479.length+y482.length < 35184372088832 then (some (y479++y482)) else (none)))=some r:=by first|(rw [hy479];with_reducible exact H)|(have H2_:=(Option.bind_some _ _).symm.trans H;rw [hy479];with_reducible exact H2_)|(have H2_:=(Option.bind_some _ _).symm.trans H;with_reducible exact H2_)|with_reducible exact H|(rw [hy479];exact H)|exact H
 have Ny479:=Aside0.mk hy479
 clear hy479
 obtain ⟨y482,hy482⟩ : ∃ y_ : List Int,y_=(([(Int.tmod a0 4294967296) % 4294967296,(IntKind.u64.wrap (Int.tdiv a0 4294967296)) % 4294967296] : List Int)):=⟨_,rfl⟩
 replace H : (if y479.length+y482.length < 35184372088832 then (some (y479++y482)) else (none))=some r:=by first|(rw [hy482];with_reducible exact H)|(have H2_:=(Option.bind_some _ _).symm.trans H;rw [hy482];with_reducible exact H2_)|(have H2_:=(Option.bind_some _ _).symm.trans H;with_reducible exact H2_)|with_reducible exact H|(rw [hy482];exact H)|exact H
 have Ny482:=Aside0.mk hy482
 clear hy482
 by_cases c5 : y479.length+y482.length < 35184372088832
 case neg =>rw [if_neg c5] at H;exact absurd H (by simp)
 rw [if_pos c5] at H
 have LMc5:=Aside0.mk c5
 clear c5
 obtain ⟨y485,hy485⟩ : ∃ y_ : List Int,y_=(y479++y482):=⟨_,rfl⟩
 replace H : (some y485)=some r:=by first|(rw [hy485];with_reducible exact H)|(have H2_:=(Option.bind_some _ _).symm.trans H;rw [hy485];with_reducible exact H2_)|(have H2_:=(Option.bind_some _ _).symm.trans H;with_reducible exact H2_)|with_reducible exact H|(rw [hy485];exact H)|exact H
 have Ny485:=Aside0.mk hy485
 clear hy485
 obtain rfl:=Option.some.inj H
 go_enter Tryd.func71,Tryd.ntmps71
 go_wp2_with (first|((with_reducible refine gate_dst (N:=6) rfl ?_);refine Kd.R_make (Kd.int .u32) _ 35 rfl (N:=6) rfl 23 _ _ rfl a1 rfl rfl Tryd.underlying23 (.int .u32 0) 4 info35 rfl (by decide) (by omega) 0 (ok:=fun _=>True) (okp:=fun _=>True) rfl (fun _ hk=>hk) trivial (of_decide_eq_true (by assumption)) (Nat.le_trans (Nat.mul_le_mul_right _ (of_decide_eq_true (by assumption) : a1.toNat≤70368744177664)) (by omega)) (Below.refl _ _) (Nat.le_refl _) ?_;intro v480 w6 ho7 hb hg_ hnew_;clear hg_ hnew_;(first|rw [← Ny479.out] at ho7|(simp only [Int.reduceToNat] at ho7;rw [← Ny479.out] at ho7));have n0_:=Aside0.mk (Kd.R_lower ho7 (below_size (Hu HB.out)));have n1_:=Aside0.mk (below_step (Hu HB.out) hb);clear HB;have HO481:=n0_;have HB:=n1_;clear n0_ n1_;clear hb ho7)|((with_reducible refine gate_dst (N:=13) rfl ?_);refine Kd.R_lit (Kd.int .u32) _ 35 ?hg (N:=13) ?hd (xs:=([(Int.tmod a0 4294967296) % 4294967296,(IntKind.u64.wrap (Int.tdiv a0 4294967296)) % 4294967296] : List Int)) (inner:=[.int .u32 ((Int.tmod a0 4294967296) % 4294967296),.int .u32 ((IntKind.u64.wrap (Int.tdiv a0 4294967296)) % 4294967296)]) (ok:=fun _=>True) (okp:=fun _=>True) ?hr ?hp (fun _ hk=>hk) trivial (Below.refl _ _) (Nat.le_refl _) (by simp) ?_;(case hd=>rfl);(case hg=>rfl);(case hr=>first|(go_simp;done)|(go_simp;(with_reducible rfl))|(go_simp;rfl)|(go_simp;simp only [hu,Int.emod_sub_emod]));(case hp=>exact (Reps.one (show Kd.M (Kd.int .u32) _ _ _ ((Int.tmod a0 4294967296) % 4294967296) [.int .u32 ((Int.tmod a0 4294967296) % 4294967296)] from rfl) (Reps.one (show Kd.M (Kd.int .u32) _ _ _ ((IntKind.u64.wrap (Int.tdiv a0 4294967296)) % 4294967296) [.int .u32 ((IntKind.u64.wrap (Int.tdiv a0 4294967296)) % 4294967296)] from rfl) (Reps.none _ _))));intro v483 w8 ho9 hb hg_ hnew_;clear hg_ hnew_;(first|rw [← Ny482.out] at ho9|(simp only [Int.reduceToNat] at ho9;rw [← Ny482.out] at ho9));have n0_:=Aside0.mk (Kd.R_elder' (Ru HO481.out) (Kd.R_base ho9) hb);have n1_:=Aside0.mk (Kd.R_lower (Kd.R_new' ho9 (Kd.R_lt (Ru HO481.out))) (below_size (Hu HB.out)));have n2_:=Aside0.mk (below_step (Hu HB.out) hb);clear HO481;clear HB;have HO481:=n0_;have HO484:=n1_;have HB:=n2_;clear n0_ n1_ n2_;clear hb ho9;obtain ⟨Ao11,co11,eo11⟩:=Kd.R_slice HO484.out;subst eo11)|((with_reducible refine gate_builtin (b:=.append) (xs:=#[.tmp 6,.tmp 13]) rfl ?_);at_builtin;refine Kd.R_append_rows (Kd.int .u32) (w0:=w) w.heap.size rfl (.tmp 6) (.tmp 13) 23 35 (.int .u32 0) 4 rfl Tryd.underlying23 info35 rfl (by decide) (by omega) v480 y479 y482 _ _ _ (fun k_=>some k_≠(.slice Ao11 y482.length co11 : Value).ownBlock) (fun _=>False) rfl rfl ?aO ?aR (fun _ _ h=>h) (fun _ h=>h.elim) ?aF ?aB ?aS ?aL ?_;(case aR=>repeat (first|exact (Kd.R_reads' HO484.out).2.2|(with_reducible refine Kd.C_alloc ?_ _)|(with_reducible refine Kd.C_drewN ?_ _)|(with_reducible refine Kd.C_drew ?_)));(case aB=>exact (Hu HB.out));(case aF=>exact (fun k_ hk=>Kd.fresh' (Kd.R_lt (Ru HO484.out)) k_ hk));(case aO=>exact (by (with_reducible repeat (first|apply Ra|apply Rn|apply Rd));exact Kd.R_mono HO481.out (fun _ hk=>hk.2)));(case aS=>exact (below_size (Hu HB.out)));(case aL=>have:=LMc5.out;omega);intro v486 w10 ho hb hg hat;rw [← Ny485.out] at ho;have n0_:=Aside0.mk (Kd.R_after (ok:=(fun _=>True)) (Ru HO484.out) hg hat);have n1_:=Aside0.mk (hb);have n2_:=Aside0.mk (ho);clear HO484;clear HB;clear HO481;have HO484:=n0_;have HB:=n1_;have HO487:=n2_;clear n0_ n1_ n2_;clear ho hb hg hat))
 go_ret
 exact ⟨_,by first|rfl|(simp [errW_none,errW_some] <;> rfl)|(simp [*,errW_none,errW_some] <;> rfl),by (with_reducible repeat (first|apply Ra|apply Rn|apply Rd));exact Kd.R_mono HO487.out (fun _ hk=>trivial),Hu HB.out⟩
end Go.Proofs.YtncdiodnbkhacaaDoor.Pq
end
end
section
section
namespace Go.Proofs.YtncdiodnbkhacaaDoor.Pq
open Go.RowKit Go.Proofs.YtncdiodnbkhacaaDoorW.PrintWords Go.Proofs.YtncdiodnbkhacaaDoorW.PrintLast Go.Proofs.YtncdiodnbkhacaaDoorW.PrintMore
attribute [local go_sem] max2_int min2_int max_two min_two max_three min_three max_four min_four
set_option linter.unusedVariables false
set_option linter.unusedSimpArgs false
set_option maxHeartbeats 8000000
set_option maxRecDepth 100000
theorem penumbraref01_DivMod.mono_l : ∀ k,(∀ y0 y1 y2,LeO (penumbraref01_DivMod.l0 k y0 y1 y2) (penumbraref01_DivMod.l0 (k+1) y0 y1 y2))∧(∀ y0 y1 y2 y3 y4 y5,LeO (penumbraref01_DivMod.l1 k y0 y1 y2 y3 y4 y5) (penumbraref01_DivMod.l1 (k+1) y0 y1 y2 y3 y4 y5))∧(∀ y0 y1 y2 y3 y4 y5 y6 y7 y8 y9,LeO (penumbraref01_DivMod.j2 k y0 y1 y2 y3 y4 y5 y6 y7 y8 y9) (penumbraref01_DivMod.j2 (k+1) y0 y1 y2 y3 y4 y5 y6 y7 y8 y9))∧(∀ y0 y1 y2 y3 y4 y5 y6 y7,LeO (penumbraref01_DivMod.j3 k y0 y1 y2 y3 y4 y5 y6 y7) (penumbraref01_DivMod.j3 (k+1) y0 y1 y2 y3 y4 y5 y6 y7))∧(∀ y0 y1 y2 y3 y4 y5 y6 y7,LeO (penumbraref01_DivMod.j4 k y0 y1 y2 y3 y4 y5 y6 y7) (penumbraref01_DivMod.j4 (k+1) y0 y1 y2 y3 y4 y5 y6 y7))∧(∀ y0 y1 y2 y3,LeO (penumbraref01_DivMod.l2 k y0 y1 y2 y3) (penumbraref01_DivMod.l2 (k+1) y0 y1 y2 y3))
|0=>⟨fun _ _ _ r h=>by simp [penumbraref01_DivMod.l0] at h,fun _ _ _ _ _ _ r h=>by simp [penumbraref01_DivMod.l1] at h,fun _ _ _ _ _ _ _ _ _ _ r h=>by simp [penumbraref01_DivMod.j2] at h,fun _ _ _ _ _ _ _ _ r h=>by simp [penumbraref01_DivMod.j3] at h,fun _ _ _ _ _ _ _ _ r h=>by simp [penumbraref01_DivMod.j4] at h,fun _ _ _ _ r h=>by simp [penumbraref01_DivMod.l2] at h⟩
|k+1=>by
  obtain ⟨ih0,ih1,ih2,ih3,ih4,ih5⟩:=penumbraref01_DivMod.mono_l k
  refine ⟨?_,?_,?_,?_,?_,?_⟩
  ·intro y0 y1 y2
   unfold penumbraref01_DivMod.l0
   with_reducible repeat' first
  |exact ih0 _ _ _
  |exact ih1 _ _ _ _ _ _
  |exact ih2 _ _ _ _ _ _ _ _ _ _
  |exact ih3 _ _ _ _ _ _ _ _
  |exact ih4 _ _ _ _ _ _ _ _
  |exact ih5 _ _ _ _
  |exact penumbraref01_Add.mono _ _ _
  |exact penumbraref01_Cmp.mono _ _ _
  |exact penumbraref01_Double.mono _ _ _
  |exact penumbraref01_Half.mono _ _
  |exact penumbraref01_Mul.mono _ _ _
  |exact penumbraref01_Norm.mono _ _
  |exact penumbraref01_Sub.mono _ _ _
  |exact penumbraref01_Zero.mono _ _
  |exact LeO.refl _
  |exact LeO.none _
  |refine LeO.ite ?_ ?_
  |refine LeO.bind ?_ (fun _=>?_)
  ·intro y0 y1 y2 y3 y4 y5
   unfold penumbraref01_DivMod.l1
   with_reducible repeat' first
  |exact ih0 _ _ _
  |exact ih1 _ _ _ _ _ _
  |exact ih2 _ _ _ _ _ _ _ _ _ _
  |exact ih3 _ _ _ _ _ _ _ _
  |exact ih4 _ _ _ _ _ _ _ _
  |exact ih5 _ _ _ _
  |exact penumbraref01_Add.mono _ _ _
  |exact penumbraref01_Cmp.mono _ _ _
  |exact penumbraref01_Double.mono _ _ _
  |exact penumbraref01_Half.mono _ _
  |exact penumbraref01_Mul.mono _ _ _
  |exact penumbraref01_Norm.mono _ _
  |exact penumbraref01_Sub.mono _ _ _
  |exact penumbraref01_Zero.mono _ _
  |exact LeO.refl _
  |exact LeO.none _
  |refine LeO.ite ?_ ?_
  |refine LeO.bind ?_ (fun _=>?_)
  ·intro y0 y1 y2 y3 y4 y5 y6 y7 y8 y9
   unfold penumbraref01_DivMod.j2
   with_reducible repeat' first
  |exact ih0 _ _ _
  |exact ih1 _ _ _ _ _ _
  |exact ih2 _ _ _ _ _ _ _ _ _ _
  |exact ih3 _ _ _ _ _ _ _ _
  |exact ih4 _ _ _ _ _ _ _ _
  |exact ih5 _ _ _ _
  |exact penumbraref01_Add.mono _ _ _
  |exact penumbraref01_Cmp.mono _ _ _
  |exact penumbraref01_Double.mono _ _ _
  |exact penumbraref01_Half.mono _ _
  |exact penumbraref01_Mul.mono _ _ _
  |exact penumbraref01_Norm.mono _ _
  |exact penumbraref01_Sub.mono _ _ _
  |exact penumbraref01_Zero.mono _ _
  |exact LeO.refl _
  |exact LeO.none _
  |refine LeO.ite ?_ ?_
  |refine LeO.bind ?_ (fun _=>?_)
  ·intro y0 y1 y2 y3 y4 y5 y6 y7
   unfold penumbraref01_DivMod.j3
   with_reducible repeat' first
  |exact ih0 _ _ _
  |exact ih1 _ _ _ _ _ _
  |exact ih2 _ _ _ _ _ _ _ _ _ _
  |exact ih3 _ _ _ _ _ _ _ _
  |exact ih4 _ _ _ _ _ _ _ _
  |exact ih5 _ _ _ _
  |exact penumbraref01_Add.mono _ _ _
  |exact penumbraref01_Cmp.mono _ _ _
  |exact penumbraref01_Double.mono _ _ _
  |exact penumbraref01_Half.mono _ _
  |exact penumbraref01_Mul.mono _ _ _
  |exact penumbraref01_Norm.mono _ _
  |exact penumbraref01_Sub.mono _ _ _
  |exact penumbraref01_Zero.mono _ _
  |exact LeO.refl _
  |exact LeO.none _
  |refine LeO.ite ?_ ?_
  |refine LeO.bind ?_ (fun _=>?_)
  ·intro y0 y1 y2 y3 y4 y5 y6 y7
   unfold penumbraref01_DivMod.j4
   with_reducible repeat' first
  |exact ih0 _ _ _
  |exact ih1 _ _ _ _ _ _
  |exact ih2 _ _ _ _ _ _ _ _ _ _
  |exact ih3 _ _ _ _ _ _ _ _
  |exact ih4 _ _ _ _ _ _ _ _
  |exact ih5 _ _ _ _
  |exact penumbraref01_Add.mono _ _ _
  |exact penumbraref01_Cmp.mono _ _ _
  |exact penumbraref01_Double.mono _ _ _
  |exact penumbraref01_Half.mono _ _
  |exact penumbraref01_Mul.mono _ _ _
  |exact penumbraref01_Norm.mono _ _
  |exact penumbraref01_Sub.mono _ _ _
  |exact penumbraref01_Zero.mono _ _
  |exact LeO.refl _
  |exact LeO.none _
  |refine LeO.ite ?_ ?_
  |refine LeO.bind ?_ (fun _=>?_)
  ·intro y0 y1 y2 y3
   unfold penumbraref01_DivMod.l2
   with_reducible repeat' first
  |exact ih0 _ _ _
  |exact ih1 _ _ _ _ _ _
  |exact ih2 _ _ _ _ _ _ _ _ _ _
  |exact ih3 _ _ _ _ _ _ _ _
  |exact ih4 _ _ _ _ _ _ _ _
  |exact ih5 _ _ _ _
  |exact penumbraref01_Add.mono _ _ _
  |exact penumbraref01_Cmp.mono _ _ _
  |exact penumbraref01_Double.mono _ _ _
  |exact penumbraref01_Half.mono _ _
  |exact penumbraref01_Mul.mono _ _ _
  |exact penumbraref01_Norm.mono _ _
  |exact penumbraref01_Sub.mono _ _ _
  |exact penumbraref01_Zero.mono _ _
  |exact LeO.refl _
  |exact LeO.none _
  |refine LeO.ite ?_ ?_
  |refine LeO.bind ?_ (fun _=>?_)
theorem penumbraref01_DivMod.mono : ∀ a0 a1 k,LeO (penumbraref01_DivMod.f k a0 a1) (penumbraref01_DivMod.f (k+1) a0 a1):=by
 intro a0 a1 k
 obtain ⟨ih0,ih1,ih2,ih3,ih4,ih5⟩:=penumbraref01_DivMod.mono_l k
 unfold penumbraref01_DivMod.f
 with_reducible repeat' first
  |exact ih0 _ _ _
  |exact ih1 _ _ _ _ _ _
  |exact ih2 _ _ _ _ _ _ _ _ _ _
  |exact ih3 _ _ _ _ _ _ _ _
  |exact ih4 _ _ _ _ _ _ _ _
  |exact ih5 _ _ _ _
  |exact penumbraref01_Add.mono _ _ _
  |exact penumbraref01_Cmp.mono _ _ _
  |exact penumbraref01_Double.mono _ _ _
  |exact penumbraref01_Half.mono _ _
  |exact penumbraref01_Mul.mono _ _ _
  |exact penumbraref01_Norm.mono _ _
  |exact penumbraref01_Sub.mono _ _ _
  |exact penumbraref01_Zero.mono _ _
  |exact LeO.refl _
  |exact LeO.none _
  |refine LeO.ite ?_ ?_
  |refine LeO.bind ?_ (fun _=>?_)
theorem penumbraref01_DivMod.calls (k : Nat) (A0 : Option Addr) (c0 : Nat) (l0 : List Int) (A1 : Option Addr) (c1 : Nat) (l1 : List Int) (r1 : List Int) (r2 : List Int) (r3 : Bool) (w : World) (hr0 : Kd.C (Kd.int .u32) w A0 l0.length l0) (hc0 : l0.length≤c0) (hr1 : Kd.C (Kd.int .u32) w A1 l1.length l1) (hc1 : l1.length≤c1) (h : penumbraref01_DivMod.f k l0 l1=some (r1,r2,r3)) :
  Calls Tryd.prog 42 #[.slice A0 l0.length c0,.slice A1 l1.length c1] w fun e w'=>∃ v0_ v1_ : Value,e=.returned (.tuple #[v0_,v1_,.bool r3])∧Kd.R (Kd.int .u32) 35 w' w.heap.size (fun k_=>some k_≠(v1_ : Value).ownBlock) v0_ r1∧Kd.R (Kd.int .u32) 35 w' w.heap.size (fun k_=>some k_≠(v0_ : Value).ownBlock) v1_ r2∧Below w.heap.size w w':=by
 have HR0:=Aside0.mk hr0
 have HC0:=Aside0.mk hc0
 clear hr0 hc0
 have HR1:=Aside0.mk hr1
 have HC1:=Aside0.mk hc1
 clear hr1 hc1
 have HB:=Aside0.mk (Below.refl w.heap.size w)
 have H : ((penumbraref01_Zero.f k l1).bind fun t511=>(if t511=true then (some (([] : List Int),([] : List Int),false)) else ((penumbraref01_Norm.f k l1).bind fun t512=>((penumbraref01_Norm.f k l0).bind fun t515=>(penumbraref01_DivMod.l0 k t512 t515 0)))))=some (r1,r2,r3):=h
 clear h
 replace H:=Option.bind_eq_some_iff.mp H
 obtain ⟨t511,A30,H⟩:=H
 try dsimp only at H
 have A3:=Aside0.mk A30
 clear A30
 by_cases c4 : t511=true
 ·subst c4
  rw [if_pos rfl] at H
  simp only [Option.some.injEq,Prod.mk.injEq] at H
  obtain ⟨rfl,rfl,rfl⟩:=H
  go_enter Tryd.func42,Tryd.ntmps42
  go_wp2_with (first|(go_at_call 33;(with_reducible refine (penumbraref01_Zero.calls k _ _ l1 true _ ?side1 ?side2 A3.out).mono ?_);(case side1=>exact Cu HR1.out);(case side2=>exact HC1.out);rintro e w5 ⟨rfl,hb⟩;have n0_:=Aside0.mk (below_step (Hu HB.out) hb);clear HB;have HB:=n0_;clear n0_))
  go_ret3
  exact ⟨_,_,by first|rfl|(simp [errW_none,errW_some] <;> rfl)|(simp [*,errW_none,errW_some] <;> rfl),by first|exact Kd.R_nil _ _ _ _ _|exact Kd.N_nil _ _ _ _ _|exact Kd.V_nil _ _ _ _ _|exact Kd.Q_nil _ _ _ _ _|exact Kd.S_nil _ _ _ _ _,by first|exact Kd.R_nil _ _ _ _ _|exact Kd.N_nil _ _ _ _ _|exact Kd.V_nil _ _ _ _ _|exact Kd.Q_nil _ _ _ _ _|exact Kd.S_nil _ _ _ _ _,Hu HB.out⟩
 ·replace c4:=Bool.eq_false_iff.mpr c4
  subst c4
  rw [if_neg (show ¬ (false=true) by decide)] at H
  replace H:=Option.bind_eq_some_iff.mp H
  obtain ⟨t512,A60,H⟩:=H
  try dsimp only at H
  have A6:=Aside0.mk A60
  clear A60
  replace H:=Option.bind_eq_some_iff.mp H
  obtain ⟨t515,A70,H⟩:=H
  try dsimp only at H
  have A7:=Aside0.mk A70
  clear A70
  have H':=Aside0.mk H
  clear H
  go_enter Tryd.func42,Tryd.ntmps42
  go_wp2_with (first|(go_at_call 33;(with_reducible refine (penumbraref01_Zero.calls k _ _ l1 false _ ?side1 ?side2 A3.out).mono ?_);(case side1=>exact Cu HR1.out);(case side2=>exact HC1.out);rintro e w8 ⟨rfl,hb⟩;have n0_:=Aside0.mk (below_step (Hu HB.out) hb);clear HB;have HB:=n0_;clear n0_)|(go_at_call 58;(with_reducible refine (penumbraref01_Norm.calls k _ _ l1 t512 _ ?side1 ?side2 A6.out).mono ?_);(case side1=>repeat (first|exact (Kd.C_below HR1.out HB.out)|(with_reducible refine Kd.C_alloc ?_ _)|(with_reducible refine Kd.C_drewN ?_ _)|(with_reducible refine Kd.C_drew ?_)));(case side2=>exact HC1.out);rintro e w9 ⟨v513,rfl,ho0,hb⟩;have n0_:=Aside0.mk (Kd.R_lower ho0 (below_size (Hu HB.out)));have n1_:=Aside0.mk (below_step (Hu HB.out) hb);clear HB;have HO514:=n0_;have HB:=n1_;clear n0_ n1_)|(go_at_call 58;(with_reducible refine (penumbraref01_Norm.calls k _ _ l0 t515 _ ?side1 ?side2 A7.out).mono ?_);(case side1=>repeat (first|exact (Kd.C_below HR0.out HB.out)|(with_reducible refine Kd.C_alloc ?_ _)|(with_reducible refine Kd.C_drewN ?_ _)|(with_reducible refine Kd.C_drew ?_)));(case side2=>exact HC0.out);rintro e w10 ⟨v516,rfl,ho0,hb⟩;have n0_:=Aside0.mk (Kd.R_elder' (Ru HO514.out) (Kd.R_base ho0) hb);have n1_:=Aside0.mk (Kd.R_lower (Kd.R_new' ho0 (Kd.R_lt (Ru HO514.out))) (below_size (Hu HB.out)));have n2_:=Aside0.mk (below_step (Hu HB.out) hb);clear HO514;clear HB;have HO514:=n0_;have HO517:=n1_;have HB:=n2_;clear n0_ n1_ n2_))
  go_loopg [7,8,9] k (fun kq v7 v8 v9 w'=>∃ (x7_1 : List Int) (x8_1 : List Int) (x9_1 : Int),v9=.int .i64 x9_1∧Aside0 (penumbraref01_DivMod.l0 kq x7_1 x8_1 x9_1=some (r1,r2,r3))∧Aside0 (kq≤k)∧Aside0 (Kd.R (Kd.int .u32) 35 w' w.heap.size (fun k_=>some k_≠(v8 : Value).ownBlock) v7 x7_1)∧Aside0 (Kd.R (Kd.int .u32) 35 w' w.heap.size (fun k_=>some k_≠(v7 : Value).ownBlock) v8 x8_1)∧Aside0 (Below w.heap.size w w'))
  case atStart=>exact ⟨(t512),(t515),(0),(by first|rfl|(simp;done)|(simp [*];done)),H',⟨Nat.le_refl _⟩,⟨by (with_reducible repeat (first|apply Ra|apply Rn|apply Rd));exact Kd.R_mono HO514.out (fun _ hk=>hk.2)⟩,⟨by (with_reducible repeat (first|apply Ra|apply Rn|apply Rd));exact Kd.R_mono HO517.out (fun _ hk=>hk.2)⟩,⟨Hu HB.out⟩⟩
  case round =>
   clear H'
   obtain ⟨x7_1,x8_1,x9_1,rfl,HA,HK1,HO_7,HO_8,HB⟩:=hrel
   cases gk with
  |zero=>exact absurd HA.out (by simp [penumbraref01_DivMod.l0])
  |succ k1 =>
    have H:=HA.out
    clear HA
    simp only [penumbraref01_DivMod.l0] at H
    obtain ⟨ji11,hji11⟩ : ∃ j_ : Int,(wrap64 ((x7_1.length : Int) - 1))=j_:=⟨_,rfl⟩
    replace H : (if 0≤(ji11) then (if (ji11) < (x7_1.length : Int) then (if (rd x7_1 (ji11)) < 2147483648 then ((penumbraref01_Double.f k1 x7_1 false).bind fun t519=>((penumbraref01_Double.f k1 x8_1 false).bind fun t522=>(penumbraref01_DivMod.l0 k1 t519 t522 (wrap64 (x9_1+1))))) else (penumbraref01_DivMod.l1 k1 x7_1 x8_1 x9_1 (([] : List Int)) (x7_1.length : Int) (IntKind.u64.wrap ((IntKind.u64.wrap (rd x7_1 (ji11)))+1)))) else (none)) else (none))=some (r1,r2,r3):=by first|(rw [hji11] at H;exact H)|(simp only [hji11] at H ⊢;exact H)
    have hji11w : (IntKind.i64.wrap ((x7_1.length : Int) - 1))=ji11:=(i64_w _).trans hji11
    by_cases c12 : 0≤(ji11)
    case neg =>rw [if_neg c12] at H;exact absurd H (by simp)
    rw [if_pos c12] at H
    have c12b0 : decide (0≤(ji11))=true:=decide_eq_true c12
    clear c12
    by_cases c13 : (ji11) < (x7_1.length : Int)
    case neg =>rw [if_neg c13] at H;exact absurd H (by simp)
    rw [if_pos c13] at H
    have c13b0 : decide ((ji11) < (x7_1.length : Int))=true:=decide_eq_true c13
    clear c13
    by_cases c14 : (rd x7_1 (ji11)) < 2147483648
    ·rw [if_pos c14] at H
     have c14b0 : decide ((rd x7_1 (ji11)) < 2147483648)=true:=decide_eq_true c14
     clear c14
     replace H:=Option.bind_eq_some_iff.mp H
     obtain ⟨t519,A150,H⟩:=H
     try dsimp only at H
     have A15:=Aside0.mk A150
     clear A150
     replace H:=Option.bind_eq_some_iff.mp H
     obtain ⟨t522,A160,H⟩:=H
     try dsimp only at H
     have A16:=Aside0.mk A160
     clear A160
     have H':=Aside0.mk H
     clear H
     obtain ⟨Ao17,co17,eo17⟩:=Kd.R_slice HO_7.out
     subst eo17
     have p518 : 0≤((ji11) : Int):=of_decide_eq_true (by assumption)
     have q518 : (ji11) < (x7_1.length : Int):=of_decide_eq_true (by assumption)
     obtain ⟨ad518,e518,hx518_0⟩:=Kd.at_int (Kd.R_reads' HO_7.out).2.2 (ji11) p518 q518
     cases e518
     replace p518:=eq_true p518
     replace q518:=eq_true q518
     go_wp2_with (first|(go_at_call 70;(with_reducible refine (penumbraref01_Double.calls k1 _ _ x7_1 false t519 _ ?side1 ?side2 A15.out).mono ?_);(case side1=>exact Cu (Kd.R_reads' HO_7.out).2.2);(case side2=>exact (Kd.R_reads' HO_7.out).2.1);rintro e w18 ⟨v520,rfl,ho0,hb⟩;have n0_:=Aside0.mk (Kd.R_elder' (Ru HO_7.out) (Kd.R_base ho0) hb);have n1_:=Aside0.mk (Kd.R_elder' (Ru HO_8.out) (Kd.R_base ho0) hb);have n2_:=Aside0.mk (Kd.R_lower (Kd.R_new' (Kd.R_new' ho0 (Kd.R_lt (Ru HO_7.out))) (Kd.R_lt (Ru HO_8.out))) (below_size (Hu HB.out)));have n3_:=Aside0.mk (below_step (Hu HB.out) hb);clear HO_7;clear HO_8;clear HB;have HO_7:=n0_;have HO_8:=n1_;have HO521:=n2_;have HB:=n3_;clear n0_ n1_ n2_ n3_;obtain ⟨Ao19,co19,eo19⟩:=Kd.R_slice HO_8.out;subst eo19)|(go_at_call 70;(with_reducible refine (penumbraref01_Double.calls k1 _ _ x8_1 false t522 _ ?side1 ?side2 A16.out).mono ?_);(case side1=>exact Cu (Kd.R_reads' HO_8.out).2.2);(case side2=>exact (Kd.R_reads' HO_8.out).2.1);rintro e w20 ⟨v523,rfl,ho0,hb⟩;have n0_:=Aside0.mk (Kd.R_elder' (Ru HO_7.out) (Kd.R_base ho0) hb);have n1_:=Aside0.mk (Kd.R_elder' (Ru HO_8.out) (Kd.R_base ho0) hb);have n2_:=Aside0.mk (Kd.R_elder' (Ru HO521.out) (Kd.R_base ho0) hb);have n3_:=Aside0.mk (Kd.R_lower (Kd.R_new' (Kd.R_new' (Kd.R_new' ho0 (Kd.R_lt (Ru HO_7.out))) (Kd.R_lt (Ru HO_8.out))) (Kd.R_lt (Ru HO521.out))) (below_size (Hu HB.out)));have n4_:=Aside0.mk (below_step (Hu HB.out) hb);clear HO_7;clear HO_8;clear HO521;clear HB;have HO_7:=n0_;have HO_8:=n1_;have HO521:=n2_;have HO524:=n3_;have HB:=n4_;clear n0_ n1_ n2_ n3_ n4_))
     go_roundg k1
     case measure=>have:=HK1.out;omega
     case rel=>exact ⟨(t519),(t522),(wrap64 (x9_1+1)),(by first|rfl|(simp;done)|(simp [*];done)),H',⟨by have:=HK1.out;omega⟩,⟨by (with_reducible repeat (first|apply Ra|apply Rn|apply Rd));exact Kd.R_mono HO521.out (fun _ hk=>hk.2)⟩,⟨by (with_reducible repeat (first|apply Ra|apply Rn|apply Rd));exact Kd.R_mono HO524.out (fun _ hk=>hk.2)⟩,⟨Hu HB.out⟩⟩
    ·rw [if_neg c14] at H
     have c14b0 : decide ((rd x7_1 (ji11)) < 2147483648)=false:=decide_eq_false c14
     clear c14
     obtain ⟨y525,hy525⟩ : ∃ y_ : List Int,y_=(([] : List Int)):=⟨_,rfl⟩
     replace H : (penumbraref01_DivMod.l1 k1 x7_1 x8_1 x9_1 y525 (x7_1.length : Int) (IntKind.u64.wrap ((IntKind.u64.wrap (rd x7_1 (ji11)))+1)))=some (r1,r2,r3):=by first|(rw [hy525];with_reducible exact H)|(have H2_:=(Option.bind_some _ _).symm.trans H;rw [hy525];with_reducible exact H2_)|(have H2_:=(Option.bind_some _ _).symm.trans H;with_reducible exact H2_)|with_reducible exact H|(rw [hy525];exact H)|exact H
     have Ny525:=Aside0.mk hy525
     clear hy525
     have H':=Aside0.mk H
     clear H
     obtain ⟨Ao21,co21,eo21⟩:=Kd.R_slice HO_7.out
     subst eo21
     have p518 : 0≤((ji11) : Int):=of_decide_eq_true (by assumption)
     have q518 : (ji11) < (x7_1.length : Int):=of_decide_eq_true (by assumption)
     obtain ⟨ad518,e518,hx518_0⟩:=Kd.at_int (Kd.R_reads' HO_7.out).2.2 (ji11) p518 q518
     cases e518
     replace p518:=eq_true p518
     replace q518:=eq_true q518
     go_wp2_with (first|((with_reducible refine gate_dst (N:=37) rfl ?_);refine Kd.R_lit (Kd.int .u32) _ 35 ?hg (N:=37) ?hd (xs:=([] : List Int)) (inner:=[]) (ok:=fun _=>True) (okp:=fun _=>True) ?hr ?hp (fun _ hk=>hk) trivial (Below.refl _ _) (Nat.le_refl _) (by simp) ?_;(case hd=>rfl);(case hg=>rfl);(case hr=>first|(go_simp;done)|(go_simp;(with_reducible rfl))|(go_simp;rfl)|(go_simp;simp only [hu,Int.emod_sub_emod]));(case hp=>exact (Reps.none _ _));intro v526 w22 ho23 hb hg_ hnew_;clear hg_ hnew_;(first|rw [← Ny525.out] at ho23|(simp only [Int.reduceToNat] at ho23;rw [← Ny525.out] at ho23));have n0_:=Aside0.mk (Kd.R_elder' (Ru HO_7.out) (Kd.R_base ho23) hb);have n1_:=Aside0.mk (Kd.R_elder' (Ru HO_8.out) (Kd.R_base ho23) hb);have n2_:=Aside0.mk (Kd.R_lower (Kd.R_new' (Kd.R_new' ho23 (Kd.R_lt (Ru HO_7.out))) (Kd.R_lt (Ru HO_8.out))) (below_size (Hu HB.out)));have n3_:=Aside0.mk (below_step (Hu HB.out) hb);clear HO_7;clear HO_8;clear HB;have HO_7:=n0_;have HO_8:=n1_;have HO527:=n2_;have HB:=n3_;clear n0_ n1_ n2_ n3_;clear hb ho23;have p528 : 0≤((ji11) : Int):=of_decide_eq_true (by assumption);have q528 : (ji11) < (x7_1.length : Int):=of_decide_eq_true (by assumption);obtain ⟨ad528,e528,hx528_0⟩:=Kd.at_int (Kd.R_reads' HO_7.out).2.2 (ji11) p528 q528;obtain rfl : ad518=ad528:=(by injection e528);replace p528:=eq_true p528;replace q528:=eq_true q528))
     go_loopg [8,10] k1 (fun kq v8 v10 w'=>∃ (x8_2 : List Int) (x10_2 : List Int),Aside0 (penumbraref01_DivMod.l1 kq x7_1 x8_2 x9_1 x10_2 (x7_1.length : Int) (IntKind.u64.wrap ((IntKind.u64.wrap (rd x7_1 (ji11)))+1))=some (r1,r2,r3))∧Aside0 (kq≤k1)∧Aside0 (Kd.R (Kd.int .u32) 35 w' w.heap.size (fun k_=>some k_≠(v8 : Value).ownBlock∧some k_≠(v10 : Value).ownBlock) (.slice (some ad518) x7_1.length co21) x7_1)∧Aside0 (Kd.R (Kd.int .u32) 35 w' w.heap.size (fun k_=>some k_≠((.slice (some ad518) x7_1.length co21) : Value).ownBlock∧some k_≠(v10 : Value).ownBlock) v8 x8_2)∧Aside0 (Kd.R (Kd.int .u32) 35 w' w.heap.size (fun k_=>some k_≠((.slice (some ad518) x7_1.length co21) : Value).ownBlock∧some k_≠(v8 : Value).ownBlock) v10 x10_2)∧Aside0 (Below w.heap.size w w'))
     case atStart=>exact ⟨(x8_1),(y525),H',⟨Nat.le_refl _⟩,⟨Ru HO_7.out⟩,⟨Ru HO_8.out⟩,⟨by (with_reducible repeat (first|apply Ra|apply Rn|apply Rd));exact Kd.R_mono HO527.out (fun _ hk=>⟨hk.1.2,hk.2⟩)⟩,⟨Hu HB.out⟩⟩
     case round =>
      clear H'
      obtain ⟨x8_2,x10_2,HA,HK2,HO_7,HO_8,HO_10,HB⟩:=hrel
      cases gk with
     |zero=>exact absurd HA.out (by simp [penumbraref01_DivMod.l1])
     |succ k2 =>
       have H:=HA.out
       clear HA
       simp only [penumbraref01_DivMod.l1] at H
       replace H:=Option.bind_eq_some_iff.mp H
       obtain ⟨t529,A240,H⟩:=H
       try dsimp only at H
       have A24:=Aside0.mk A240
       clear A240
       by_cases c25 : t529 ≥ 0
       ·rw [if_pos c25] at H
        have c25b0 : decide (0≤t529)=true:=decide_eq_true c25
        clear c25
        obtain ⟨ji26,hji26⟩ : ∃ j_ : Int,(wrap64 ((x8_2.length : Int) - 1))=j_:=⟨_,rfl⟩
        replace H : (if 0≤(ji26) then (if (ji26) < (x8_2.length : Int) then (if (IntKind.u64.wrap ((IntKind.u64.wrap (rd x7_1 (ji11)))+1))=0 then (none) else (if (IntKind.u64.wrap (Int.tdiv (IntKind.u64.wrap (rd x8_2 (ji26))) (IntKind.u64.wrap ((IntKind.u64.wrap (rd x7_1 (ji11)))+1))))=0 then (penumbraref01_DivMod.j2 k2 x7_1 x8_2 x9_1 x10_2 (x7_1.length : Int) (IntKind.u64.wrap ((IntKind.u64.wrap (rd x7_1 (ji11)))+1)) (x8_2.length : Int) (wrap64 ((x8_2.length : Int) - (x7_1.length : Int))) (IntKind.u64.wrap (Int.tdiv (IntKind.u64.wrap (rd x8_2 (ji26))) (IntKind.u64.wrap ((IntKind.u64.wrap (rd x7_1 (ji11)))+1)))) (decide ((x8_2.length : Int) > (x7_1.length : Int)))) else (penumbraref01_DivMod.j2 k2 x7_1 x8_2 x9_1 x10_2 (x7_1.length : Int) (IntKind.u64.wrap ((IntKind.u64.wrap (rd x7_1 (ji11)))+1)) (x8_2.length : Int) (wrap64 ((x8_2.length : Int) - (x7_1.length : Int))) (IntKind.u64.wrap (Int.tdiv (IntKind.u64.wrap (rd x8_2 (ji26))) (IntKind.u64.wrap ((IntKind.u64.wrap (rd x7_1 (ji11)))+1)))) false))) else (none)) else (none))=some (r1,r2,r3):=by first|(rw [hji26] at H;exact H)|(simp only [hji26] at H ⊢;exact H)
        (try rw [hji26] at A24)
        have hji26w : (IntKind.i64.wrap ((x8_2.length : Int) - 1))=ji26:=(i64_w _).trans hji26
        by_cases c27 : 0≤(ji26)
        case neg =>rw [if_neg c27] at H;exact absurd H (by simp)
        rw [if_pos c27] at H
        have c27b0 : decide (0≤(ji26))=true:=decide_eq_true c27
        clear c27
        by_cases c28 : (ji26) < (x8_2.length : Int)
        case neg =>rw [if_neg c28] at H;exact absurd H (by simp)
        rw [if_pos c28] at H
        have c28b0 : decide ((ji26) < (x8_2.length : Int))=true:=decide_eq_true c28
        clear c28
        by_cases c29 : (IntKind.u64.wrap ((IntKind.u64.wrap (rd x7_1 (ji11)))+1))=0
        ·rw [if_pos c29] at H
         exact absurd H (by simp)
        ·rw [if_neg c29] at H
         have c29b0 : ((IntKind.u64.wrap ((IntKind.u64.wrap (rd x7_1 (ji11)))+1)) == 0)=false:=beq_eq_false_iff_ne.mpr c29
         have c29b1 : ((IntKind.u64.wrap ((IntKind.u64.wrap (rd x7_1 (ji11)))+1)) != 0)=true:=bne_iff_ne.mpr c29
         have HC30:=Aside0.mk H
         clear H
         obtain ⟨Ao31,co31,eo31⟩:=Kd.R_slice HO_8.out
         subst eo31
         go_upto_region 17 with (first|(go_at_call 59;(with_reducible refine (penumbraref01_Cmp.calls k2 _ _ x8_2 _ _ x7_1 t529 _ ?side1 ?side2 ?side3 ?side4 A24.out).mono ?_);(case side1=>exact Cu (Kd.R_reads' HO_8.out).2.2);(case side2=>exact (Kd.R_reads' HO_8.out).2.1);(case side3=>exact Cu (Kd.R_reads' HO_7.out).2.2);(case side4=>exact (Kd.R_reads' HO_7.out).2.1);rintro e w32 ⟨rfl,hb⟩;have n0_:=Aside0.mk (Kd.R_below (Ru HO_7.out) hb);have n1_:=Aside0.mk (Kd.R_below (Ru HO_8.out) hb);have n2_:=Aside0.mk (Kd.R_below (Ru HO_10.out) hb);have n3_:=Aside0.mk (below_step (Hu HB.out) hb);clear HO_7;clear HO_8;clear HO_10;clear HB;have HO_7:=n0_;have HO_8:=n1_;have HO_10:=n2_;have HB:=n3_;clear n0_ n1_ n2_ n3_;have p530 : 0≤((ji26) : Int):=of_decide_eq_true (by assumption);have q530 : (ji26) < (x8_2.length : Int):=of_decide_eq_true (by assumption);obtain ⟨ad530,e530,hx530_0⟩:=Kd.at_int (Kd.R_reads' HO_8.out).2.2 (ji26) p530 q530;cases e530;replace p530:=eq_true p530;replace q530:=eq_true q530))
         (try simp only [Act.put,s0,s1,s2])
         go_cut [70] (fun v70 wc=>∃ (kq : Nat) (x70_29 : Bool),v70=.bool x70_29∧Aside0 (penumbraref01_DivMod.j2 kq x7_1 x8_2 x9_1 x10_2 (x7_1.length : Int) (IntKind.u64.wrap ((IntKind.u64.wrap (rd x7_1 (ji11)))+1)) (x8_2.length : Int) (wrap64 ((x8_2.length : Int) - (x7_1.length : Int))) (IntKind.u64.wrap (Int.tdiv (IntKind.u64.wrap (rd x8_2 (ji26))) (IntKind.u64.wrap ((IntKind.u64.wrap (rd x7_1 (ji11)))+1)))) x70_29=some (r1,r2,r3))∧Aside0 (kq≤k2)∧Aside0 (Kd.R (Kd.int .u32) 35 wc w.heap.size (fun k_=>some k_≠((.slice (some ad530) x8_2.length co31) : Value).ownBlock∧some k_≠(u10 : Value).ownBlock) (.slice (some ad518) x7_1.length co21) x7_1)∧Aside0 (Kd.R (Kd.int .u32) 35 wc w.heap.size (fun k_=>some k_≠((.slice (some ad518) x7_1.length co21) : Value).ownBlock∧some k_≠(u10 : Value).ownBlock) (.slice (some ad530) x8_2.length co31) x8_2)∧Aside0 (Kd.R (Kd.int .u32) 35 wc w.heap.size (fun k_=>some k_≠((.slice (some ad518) x7_1.length co21) : Value).ownBlock∧some k_≠((.slice (some ad530) x8_2.length co31) : Value).ownBlock) u10 x10_2)∧Aside0 (Below w.heap.size w wc))
         case first =>
          have H:=HC30.out
          clear HC30
          by_cases c33 : (IntKind.u64.wrap (Int.tdiv (IntKind.u64.wrap (rd x8_2 (ji26))) (IntKind.u64.wrap ((IntKind.u64.wrap (rd x7_1 (ji11)))+1))))=0
          ·rw [if_pos c33] at H
           have c33b0 : ((IntKind.u64.wrap (Int.tdiv (IntKind.u64.wrap (rd x8_2 (ji26))) (IntKind.u64.wrap ((IntKind.u64.wrap (rd x7_1 (ji11)))+1)))) == 0)=true:=beq_iff_eq.mpr c33
           have c33b1 : ((IntKind.u64.wrap (Int.tdiv (IntKind.u64.wrap (rd x8_2 (ji26))) (IntKind.u64.wrap ((IntKind.u64.wrap (rd x7_1 (ji11)))+1)))) != 0)=false:=bne_eq_false_iff_eq.mpr c33
           clear c33
           (first|rw [c33b0]|(simp only [i64_w,i32_w];rw [c33b0])|skip)
           have H':=Aside0.mk H
           clear H
           go_wp2
           go_meet
           case rel=>exact ⟨_,(decide ((x8_2.length : Int) > (x7_1.length : Int))),(by first|rfl|(simp;done)|(simp [*];done)),H',⟨by have:=HK1.out;have:=HK2.out;first|omega|exact Nat.le_refl _⟩,⟨Ru HO_7.out⟩,⟨Ru HO_8.out⟩,⟨Ru HO_10.out⟩,⟨Hu HB.out⟩⟩
          ·rw [if_neg c33] at H
           have c33b0 : ((IntKind.u64.wrap (Int.tdiv (IntKind.u64.wrap (rd x8_2 (ji26))) (IntKind.u64.wrap ((IntKind.u64.wrap (rd x7_1 (ji11)))+1)))) == 0)=false:=beq_eq_false_iff_ne.mpr c33
           have c33b1 : ((IntKind.u64.wrap (Int.tdiv (IntKind.u64.wrap (rd x8_2 (ji26))) (IntKind.u64.wrap ((IntKind.u64.wrap (rd x7_1 (ji11)))+1)))) != 0)=true:=bne_iff_ne.mpr c33
           (first|rw [c33b0]|(simp only [i64_w,i32_w];rw [c33b0])|skip)
           have H':=Aside0.mk H
           clear H
           go_wp2
           go_meet
           case rel=>exact ⟨_,(false),(by first|rfl|(simp;done)|(simp [*];done)),H',⟨by have:=HK1.out;have:=HK2.out;first|omega|exact Nat.le_refl _⟩,⟨Ru HO_7.out⟩,⟨Ru HO_8.out⟩,⟨Ru HO_10.out⟩,⟨Hu HB.out⟩⟩
         case rest =>
          clear HC30
          obtain ⟨kq,x70_29,rfl,HA,HJ29,HO_7,HO_8,HO_10,HB⟩:=hcut
          cases kq with
         |zero=>exact absurd HA.out (by simp [penumbraref01_DivMod.j2])
         |succ kj29 =>
           have H:=HA.out
           clear HA
           simp only [penumbraref01_DivMod.j2] at H
           have HC34:=Aside0.mk H
           clear H
           go_upto_if 70 with (fail)
           go_cut [14,15] (fun v14 v15 wc=>∃ (kq : Nat) (x14_33 : Int) (x15_33 : Int),v14=.int .i64 x14_33∧v15=.int .u64 x15_33∧Aside0 (penumbraref01_DivMod.j3 kq x7_1 x8_2 x9_1 x10_2 (x7_1.length : Int) (IntKind.u64.wrap ((IntKind.u64.wrap (rd x7_1 (ji11)))+1)) x14_33 x15_33=some (r1,r2,r3))∧Aside0 (kq≤kj29)∧Aside0 (Kd.R (Kd.int .u32) 35 wc w.heap.size (fun k_=>some k_≠((.slice (some ad530) x8_2.length co31) : Value).ownBlock∧some k_≠(u10 : Value).ownBlock) (.slice (some ad518) x7_1.length co21) x7_1)∧Aside0 (Kd.R (Kd.int .u32) 35 wc w.heap.size (fun k_=>some k_≠((.slice (some ad518) x7_1.length co21) : Value).ownBlock∧some k_≠(u10 : Value).ownBlock) (.slice (some ad530) x8_2.length co31) x8_2)∧Aside0 (Kd.R (Kd.int .u32) 35 wc w.heap.size (fun k_=>some k_≠((.slice (some ad518) x7_1.length co21) : Value).ownBlock∧some k_≠((.slice (some ad530) x8_2.length co31) : Value).ownBlock) u10 x10_2)∧Aside0 (Below w.heap.size w wc))
           case first =>
            have H:=HC34.out
            clear HC34
            by_cases c35 : x70_29=true
            ·subst c35
             rw [if_pos rfl] at H
             replace H : (if 0≤(ji26) then (if (ji26) < (x8_2.length : Int) then (if 0≤(wrap64 ((x8_2.length : Int) - 2)) then (if (wrap64 ((x8_2.length : Int) - 2)) < (x8_2.length : Int) then (if (IntKind.u64.wrap ((IntKind.u64.wrap (rd x7_1 (ji11)))+1))=0 then (none) else (penumbraref01_DivMod.j3 kj29 x7_1 x8_2 x9_1 x10_2 (x7_1.length : Int) (IntKind.u64.wrap ((IntKind.u64.wrap (rd x7_1 (ji11)))+1)) (wrap64 ((wrap64 ((x8_2.length : Int) - (x7_1.length : Int))) - 1)) (IntKind.u64.wrap (Int.tdiv (IntKind.u64.wrap ((IntKind.u64.wrap ((IntKind.u64.wrap (rd x8_2 (ji26))) * 4294967296))+(IntKind.u64.wrap (rd x8_2 (wrap64 ((x8_2.length : Int) - 2)))))) (IntKind.u64.wrap ((IntKind.u64.wrap (rd x7_1 (ji11)))+1)))))) else (none)) else (none)) else (none)) else (none))=some (r1,r2,r3):=by first|(rw [hji26] at H;exact H)|(simp only [hji26] at H ⊢;exact H)
             have hji26w : (IntKind.i64.wrap ((x8_2.length : Int) - 1))=ji26:=(i64_w _).trans hji26
             by_cases c36 : 0≤(ji26)
             case neg =>rw [if_neg c36] at H;exact absurd H (by simp)
             rw [if_pos c36] at H
             have c36b0 : decide (0≤(ji26))=true:=decide_eq_true c36
             clear c36
             (first|rw [c36b0]|(simp only [i64_w,i32_w];rw [c36b0])|skip)
             by_cases c37 : (ji26) < (x8_2.length : Int)
             case neg =>rw [if_neg c37] at H;exact absurd H (by simp)
             rw [if_pos c37] at H
             have c37b0 : decide ((ji26) < (x8_2.length : Int))=true:=decide_eq_true c37
             clear c37
             obtain ⟨ji38,hji38⟩ : ∃ j_ : Int,(wrap64 ((x8_2.length : Int) - 2))=j_:=⟨_,rfl⟩
             replace H : (if 0≤(ji38) then (if (ji38) < (x8_2.length : Int) then (if (IntKind.u64.wrap ((IntKind.u64.wrap (rd x7_1 (ji11)))+1))=0 then (none) else (penumbraref01_DivMod.j3 kj29 x7_1 x8_2 x9_1 x10_2 (x7_1.length : Int) (IntKind.u64.wrap ((IntKind.u64.wrap (rd x7_1 (ji11)))+1)) (wrap64 ((wrap64 ((x8_2.length : Int) - (x7_1.length : Int))) - 1)) (IntKind.u64.wrap (Int.tdiv (IntKind.u64.wrap ((IntKind.u64.wrap ((IntKind.u64.wrap (rd x8_2 (ji26))) * 4294967296))+(IntKind.u64.wrap (rd x8_2 (ji38))))) (IntKind.u64.wrap ((IntKind.u64.wrap (rd x7_1 (ji11)))+1)))))) else (none)) else (none))=some (r1,r2,r3):=by first|(rw [hji38] at H;exact H)|(simp only [hji38] at H ⊢;exact H)
             have hji38w : (IntKind.i64.wrap ((x8_2.length : Int) - 2))=ji38:=(i64_w _).trans hji38
             by_cases c39 : 0≤(ji38)
             case neg =>rw [if_neg c39] at H;exact absurd H (by simp)
             rw [if_pos c39] at H
             have c39b0 : decide (0≤(ji38))=true:=decide_eq_true c39
             clear c39
             by_cases c40 : (ji38) < (x8_2.length : Int)
             case neg =>rw [if_neg c40] at H;exact absurd H (by simp)
             rw [if_pos c40] at H
             have c40b0 : decide ((ji38) < (x8_2.length : Int))=true:=decide_eq_true c40
             clear c40
             by_cases c41 : (IntKind.u64.wrap ((IntKind.u64.wrap (rd x7_1 (ji11)))+1))=0
             ·rw [if_pos c41] at H
              exact absurd H (by simp)
             ·rw [if_neg c41] at H
              have c41b0 : ((IntKind.u64.wrap ((IntKind.u64.wrap (rd x7_1 (ji11)))+1)) == 0)=false:=beq_eq_false_iff_ne.mpr c41
              have c41b1 : ((IntKind.u64.wrap ((IntKind.u64.wrap (rd x7_1 (ji11)))+1)) != 0)=true:=bne_iff_ne.mpr c41
              have H':=Aside0.mk H
              clear H
              have p531 : 0≤((ji26) : Int):=of_decide_eq_true (by assumption)
              have q531 : (ji26) < (x8_2.length : Int):=of_decide_eq_true (by assumption)
              obtain ⟨ad531,e531,hx531_0⟩:=Kd.at_int (Kd.R_reads' HO_8.out).2.2 (ji26) p531 q531
              obtain rfl : ad530=ad531:=(by injection e531)
              replace p531:=eq_true p531
              replace q531:=eq_true q531
              have p532 : 0≤((ji38) : Int):=of_decide_eq_true (by assumption)
              have q532 : (ji38) < (x8_2.length : Int):=of_decide_eq_true (by assumption)
              obtain ⟨ad532,e532,hx532_0⟩:=Kd.at_int (Kd.R_reads' HO_8.out).2.2 (ji38) p532 q532
              obtain rfl : ad530=ad532:=(by injection e532)
              replace p532:=eq_true p532
              replace q532:=eq_true q532
              go_wp2
              repeat (go_quiet (fail);try go_wp2)
              go_meet
              case rel=>exact ⟨_,(wrap64 ((wrap64 ((x8_2.length : Int) - (x7_1.length : Int))) - 1)),(IntKind.u64.wrap (Int.tdiv (IntKind.u64.wrap ((IntKind.u64.wrap ((IntKind.u64.wrap (rd x8_2 (ji26))) * 4294967296))+(IntKind.u64.wrap (rd x8_2 (ji38))))) (IntKind.u64.wrap ((IntKind.u64.wrap (rd x7_1 (ji11)))+1)))),(by first|rfl|(simp;done)|(simp [*];done)),(by first|rfl|(simp;done)|(simp only [← hji11,← hji26,← hji26,← hji38] <;> (first|rfl|simp))|(simp [*];done)),H',⟨by have:=HK1.out;have:=HK2.out;have:=HJ29.out;first|omega|exact Nat.le_refl _⟩,⟨Ru HO_7.out⟩,⟨Ru HO_8.out⟩,⟨Ru HO_10.out⟩,⟨Hu HB.out⟩⟩
            ·replace c35:=Bool.eq_false_iff.mpr c35
             subst c35
             rw [if_neg (show ¬ (false=true) by decide)] at H
             have H':=Aside0.mk H
             clear H
             go_wp2
             go_meet
             case rel=>exact ⟨_,((wrap64 ((x8_2.length : Int) - (x7_1.length : Int)))),((IntKind.u64.wrap (Int.tdiv (IntKind.u64.wrap (rd x8_2 (ji26))) (IntKind.u64.wrap ((IntKind.u64.wrap (rd x7_1 (ji11)))+1))))),(by first|rfl|(simp;done)|(simp [*];done)),(by first|rfl|(simp;done)|(simp only [← hji11,← hji26] <;> (first|rfl|simp))|(simp [*];done)),H',⟨by have:=HK1.out;have:=HK2.out;have:=HJ29.out;first|omega|exact Nat.le_refl _⟩,⟨Ru HO_7.out⟩,⟨Ru HO_8.out⟩,⟨Ru HO_10.out⟩,⟨Hu HB.out⟩⟩
           case rest =>
            clear HC34
            obtain ⟨kq,x14_33,x15_33,rfl,rfl,HA,HJ33,HO_7,HO_8,HO_10,HB⟩:=hcut
            cases kq with
           |zero=>exact absurd HA.out (by simp [penumbraref01_DivMod.j3])
           |succ kj33 =>
             have H:=HA.out
             clear HA
             simp only [penumbraref01_DivMod.j3] at H
             have HC42:=Aside0.mk H
             clear H
             go_upto_if 90 with (fail)
             go_cut [15] (fun v15 wc=>∃ (kq : Nat) (x15_41 : Int),v15=.int .u64 x15_41∧Aside0 (penumbraref01_DivMod.j4 kq x7_1 x8_2 x9_1 x10_2 (x7_1.length : Int) (IntKind.u64.wrap ((IntKind.u64.wrap (rd x7_1 (ji11)))+1)) x14_33 x15_41=some (r1,r2,r3))∧Aside0 (kq≤kj33)∧Aside0 (Kd.R (Kd.int .u32) 35 wc w.heap.size (fun k_=>some k_≠((.slice (some ad530) x8_2.length co31) : Value).ownBlock∧some k_≠(u10 : Value).ownBlock) (.slice (some ad518) x7_1.length co21) x7_1)∧Aside0 (Kd.R (Kd.int .u32) 35 wc w.heap.size (fun k_=>some k_≠((.slice (some ad518) x7_1.length co21) : Value).ownBlock∧some k_≠(u10 : Value).ownBlock) (.slice (some ad530) x8_2.length co31) x8_2)∧Aside0 (Kd.R (Kd.int .u32) 35 wc w.heap.size (fun k_=>some k_≠((.slice (some ad518) x7_1.length co21) : Value).ownBlock∧some k_≠((.slice (some ad530) x8_2.length co31) : Value).ownBlock) u10 x10_2)∧Aside0 (Below w.heap.size w wc))
             case first =>
              have H:=HC42.out
              clear HC42
              by_cases c43 : x15_33=0
              ·rw [if_pos c43] at H
               have c43b0 : (x15_33 == 0)=true:=beq_iff_eq.mpr c43
               have c43b1 : (x15_33 != 0)=false:=bne_eq_false_iff_eq.mpr c43
               clear c43
               (first|rw [c43b0]|(simp only [i64_w,i32_w];rw [c43b0])|skip)
               have H':=Aside0.mk H
               clear H
               go_wp2
               go_meet
               case rel=>exact ⟨_,(1),(by first|rfl|(simp;done)|(simp [*];done)),H',⟨by have:=HK1.out;have:=HK2.out;have:=HJ29.out;have:=HJ33.out;first|omega|exact Nat.le_refl _⟩,⟨Ru HO_7.out⟩,⟨Ru HO_8.out⟩,⟨Ru HO_10.out⟩,⟨Hu HB.out⟩⟩
              ·rw [if_neg c43] at H
               have c43b0 : (x15_33 == 0)=false:=beq_eq_false_iff_ne.mpr c43
               have c43b1 : (x15_33 != 0)=true:=bne_iff_ne.mpr c43
               (first|rw [c43b0]|(simp only [i64_w,i32_w];rw [c43b0])|skip)
               have H':=Aside0.mk H
               clear H
               go_wp2
               go_meet
               case rel=>exact ⟨_,(x15_33),(by first|rfl|(simp;done)|(simp [*];done)),H',⟨by have:=HK1.out;have:=HK2.out;have:=HJ29.out;have:=HJ33.out;first|omega|exact Nat.le_refl _⟩,⟨Ru HO_7.out⟩,⟨Ru HO_8.out⟩,⟨Ru HO_10.out⟩,⟨Hu HB.out⟩⟩
             case rest =>
              clear HC42
              obtain ⟨kq,x15_41,rfl,HA,HJ41,HO_7,HO_8,HO_10,HB⟩:=hcut
              cases kq with
             |zero=>exact absurd HA.out (by simp [penumbraref01_DivMod.j4])
             |succ kj41 =>
               have H:=HA.out
               clear HA
               simp only [penumbraref01_DivMod.j4] at H
               replace H:=Option.bind_eq_some_iff.mp H
               obtain ⟨t533,A440,H⟩:=H
               try dsimp only at H
               have A44:=Aside0.mk A440
               clear A440
               replace H:=Option.bind_eq_some_iff.mp H
               obtain ⟨t536,A450,H⟩:=H
               try dsimp only at H
               have A45:=Aside0.mk A450
               clear A450
               replace H:=Option.bind_eq_some_iff.mp H
               obtain ⟨t539,A460,H⟩:=H
               try dsimp only at H
               have A46:=Aside0.mk A460
               clear A460
               replace H:=Option.bind_eq_some_iff.mp H
               obtain ⟨⟨t542,t543⟩,A470,H⟩:=H
               try dsimp only at H
               have A47:=Aside0.mk A470
               clear A470
               have H':=Aside0.mk H
               clear H
               go_wp2_with (first|(go_at_call 71;(with_reducible refine (penumbraref01_at.calls x15_41 x14_33 t533 _ A44.out).mono ?_);rintro e w48 ⟨v534,rfl,ho0,hb⟩;have n0_:=Aside0.mk (Kd.R_elder' (Ru HO_7.out) (Kd.R_base ho0) hb);have n1_:=Aside0.mk (Kd.R_elder' (Ru HO_8.out) (Kd.R_base ho0) hb);have n2_:=Aside0.mk (Kd.R_elder' (Ru HO_10.out) (Kd.R_base ho0) hb);have n3_:=Aside0.mk (Kd.R_lower (Kd.R_new' (Kd.R_new' (Kd.R_new' ho0 (Kd.R_lt (Ru HO_7.out))) (Kd.R_lt (Ru HO_8.out))) (Kd.R_lt (Ru HO_10.out))) (below_size (Hu HB.out)));have n4_:=Aside0.mk (below_step (Hu HB.out) hb);clear HO_7;clear HO_8;clear HO_10;clear HB;have HO_7:=n0_;have HO_8:=n1_;have HO_10:=n2_;have HO535:=n3_;have HB:=n4_;clear n0_ n1_ n2_ n3_ n4_;obtain ⟨Ao49,co49,eo49⟩:=Kd.R_slice HO_10.out;subst eo49;obtain ⟨Ao50,co50,eo50⟩:=Kd.R_slice HO535.out;subst eo50)|(go_at_call 57;(with_reducible refine (penumbraref01_Add.calls kj41 _ _ x10_2 _ _ t533 t536 _ ?side1 ?side2 ?side3 ?side4 A45.out).mono ?_);(case side1=>exact Cu (Kd.R_reads' HO_10.out).2.2);(case side2=>exact (Kd.R_reads' HO_10.out).2.1);(case side3=>exact Cu (Kd.R_reads' HO535.out).2.2);(case side4=>exact (Kd.R_reads' HO535.out).2.1);rintro e w51 ⟨v537,rfl,ho0,hb⟩;have n0_:=Aside0.mk (Kd.R_elder' (Ru HO_7.out) (Kd.R_base ho0) hb);have n1_:=Aside0.mk (Kd.R_elder' (Ru HO_8.out) (Kd.R_base ho0) hb);have n2_:=Aside0.mk (Kd.R_elder' (Ru HO_10.out) (Kd.R_base ho0) hb);have n3_:=Aside0.mk (Kd.R_elder' (Ru HO535.out) (Kd.R_base ho0) hb);have n4_:=Aside0.mk (Kd.R_lower (Kd.R_new' (Kd.R_new' (Kd.R_new' (Kd.R_new' ho0 (Kd.R_lt (Ru HO_7.out))) (Kd.R_lt (Ru HO_8.out))) (Kd.R_lt (Ru HO_10.out))) (Kd.R_lt (Ru HO535.out))) (below_size (Hu HB.out)));have n5_:=Aside0.mk (below_step (Hu HB.out) hb);clear HO_7;clear HO_8;clear HO_10;clear HO535;clear HB;have HO_7:=n0_;have HO_8:=n1_;have HO_10:=n2_;have HO535:=n3_;have HO538:=n4_;have HB:=n5_;clear n0_ n1_ n2_ n3_ n4_ n5_)|(go_at_call 32;(with_reducible refine (penumbraref01_Mul.calls kj41 _ _ t533 _ _ x7_1 t539 _ ?side1 ?side2 ?side3 ?side4 A46.out).mono ?_);(case side1=>exact Cu (Kd.R_reads' HO535.out).2.2);(case side2=>exact (Kd.R_reads' HO535.out).2.1);(case side3=>exact Cu (Kd.R_reads' HO_7.out).2.2);(case side4=>exact (Kd.R_reads' HO_7.out).2.1);rintro e w52 ⟨v540,rfl,ho0,hb⟩;have n0_:=Aside0.mk (Kd.R_elder' (Ru HO_7.out) (Kd.R_base ho0) hb);have n1_:=Aside0.mk (Kd.R_elder' (Ru HO_8.out) (Kd.R_base ho0) hb);have n2_:=Aside0.mk (Kd.R_elder' (Ru HO_10.out) (Kd.R_base ho0) hb);have n3_:=Aside0.mk (Kd.R_elder' (Ru HO535.out) (Kd.R_base ho0) hb);have n4_:=Aside0.mk (Kd.R_elder' (Ru HO538.out) (Kd.R_base ho0) hb);have n5_:=Aside0.mk (Kd.R_lower (Kd.R_new' (Kd.R_new' (Kd.R_new' (Kd.R_new' (Kd.R_new' ho0 (Kd.R_lt (Ru HO_7.out))) (Kd.R_lt (Ru HO_8.out))) (Kd.R_lt (Ru HO_10.out))) (Kd.R_lt (Ru HO535.out))) (Kd.R_lt (Ru HO538.out))) (below_size (Hu HB.out)));have n6_:=Aside0.mk (below_step (Hu HB.out) hb);clear HO_7;clear HO_8;clear HO_10;clear HO535;clear HO538;clear HB;have HO_7:=n0_;have HO_8:=n1_;have HO_10:=n2_;have HO535:=n3_;have HO538:=n4_;have HO541:=n5_;have HB:=n6_;clear n0_ n1_ n2_ n3_ n4_ n5_ n6_;obtain ⟨Ao53,co53,eo53⟩:=Kd.R_slice HO541.out;subst eo53)|(go_at_call 72;(with_reducible refine (penumbraref01_Sub.calls kj41 _ _ x8_2 _ _ t539 t542 t543 _ ?side1 ?side2 ?side3 ?side4 A47.out).mono ?_);(case side1=>exact Cu (Kd.R_reads' HO_8.out).2.2);(case side2=>exact (Kd.R_reads' HO_8.out).2.1);(case side3=>exact Cu (Kd.R_reads' HO541.out).2.2);(case side4=>exact (Kd.R_reads' HO541.out).2.1);rintro e w54 ⟨v544,rfl,ho0,hb⟩;have n0_:=Aside0.mk (Kd.R_elder' (Ru HO_7.out) (Kd.R_base ho0) hb);have n1_:=Aside0.mk (Kd.R_elder' (Ru HO_8.out) (Kd.R_base ho0) hb);have n2_:=Aside0.mk (Kd.R_elder' (Ru HO_10.out) (Kd.R_base ho0) hb);have n3_:=Aside0.mk (Kd.R_elder' (Ru HO535.out) (Kd.R_base ho0) hb);have n4_:=Aside0.mk (Kd.R_elder' (Ru HO538.out) (Kd.R_base ho0) hb);have n5_:=Aside0.mk (Kd.R_elder' (Ru HO541.out) (Kd.R_base ho0) hb);have n6_:=Aside0.mk (Kd.R_lower (Kd.R_new' (Kd.R_new' (Kd.R_new' (Kd.R_new' (Kd.R_new' (Kd.R_new' ho0 (Kd.R_lt (Ru HO_7.out))) (Kd.R_lt (Ru HO_8.out))) (Kd.R_lt (Ru HO_10.out))) (Kd.R_lt (Ru HO535.out))) (Kd.R_lt (Ru HO538.out))) (Kd.R_lt (Ru HO541.out))) (below_size (Hu HB.out)));have n7_:=Aside0.mk (below_step (Hu HB.out) hb);clear HO_7;clear HO_8;clear HO_10;clear HO535;clear HO538;clear HO541;clear HB;have HO_7:=n0_;have HO_8:=n1_;have HO_10:=n2_;have HO535:=n3_;have HO538:=n4_;have HO541:=n5_;have HO545:=n6_;have HB:=n7_;clear n0_ n1_ n2_ n3_ n4_ n5_ n6_ n7_))
               go_roundg kj41
               case measure=>have:=HK1.out;have:=HK2.out;have:=HJ29.out;have:=HJ33.out;have:=HJ41.out;omega
               case rel=>exact ⟨(t542),(t536),H',⟨by have:=HK1.out;have:=HK2.out;have:=HJ29.out;have:=HJ33.out;have:=HJ41.out;omega⟩,⟨by (with_reducible repeat (first|apply Ra|apply Rn|apply Rd));exact Kd.R_mono HO_7.out (fun _ hk=>⟨hk.2,hk.1.1.2⟩)⟩,⟨by (with_reducible repeat (first|apply Ra|apply Rn|apply Rd));exact Kd.R_mono HO545.out (fun _ hk=>⟨hk.1.1.1.1.1.2,hk.1.2⟩)⟩,⟨by (with_reducible repeat (first|apply Ra|apply Rn|apply Rd));exact Kd.R_mono HO538.out (fun _ hk=>⟨hk.1.1.1.1.1.2,hk.2⟩)⟩,⟨Hu HB.out⟩⟩
       ·rw [if_neg c25] at H
        have c25b0 : decide (0≤t529)=false:=decide_eq_false c25
        clear c25
        have H':=Aside0.mk H
        clear H
        obtain ⟨Ao55,co55,eo55⟩:=Kd.R_slice HO_8.out
        subst eo55
        go_wp2_with (first|(go_at_call 59;(with_reducible refine (penumbraref01_Cmp.calls k2 _ _ x8_2 _ _ x7_1 t529 _ ?side1 ?side2 ?side3 ?side4 A24.out).mono ?_);(case side1=>exact Cu (Kd.R_reads' HO_8.out).2.2);(case side2=>exact (Kd.R_reads' HO_8.out).2.1);(case side3=>exact Cu (Kd.R_reads' HO_7.out).2.2);(case side4=>exact (Kd.R_reads' HO_7.out).2.1);rintro e w56 ⟨rfl,hb⟩;have n0_:=Aside0.mk (Kd.R_below (Ru HO_7.out) hb);have n1_:=Aside0.mk (Kd.R_below (Ru HO_8.out) hb);have n2_:=Aside0.mk (Kd.R_below (Ru HO_10.out) hb);have n3_:=Aside0.mk (below_step (Hu HB.out) hb);clear HO_7;clear HO_8;clear HO_10;clear HB;have HO_7:=n0_;have HO_8:=n1_;have HO_10:=n2_;have HB:=n3_;clear n0_ n1_ n2_ n3_))
        go_loopg [8,17] k2 (fun kq v8 v17 w'=>∃ (x8_3 : List Int) (x17_3 : Int),v17=.int .i64 x17_3∧Aside0 (penumbraref01_DivMod.l2 kq x8_3 x9_1 x10_2 x17_3=some (r1,r2,r3))∧Aside0 (kq≤k2)∧Aside0 (Kd.R (Kd.int .u32) 35 w' w.heap.size (fun k_=>some k_≠(u10 : Value).ownBlock) v8 x8_3)∧Aside0 (Kd.R (Kd.int .u32) 35 w' w.heap.size (fun k_=>some k_≠(v8 : Value).ownBlock) u10 x10_2)∧Aside0 (Below w.heap.size w w'))
        case atStart=>exact ⟨(x8_2),(0),(by first|rfl|(simp;done)|(simp [*];done)),H',⟨Nat.le_refl _⟩,⟨by (with_reducible repeat (first|apply Ra|apply Rn|apply Rd));exact Kd.R_mono HO_8.out (fun _ hk=>hk.2)⟩,⟨by (with_reducible repeat (first|apply Ra|apply Rn|apply Rd));exact Kd.R_mono HO_10.out (fun _ hk=>hk.2)⟩,⟨Hu HB.out⟩⟩
        case round =>
         clear H'
         obtain ⟨x8_3,x17_3,rfl,HA,HK3,HO_8,HO_10,HB⟩:=hrel
         cases gk with
        |zero=>exact absurd HA.out (by simp [penumbraref01_DivMod.l2])
        |succ k3 =>
          have H:=HA.out
          clear HA
          simp only [penumbraref01_DivMod.l2] at H
          by_cases c57 : x17_3 < x9_1
          ·rw [if_pos c57] at H
           have c57b0 : decide (x17_3 < x9_1)=true:=decide_eq_true c57
           clear c57
           replace H:=Option.bind_eq_some_iff.mp H
           obtain ⟨t546,A580,H⟩:=H
           try dsimp only at H
           have A58:=Aside0.mk A580
           clear A580
           have H':=Aside0.mk H
           clear H
           obtain ⟨Ao59,co59,eo59⟩:=Kd.R_slice HO_8.out
           subst eo59
           go_wp2_with (first|(go_at_call 73;(with_reducible refine (penumbraref01_Half.calls k3 _ _ x8_3 t546 _ ?side1 ?side2 A58.out).mono ?_);(case side1=>exact Cu (Kd.R_reads' HO_8.out).2.2);(case side2=>exact (Kd.R_reads' HO_8.out).2.1);rintro e w60 ⟨v547,rfl,ho0,hb⟩;have n0_:=Aside0.mk (Kd.R_elder' (Ru HO_8.out) (Kd.R_base ho0) hb);have n1_:=Aside0.mk (Kd.R_elder' (Ru HO_10.out) (Kd.R_base ho0) hb);have n2_:=Aside0.mk (Kd.R_lower (Kd.R_new' (Kd.R_new' ho0 (Kd.R_lt (Ru HO_8.out))) (Kd.R_lt (Ru HO_10.out))) (below_size (Hu HB.out)));have n3_:=Aside0.mk (below_step (Hu HB.out) hb);clear HO_8;clear HO_10;clear HB;have HO_8:=n0_;have HO_10:=n1_;have HO548:=n2_;have HB:=n3_;clear n0_ n1_ n2_ n3_))
           go_roundg k3
           case measure=>have:=HK1.out;have:=HK2.out;have:=HK3.out;omega
           case rel=>exact ⟨(t546),(wrap64 (x17_3+1)),(by first|rfl|(simp;done)|(simp [*];done)),H',⟨by have:=HK1.out;have:=HK2.out;have:=HK3.out;omega⟩,⟨by (with_reducible repeat (first|apply Ra|apply Rn|apply Rd));exact Kd.R_mono HO548.out (fun _ hk=>hk.2)⟩,⟨by (with_reducible repeat (first|apply Ra|apply Rn|apply Rd));exact Kd.R_mono HO_10.out (fun _ hk=>hk.2)⟩,⟨Hu HB.out⟩⟩
          ·rw [if_neg c57] at H
           have c57b0 : decide (x17_3 < x9_1)=false:=decide_eq_false c57
           clear c57
           simp only [Option.some.injEq,Prod.mk.injEq] at H
           obtain ⟨rfl,rfl,rfl⟩:=H
           go_wp2
           go_ret3
           exact ⟨_,_,by first|rfl|(simp [errW_none,errW_some] <;> rfl)|(simp only [← hji11];first|rfl|(simp [errW_none,errW_some] <;> rfl))|(simp [*,errW_none,errW_some] <;> rfl),by (with_reducible repeat (first|apply Ra|apply Rn|apply Rd));exact HO_10.out,by (with_reducible repeat (first|apply Ra|apply Rn|apply Rd));exact HO_8.out,Hu HB.out⟩
end Go.Proofs.YtncdiodnbkhacaaDoor.Pq
end
end
section
section
namespace Go.Proofs.YtncdiodnbkhacaaDoor.Pq
open Go.RowKit Go.Proofs.YtncdiodnbkhacaaDoorW.PrintWords Go.Proofs.YtncdiodnbkhacaaDoorW.PrintLast Go.Proofs.YtncdiodnbkhacaaDoorW.PrintMore
attribute [local go_sem] max2_int min2_int max_two min_two max_three min_three max_four min_four
set_option linter.unusedVariables false
set_option linter.unusedSimpArgs false
set_option maxHeartbeats 8000000
set_option maxRecDepth 100000
theorem penumbraref02_Gcd.mono_l : ∀ k,(∀ y0 y1,LeO (penumbraref02_Gcd.l0 k y0 y1) (penumbraref02_Gcd.l0 (k+1) y0 y1))
|0=>fun _ _ r h=>by simp [penumbraref02_Gcd.l0] at h
|k+1=>by
  have ih0:=penumbraref02_Gcd.mono_l k
  ·intro y0 y1
   unfold penumbraref02_Gcd.l0
   with_reducible repeat' first
  |exact ih0 _ _
  |exact penumbraref01_DivMod.mono _ _ _
  |exact penumbraref01_Norm.mono _ _
  |exact penumbraref01_Zero.mono _ _
  |exact LeO.refl _
  |exact LeO.none _
  |refine LeO.ite ?_ ?_
  |refine LeO.bind ?_ (fun _=>?_)
theorem penumbraref02_Gcd.mono : ∀ a0 a1 k,LeO (penumbraref02_Gcd.f k a0 a1) (penumbraref02_Gcd.f (k+1) a0 a1):=by
 intro a0 a1 k
 have ih0:=penumbraref02_Gcd.mono_l k
 unfold penumbraref02_Gcd.f
 with_reducible repeat' first
  |exact ih0 _ _
  |exact penumbraref01_DivMod.mono _ _ _
  |exact penumbraref01_Norm.mono _ _
  |exact penumbraref01_Zero.mono _ _
  |exact LeO.refl _
  |exact LeO.none _
  |refine LeO.ite ?_ ?_
  |refine LeO.bind ?_ (fun _=>?_)
theorem penumbraref02_Gcd.calls (k : Nat) (P0_ : Nat→Prop) (A0 : Option Addr) (c0 : Nat) (l0 : List Int) (P1_ : Nat→Prop) (A1 : Option Addr) (c1 : Nat) (l1 : List Int) (r : List Int) (w : World) (hs0 : Kd.V (Kd.int .u32) 35 w w.heap.size (fun k_=>P0_ k_) (.slice A0 l0.length c0) l0) (hs1 : Kd.V (Kd.int .u32) 35 w w.heap.size (fun k_=>P1_ k_) (.slice A1 l1.length c1) l1) (h : penumbraref02_Gcd.f k l0 l1=some r) :
  Calls Tryd.prog 60 #[.slice A0 l0.length c0,.slice A1 l1.length c1] w fun e w'=>∃ v0_ : Value,e=.returned (v0_)∧Kd.R (Kd.int .u32) 35 w' w.heap.size (fun k_=>(w.heap.size≤k_)) v0_ r∧Below w.heap.size w w':=by
 have HO0:=Aside0.mk (show Kd.V (Kd.int .u32) 35 w w.heap.size (fun k_=>((P0_ k_∨P1_ k_)∨w.heap.size≤k_)) (.slice A0 l0.length c0) l0 from Kd.V_mono hs0 (fun k_ hk=>.inl (.inl hk)))
 have HO1:=Aside0.mk (show Kd.V (Kd.int .u32) 35 w w.heap.size (fun k_=>((P0_ k_∨P1_ k_)∨w.heap.size≤k_)) (.slice A1 l1.length c1) l1 from Kd.V_mono hs1 (fun k_ hk=>.inl (.inr hk)))
 have HB:=Aside0.mk (Below.refl w.heap.size w)
 have H : (penumbraref02_Gcd.l0 k l0 l1)=some r:=h
 clear h
 have H':=Aside0.mk H
 clear H
 go_enter Tryd.func60,Tryd.ntmps60
 go_wp2
 go_loopg [0,1] k (fun kq v0 v1 w'=>∃ (x0_1 : List Int) (x1_1 : List Int),Aside0 (penumbraref02_Gcd.l0 kq x0_1 x1_1=some r)∧Aside0 (kq≤k)∧Aside0 (Kd.V (Kd.int .u32) 35 w' w.heap.size (fun k_=>((P0_ k_∨P1_ k_)∨w.heap.size≤k_)) v0 x0_1)∧Aside0 (Kd.V (Kd.int .u32) 35 w' w.heap.size (fun k_=>((P0_ k_∨P1_ k_)∨w.heap.size≤k_)) v1 x1_1)∧Aside0 (Below w.heap.size w w'))
 case atStart=>exact ⟨(l0),(l1),H',⟨Nat.le_refl _⟩,⟨by (with_reducible repeat (first|apply Kd.V_alloc|apply Kd.V_drewN|apply Kd.V_drew));exact HO0.out⟩,⟨by (with_reducible repeat (first|apply Kd.V_alloc|apply Kd.V_drewN|apply Kd.V_drew));exact HO1.out⟩,⟨Hu HB.out⟩⟩
 case round =>
  clear H'
  obtain ⟨x0_1,x1_1,HA,HK1,HO_0,HO_1,HB⟩:=hrel
  cases gk with
 |zero=>exact absurd HA.out (by simp [penumbraref02_Gcd.l0])
 |succ k1 =>
   have H:=HA.out
   clear HA
   simp only [penumbraref02_Gcd.l0] at H
   replace H:=Option.bind_eq_some_iff.mp H
   obtain ⟨t549,A30,H⟩:=H
   try dsimp only at H
   have A3:=Aside0.mk A30
   clear A30
   by_cases c4 : t549=true
   ·subst c4
    rw [if_pos rfl] at H
    replace H:=Option.bind_eq_some_iff.mp H
    obtain ⟨t550,A50,H⟩:=H
    try dsimp only at H
    have A5:=Aside0.mk A50
    clear A50
    obtain rfl:=Option.some.inj H
    obtain ⟨Ao6,co6,eo6⟩:=Kd.V_slice HO_1.out
    subst eo6
    go_wp2_with (first|((with_reducible refine gate_callee (f:=33) rfl ?_);refine goesL_ (some 9) rfl rfl Tryd.func33 (by kernel_rfl) rfl #[.slice Ao6 x1_1.length co6] rfl (by (try simp only [List.map_toArray,List.map_cons,List.map_nil]);first|done|rfl) ?_;(with_reducible refine (penumbraref01_Zero.calls k1 _ _ x1_1 true _ ?side1 ?side2 A3.out).mono ?_);(case side1=>repeat (first|exact (Kd.V_reads' HO_1.out).2.2|(with_reducible refine Kd.C_alloc ?_ _)|(with_reducible refine Kd.C_drewN ?_ _)|(with_reducible refine Kd.C_drew ?_)));(case side2=>exact (Kd.V_reads' HO_1.out).2.1);rintro e w7 ⟨rfl,hb⟩;refine ⟨_,rfl,?_⟩;have n0_:=Aside0.mk (Kd.V_below (by (with_reducible repeat (first|apply Kd.V_alloc|apply Kd.V_drewN|apply Kd.V_drew));exact HO_0.out) hb);have n1_:=Aside0.mk (Kd.V_below (by (with_reducible repeat (first|apply Kd.V_alloc|apply Kd.V_drewN|apply Kd.V_drew));exact HO_1.out) hb);have n2_:=Aside0.mk (below_step (Hu HB.out) hb);clear HO_0;clear HO_1;clear HB;have HO_0:=n0_;have HO_1:=n1_;have HB:=n2_;clear n0_ n1_ n2_;obtain ⟨Ao8,co8,eo8⟩:=Kd.V_slice HO_0.out;subst eo8)|((with_reducible refine gate_callee (f:=58) rfl ?_);refine goesL_ (some 21) rfl rfl Tryd.func58 (by kernel_rfl) rfl #[.slice Ao8 x0_1.length co8] rfl (by (try simp only [List.map_toArray,List.map_cons,List.map_nil]);first|done|rfl) ?_;(with_reducible refine (penumbraref01_Norm.calls k1 _ _ x0_1 t550 _ ?side1 ?side2 A5.out).mono ?_);(case side1=>repeat (first|exact (Kd.V_reads' HO_0.out).2.2|(with_reducible refine Kd.C_alloc ?_ _)|(with_reducible refine Kd.C_drewN ?_ _)|(with_reducible refine Kd.C_drew ?_)));(case side2=>exact (Kd.V_reads' HO_0.out).2.1);rintro e w9 ⟨v551,rfl,ho0,hb⟩;refine ⟨_,rfl,?_⟩;have n0_:=Aside0.mk (Kd.V_elder' (by (with_reducible repeat (first|apply Kd.V_alloc|apply Kd.V_drewN|apply Kd.V_drew));exact HO_0.out) (Kd.R_base ho0) hb);have n1_:=Aside0.mk (Kd.V_elder' (by (with_reducible repeat (first|apply Kd.V_alloc|apply Kd.V_drewN|apply Kd.V_drew));exact HO_1.out) (Kd.R_base ho0) hb);have n2_:=Aside0.mk (Kd.R_lower (Kd.R_newM (M:=fun k_=>(w.heap.size≤k_)) ho0 (below_size (Hu HB.out)) (fun k_ h_=>h_)) (below_size (Hu HB.out)));have n3_:=Aside0.mk (below_step (Hu HB.out) hb);clear HO_0;clear HO_1;clear HB;have HO_0:=n0_;have HO_1:=n1_;have HO552:=n2_;have HB:=n3_;clear n0_ n1_ n2_ n3_))
    go_ret
    exact ⟨_,by first|rfl|(simp [errW_none,errW_some] <;> rfl)|(simp [*,errW_none,errW_some] <;> rfl),by (with_reducible repeat (first|apply Ra|apply Rn|apply Rd));exact Kd.R_mono HO552.out (fun _ hk=>hk.1),Hu HB.out⟩
   ·replace c4:=Bool.eq_false_iff.mpr c4
    subst c4
    rw [if_neg (show ¬ (false=true) by decide)] at H
    replace H:=Option.bind_eq_some_iff.mp H
    obtain ⟨⟨t553,t554,t555⟩,A100,H⟩:=H
    try dsimp only at H
    have A10:=Aside0.mk A100
    clear A100
    have H':=Aside0.mk H
    clear H
    obtain ⟨Ao11,co11,eo11⟩:=Kd.V_slice HO_1.out
    subst eo11
    go_wp2_with (first|((with_reducible refine gate_callee (f:=33) rfl ?_);refine goesL_ (some 9) rfl rfl Tryd.func33 (by kernel_rfl) rfl #[.slice Ao11 x1_1.length co11] rfl (by (try simp only [List.map_toArray,List.map_cons,List.map_nil]);first|done|rfl) ?_;(with_reducible refine (penumbraref01_Zero.calls k1 _ _ x1_1 false _ ?side1 ?side2 A3.out).mono ?_);(case side1=>repeat (first|exact (Kd.V_reads' HO_1.out).2.2|(with_reducible refine Kd.C_alloc ?_ _)|(with_reducible refine Kd.C_drewN ?_ _)|(with_reducible refine Kd.C_drew ?_)));(case side2=>exact (Kd.V_reads' HO_1.out).2.1);rintro e w12 ⟨rfl,hb⟩;refine ⟨_,rfl,?_⟩;have n0_:=Aside0.mk (Kd.V_below (by (with_reducible repeat (first|apply Kd.V_alloc|apply Kd.V_drewN|apply Kd.V_drew));exact HO_0.out) hb);have n1_:=Aside0.mk (Kd.V_below (by (with_reducible repeat (first|apply Kd.V_alloc|apply Kd.V_drewN|apply Kd.V_drew));exact HO_1.out) hb);have n2_:=Aside0.mk (below_step (Hu HB.out) hb);clear HO_0;clear HO_1;clear HB;have HO_0:=n0_;have HO_1:=n1_;have HB:=n2_;clear n0_ n1_ n2_;obtain ⟨Ao13,co13,eo13⟩:=Kd.V_slice HO_0.out;subst eo13)|((with_reducible refine gate_callee (f:=42) rfl ?_);refine goesL_ (some 14) rfl rfl Tryd.func42 (by kernel_rfl) rfl #[.slice Ao13 x0_1.length co13,.slice Ao11 x1_1.length co11] rfl (by (try simp only [List.map_toArray,List.map_cons,List.map_nil]);first|done|rfl) ?_;(with_reducible refine (penumbraref01_DivMod.calls k1 _ _ x0_1 _ _ x1_1 t553 t554 t555 _ ?side1 ?side2 ?side3 ?side4 A10.out).mono ?_);(case side1=>repeat (first|exact (Kd.V_reads' HO_0.out).2.2|(with_reducible refine Kd.C_alloc ?_ _)|(with_reducible refine Kd.C_drewN ?_ _)|(with_reducible refine Kd.C_drew ?_)));(case side2=>exact (Kd.V_reads' HO_0.out).2.1);(case side3=>repeat (first|exact (Kd.V_reads' HO_1.out).2.2|(with_reducible refine Kd.C_alloc ?_ _)|(with_reducible refine Kd.C_drewN ?_ _)|(with_reducible refine Kd.C_drew ?_)));(case side4=>exact (Kd.V_reads' HO_1.out).2.1);rintro e w14 ⟨v556,v558,rfl,ho0,ho1,hb⟩;refine ⟨_,rfl,?_⟩;have n0_:=Aside0.mk (Kd.V_mono (Kd.V_told (Kd.V_told (Kd.V_old (by (with_reducible repeat (first|apply Kd.V_alloc|apply Kd.V_drewN|apply Kd.V_drew));exact HO_0.out) hb) (Kd.R_base ho0)) (Kd.R_base ho1)) (fun _ h_=>h_.1));have n1_:=Aside0.mk (Kd.V_mono (Kd.V_told (Kd.V_told (Kd.V_old (by (with_reducible repeat (first|apply Kd.V_alloc|apply Kd.V_drewN|apply Kd.V_drew));exact HO_1.out) hb) (Kd.R_base ho0)) (Kd.R_base ho1)) (fun _ h_=>h_.1));have n2_:=Aside0.mk (Kd.R_lower (Kd.R_newM (M:=fun k_=>(w.heap.size≤k_)) ho0 (below_size (Hu HB.out)) (fun k_ h_=>h_)) (below_size (Hu HB.out)));have n3_:=Aside0.mk (Kd.R_lower (Kd.R_newM (M:=fun k_=>(w.heap.size≤k_)) ho1 (below_size (Hu HB.out)) (fun k_ h_=>h_)) (below_size (Hu HB.out)));have n4_:=Aside0.mk (below_step (Hu HB.out) hb);clear HO_0;clear HO_1;clear HB;have HO_0:=n0_;have HO_1:=n1_;have HO557:=n2_;have HO559:=n3_;have HB:=n4_;clear n0_ n1_ n2_ n3_ n4_))
    go_roundg k1
    case measure=>have:=HK1.out;omega
    case rel=>exact ⟨(x1_1),(t554),H',⟨by have:=HK1.out;omega⟩,⟨by (with_reducible repeat (first|apply Kd.V_alloc|apply Kd.V_drewN|apply Kd.V_drew));exact Kd.V_mono HO_1.out (fun _ hk=>hk.1.1)⟩,⟨Kd.V_mono (Kd.R_V (by (with_reducible repeat (first|apply Ra|apply Rn|apply Rd));exact Kd.R_mono HO559.out (fun _ hk=>hk.1))) (fun k_ hk=>by first|exact ⟨(.inr (hk.1)),hk.2⟩|exact (.inr (hk)))⟩,⟨Hu HB.out⟩⟩
end Go.Proofs.YtncdiodnbkhacaaDoor.Pq
end
end
section
section
namespace Go.Proofs.YtncdiodnbkhacaaDoor.Pq
open Go.RowKit Go.Proofs.YtncdiodnbkhacaaDoorW.PrintWords Go.Proofs.YtncdiodnbkhacaaDoorW.PrintLast Go.Proofs.YtncdiodnbkhacaaDoorW.PrintMore
attribute [local go_sem] max2_int min2_int max_two min_two max_three min_three max_four min_four
set_option linter.unusedVariables false
set_option linter.unusedSimpArgs false
set_option maxHeartbeats 8000000
set_option maxRecDepth 100000
open Go.Shelf
theorem penumbraref03_Zero.calls  (r1 : Bool) (r2 : List Int) (r3 : List Int) (w : World) (h : penumbraref03_Zero.f  = some (r1,r2,r3)) :
  Calls Tryd.prog 29 #[] w fun e w'=>∃ v1_ v2_ : Value,e=.returned (.agg #[.bool r1,v1_,v2_])∧Kd.R (Kd.int .u32) 35 w' w.heap.size (fun k_=>some k_≠(v2_ : Value).ownBlock) v1_ r2∧Kd.R (Kd.int .u32) 35 w' w.heap.size (fun k_=>some k_≠(v1_ : Value).ownBlock) v2_ r3∧Below w.heap.size w w':=by
 have hu25:=Tryd.underlying25
 have HB:=Aside0.mk (Below.refl w.heap.size w)
 have H : (some (false,([] : List Int),(([1] : List Int))))=some (r1,r2,r3):=h
 clear h
 obtain ⟨y419,hy419⟩ : ∃ y_ : List Int,y_=(([1] : List Int)):=⟨_,rfl⟩
 replace H : (some (false,([] : List Int),y419))=some (r1,r2,r3):=by first|(rw [hy419];with_reducible exact H)|(have H2_:=(Option.bind_some _ _).symm.trans H;rw [hy419];with_reducible exact H2_)|(have H2_:=(Option.bind_some _ _).symm.trans H;with_reducible exact H2_)|with_reducible exact H|(rw [hy419];exact H)|exact H
 have Ny419:=Aside0.mk hy419
 clear hy419
 simp only [Option.some.injEq,Prod.mk.injEq] at H
 obtain ⟨rfl,rfl,rfl⟩:=H
 go_enter Tryd.func29,Tryd.ntmps29
 go_wp2_with (first|((with_reducible refine gate_dst (N:=0) rfl ?_);refine box_event ?hg (N:=0) ?hd (cs:=#[.bool false,.slice none 0 0,.slice none 0 0]) (t:=25) ?hr ?_;(case hd=>rfl);(case hg=>rfl);(case hr=>first|(go_simp;done)|(go_simp;(with_reducible rfl))|(go_simp;rfl)|(go_simp;simp only [hu,Int.emod_sub_emod]));intro gb418 hg w1 hbox hb;have n0_:=Aside0.mk (below_step (by repeat (first|with_reducible exact HB.out|apply ba|apply bn|apply b1)) hb);have n1_:=Aside0.mk (hbox);have n2_:=Aside0.mk ((by rw [hg];exact (below_size (by repeat (first|with_reducible exact HB.out|apply ba|apply bn|apply b1))) : w.heap.size≤gb418));have n3_:=Aside0.mk ((by rw [hg];exact (below_size (by repeat (first|with_reducible exact HB.out|apply ba|apply bn|apply b1))) : w.heap.size≤gb418));clear HB;have HB:=n0_;have BK418:=n1_;have GW418:=n2_;have GE418:=n3_;clear n0_ n1_ n2_ n3_;clear hb hbox hg)|((with_reducible refine gate_dst (N:=1) rfl ?_);refine Kd.R_lit (Kd.int .u32) _ 35 ?hg (N:=1) ?hd (xs:=([1] : List Int)) (inner:=[.int .u32 1]) (ok:=fun _=>True) (okp:=fun _=>True) ?hr ?hp (fun _ hk=>hk) trivial (Below.refl _ _) (Nat.le_refl _) (by simp) ?_;(case hd=>rfl);(case hg=>rfl);(case hr=>first|(go_simp;done)|(go_simp;(with_reducible rfl))|(go_simp;rfl)|(go_simp;simp only [hu,Int.emod_sub_emod]));(case hp=>exact (Reps.one (show Kd.M (Kd.int .u32) _ _ _ 1 [.int .u32 1] from rfl) (Reps.none _ _)));intro v420 w2 ho3 hb hg_ hnew_;clear hg_ hnew_;(first|rw [← Ny419.out] at ho3|(simp only [Int.reduceToNat] at ho3;rw [← Ny419.out] at ho3));have n0_:=Aside0.mk (Kd.R_lower ho3 (below_size (by repeat (first|with_reducible exact HB.out|apply ba|apply bn|apply b1|refine below_set ?_ GE418.out))));have n1_:=Aside0.mk (blk_below (g:=gb418) (o:=.cells #[.bool false,.slice none 0 0,.slice none 0 0] 25 (0,0)) (by (with_reducible repeat (first|refine blk_drewN ?_ _|refine blk_drew ?_|refine blk_alloc ?_ _));exact BK418.out) hb);have n2_:=Aside0.mk (below_step (by repeat (first|with_reducible exact HB.out|apply ba|apply bn|apply b1|refine below_set ?_ GE418.out)) hb);clear BK418;clear HB;have HO421:=n0_;have BK418:=n1_;have HB:=n2_;clear n0_ n1_ n2_;clear hb ho3;obtain ⟨Ao4,co4,eo4⟩:=Kd.R_slice HO421.out;subst eo4;have hcz5_0 : w2.cell? ⟨gb418,0,none⟩=some (.bool false):=(blk_cell BK418.out 0).trans rfl;have hcz5_1 : w2.cell? ⟨gb418,1,none⟩=some (.slice none 0 0):=(blk_cell BK418.out 1).trans rfl;have hcz5_2 : w2.cell? ⟨gb418,2,none⟩=some (.slice none 0 0):=(blk_cell BK418.out 2).trans rfl;have hfz5_0:=blk_frozen BK418.out 0;have hfz5_1:=blk_frozen BK418.out 1;have hfz5_2:=blk_frozen BK418.out 2))
 refine bodyPost_ret (results_cell_row rfl _ _ gb418 25 #[.bool false,.slice none 0 0,.slice Ao4 y419.length co4] (0,0) _ rfl (by (with_reducible repeat (first|refine blk_drewN ?_ _|refine blk_drew ?_|refine blk_alloc ?_ _));refine blk_put (cs:=#[.bool false,.slice none 0 0,.slice none 0 0]) ?_ 2 _ rfl;(with_reducible repeat (first|refine blk_drewN ?_ _|refine blk_drew ?_|refine blk_alloc ?_ _));refine blk_put (cs:=#[.bool false,.slice none 0 0,.slice none 0 0]) ?_ 1 _ rfl;(with_reducible repeat (first|refine blk_drewN ?_ _|refine blk_drew ?_|refine blk_alloc ?_ _));refine blk_put (cs:=#[.bool false,.slice none 0 0,.slice none 0 0]) ?_ 0 _ rfl;(with_reducible repeat (first|refine blk_drewN ?_ _|refine blk_drew ?_|refine blk_alloc ?_ _));exact BK418.out) Tryd.underlying25 rfl (by kernel_rfl)) rfl ?_
 exact ⟨_,_,by first|rfl|(simp [errW_none,errW_some] <;> rfl)|(simp [*,errW_none,errW_some] <;> rfl),by first|exact Kd.R_nil _ _ _ _ _|exact Kd.N_nil _ _ _ _ _|exact Kd.V_nil _ _ _ _ _|exact Kd.Q_nil _ _ _ _ _|exact Kd.S_nil _ _ _ _ _,by (with_reducible repeat (first|apply Ra|apply Rn|apply Rd));exact Kd.R_mono (Kd.R_far (p:=⟨gb418,2,none⟩) (Kd.R_far (p:=⟨gb418,1,none⟩) (Kd.R_far (p:=⟨gb418,0,none⟩) (Kd.R_types HO421.out BK418.out (by decide)) (fun _ hk=>hk.2) (.bool false)) (fun _ hk=>hk.2) (.slice none 0 0)) (fun _ hk=>hk.2) (.slice Ao4 y419.length co4)) (fun _ hk=>(by simp [Value.ownBlock])),by repeat (first|with_reducible exact HB.out|apply ba|apply bn|apply b1|refine below_set ?_ GE418.out)⟩
end Go.Proofs.YtncdiodnbkhacaaDoor.Pq
end
end
section
section
namespace Go.Proofs.YtncdiodnbkhacaaDoor.Pq
open Go.RowKit Go.Proofs.YtncdiodnbkhacaaDoorW.PrintWords Go.Proofs.YtncdiodnbkhacaaDoorW.PrintLast Go.Proofs.YtncdiodnbkhacaaDoorW.PrintMore
attribute [local go_sem] max2_int min2_int max_two min_two max_three min_three max_four min_four
set_option linter.unusedVariables false
set_option linter.unusedSimpArgs false
set_option maxHeartbeats 8000000
set_option maxRecDepth 100000
theorem penumbraref03_Read.mono_l : ∀ k,(∀ y0 y1 y2 y3,LeO (penumbraref03_Read.j0 k y0 y1 y2 y3) (penumbraref03_Read.j0 (k+1) y0 y1 y2 y3))
|0=>fun _ _ _ _ r h=>by simp [penumbraref03_Read.j0] at h
|k+1=>by
  have ih0:=penumbraref03_Read.mono_l k
  ·intro y0 y1 y2 y3
   unfold penumbraref03_Read.j0
   with_reducible repeat' first
  |exact ih0 _ _ _ _
  |exact penumbraref01_DivMod.mono _ _ _
  |exact penumbraref01_Zero.mono _ _
  |exact penumbraref02_Gcd.mono _ _ _
  |exact LeO.refl _
  |exact LeO.none _
  |refine LeO.ite ?_ ?_
  |refine LeO.bind ?_ (fun _=>?_)
theorem penumbraref03_Read.mono : ∀ a0 a1 a2 k,LeO (penumbraref03_Read.f k a0 a1 a2) (penumbraref03_Read.f (k+1) a0 a1 a2):=by
 intro a0 a1 a2 k
 have ih0:=penumbraref03_Read.mono_l k
 unfold penumbraref03_Read.f
 with_reducible repeat' first
  |exact ih0 _ _ _ _
  |exact penumbraref01_DivMod.mono _ _ _
  |exact penumbraref01_Zero.mono _ _
  |exact penumbraref02_Gcd.mono _ _ _
  |exact LeO.refl _
  |exact LeO.none _
  |refine LeO.ite ?_ ?_
  |refine LeO.bind ?_ (fun _=>?_)
theorem penumbraref03_Read.calls (k : Nat) (a0_0 : Bool) (A0_1 : Option Addr) (c0_1 : Nat) (l0_1 : List Int) (A0_2 : Option Addr) (c0_2 : Nat) (l0_2 : List Int) (r1 : Bool) (r2 : List Int) (r3 : List Int) (w : World) (hr0_1 : Kd.C (Kd.int .u32) w A0_1 l0_1.length l0_1) (hc0_1 : l0_1.length≤c0_1) (hr0_2 : Kd.C (Kd.int .u32) w A0_2 l0_2.length l0_2) (hc0_2 : l0_2.length≤c0_2) (h : penumbraref03_Read.f k a0_0 l0_1 l0_2=some (r1,r2,r3)) :
  Calls Tryd.prog 34 #[.agg #[.bool a0_0,.slice A0_1 l0_1.length c0_1,.slice A0_2 l0_2.length c0_2]] w fun e w'=>∃ v1_ v2_ : Value,e=.returned (.agg #[.bool r1,v1_,v2_])∧Kd.R (Kd.int .u32) 35 w' w.heap.size (fun k_=>some k_≠(v2_ : Value).ownBlock) v1_ r2∧Kd.R (Kd.int .u32) 35 w' w.heap.size (fun k_=>some k_≠(v1_ : Value).ownBlock) v2_ r3∧Below w.heap.size w w':=by
 have hu25:=Tryd.underlying25
 have HR0_1:=Aside0.mk hr0_1
 have HC0_1:=Aside0.mk hc0_1
 clear hr0_1 hc0_1
 have HR0_2:=Aside0.mk hr0_2
 have HC0_2:=Aside0.mk hc0_2
 clear hr0_2 hc0_2
 have HB:=Aside0.mk (Below.refl w.heap.size w)
 have H : ((penumbraref01_Zero.f k l0_2).bind fun t562=>(if t562=true then (penumbraref03_Read.j0 k true a0_0 l0_1 l0_2) else ((penumbraref01_Zero.f k l0_1).bind fun t563=>(penumbraref03_Read.j0 k t563 a0_0 l0_1 l0_2))))=some (r1,r2,r3):=h
 clear h
 have HC2:=Aside0.mk H
 clear H
 go_enter Tryd.func34,Tryd.ntmps34
 go_upto_region 1 with (first|((with_reducible refine gate_dst (N:=1) rfl ?_);refine box_event ?hg (N:=1) ?hd (cs:=#[.bool a0_0,.slice A0_1 l0_1.length c0_1,.slice A0_2 l0_2.length c0_2]) (t:=25) ?hr ?_;(case hd=>rfl);(case hg=>rfl);(case hr=>first|(go_simp;done)|(go_simp;(with_reducible rfl))|(go_simp;rfl)|(go_simp;simp only [hu,Int.emod_sub_emod]));intro gb560 hg w3 hbox hb;have n0_:=Aside0.mk (below_step (Hu HB.out) hb);have n1_:=Aside0.mk (hbox);have n2_:=Aside0.mk ((by rw [hg];exact (below_size (Hu HB.out)) : w.heap.size≤gb560));have n3_:=Aside0.mk ((by rw [hg];exact (below_size (Hu HB.out)) : w.heap.size≤gb560));clear HB;have HB:=n0_;have BK560:=n1_;have GW560:=n2_;have GE560:=n3_;clear n0_ n1_ n2_ n3_;clear hb hbox hg)|((with_reducible refine gate_dst (N:=2) rfl ?_);refine box_event ?hg (N:=2) ?hd (cs:=#[.bool false,.slice none 0 0,.slice none 0 0]) (t:=25) ?hr ?_;(case hd=>rfl);(case hg=>rfl);(case hr=>first|(go_simp;done)|(go_simp;(with_reducible rfl))|(go_simp;rfl)|(go_simp;simp only [hu,Int.emod_sub_emod]));intro gb561 hg w4 hbox hb;have n0_:=Aside0.mk (blk_below (g:=gb560) (o:=.cells #[.bool a0_0,.slice A0_1 l0_1.length c0_1,.slice A0_2 l0_2.length c0_2] 25 (0,0)) (Bu BK560.out) hb);have n1_:=Aside0.mk (below_step (by repeat (first|with_reducible exact HB.out|apply ba|apply bn|apply b1|refine below_set ?_ GE560.out)) hb);have n2_:=Aside0.mk (hbox);have n3_:=Aside0.mk ((by rw [hg];exact (below_size (by repeat (first|with_reducible exact HB.out|apply ba|apply bn|apply b1|refine below_set ?_ GE560.out))) : w.heap.size≤gb561));have n4_:=Aside0.mk ((by rw [hg];exact (below_size (by repeat (first|with_reducible exact HB.out|apply ba|apply bn|apply b1|refine below_set ?_ GE560.out))) : w.heap.size≤gb561));have n5_:=Aside0.mk ((by rw [hg];exact Nat.ne_of_lt (blk_lt (g:=gb560) (o:=.cells #[.bool a0_0,.slice A0_1 l0_1.length c0_1,.slice A0_2 l0_2.length c0_2] 25 (0,0)) (Bu BK560.out)) : gb560≠gb561));have n6_:=Aside0.mk ((by rw [hg];exact Nat.ne_of_gt (blk_lt (g:=gb560) (o:=.cells #[.bool a0_0,.slice A0_1 l0_1.length c0_1,.slice A0_2 l0_2.length c0_2] 25 (0,0)) (Bu BK560.out)) : gb561≠gb560));clear BK560;clear HB;have BK560:=n0_;have HB:=n1_;have BK561:=n2_;have GW561:=n3_;have GE561:=n4_;have NB560_561:=n5_;have NB561_560:=n6_;clear n0_ n1_ n2_ n3_ n4_ n5_ n6_;clear hb hbox hg))
 (try simp only [Act.put,s0,s1,s2])
 go_cut [17] (fun v17 wc=>∃ (kq : Nat) (x17_1 : Bool),v17=.bool x17_1∧Aside0 (penumbraref03_Read.j0 kq x17_1 a0_0 l0_1 l0_2=some (r1,r2,r3))∧Aside0 (kq≤k)∧Aside0 (wc.heap[gb560]? = some (.cells #[.bool a0_0,(.slice A0_1 l0_1.length c0_1),(.slice A0_2 l0_2.length c0_2)] 25 (0,0)))∧Aside0 (wc.heap[gb561]? = some (.cells #[.bool false,(.slice none 0 0),(.slice none 0 0)] 25 (0,0)))∧Aside0 (Below w.heap.size w wc))
 case first =>
  have H:=HC2.out
  clear HC2
  replace H:=Option.bind_eq_some_iff.mp H
  obtain ⟨t562,A50,H⟩:=H
  try dsimp only at H
  have A5:=Aside0.mk A50
  clear A50
  by_cases c6 : t562=true
  ·subst c6
   rw [if_pos rfl] at H
   have H':=Aside0.mk H
   clear H
   have hnb7:=NB560_561.out
   have hnc7:=NB561_560.out
   have hcz8_0 : w4.cell? ⟨gb560,0,none⟩=some (.bool a0_0):=(blk_cell BK560.out 0).trans rfl
   have hcz8_1 : w4.cell? ⟨gb560,1,none⟩=some (.slice A0_1 l0_1.length c0_1):=(blk_cell BK560.out 1).trans rfl
   have hcz8_2 : w4.cell? ⟨gb560,2,none⟩=some (.slice A0_2 l0_2.length c0_2):=(blk_cell BK560.out 2).trans rfl
   have hfz8_0:=blk_frozen BK560.out 0
   have hfz8_1:=blk_frozen BK560.out 1
   have hfz8_2:=blk_frozen BK560.out 2
   go_wp2_with (first|((with_reducible refine gate_callee (f:=33) rfl ?_);refine goesL_ (some 12) rfl rfl Tryd.func33 (by kernel_rfl) rfl #[.slice A0_2 l0_2.length c0_2] rfl (by (try simp only [List.map_toArray,List.map_cons,List.map_nil]);first|done|rfl) ?_;(with_reducible refine (penumbraref01_Zero.calls k _ _ l0_2 true _ ?side1 ?side2 A5.out).mono ?_);(case side1=>repeat (first|exact (Kd.C_below HR0_2.out HB.out)|(with_reducible refine Kd.C_alloc ?_ _)|(with_reducible refine Kd.C_drewN ?_ _)|(with_reducible refine Kd.C_drew ?_)));(case side2=>exact HC0_2.out);rintro e w9 ⟨rfl,hb⟩;refine ⟨_,rfl,?_⟩;have n0_:=Aside0.mk (blk_below (g:=gb560) (o:=.cells #[.bool a0_0,.slice A0_1 l0_1.length c0_1,.slice A0_2 l0_2.length c0_2] 25 (0,0)) (Bu BK560.out) hb);have n1_:=Aside0.mk (blk_below (g:=gb561) (o:=.cells #[.bool false,.slice none 0 0,.slice none 0 0] 25 (0,0)) (Bu BK561.out) hb);have n2_:=Aside0.mk (below_step (by repeat (first|with_reducible exact HB.out|apply ba|apply bn|apply b1|refine below_set ?_ GE560.out|refine below_set ?_ GE561.out)) hb);clear BK560;clear BK561;clear HB;have BK560:=n0_;have BK561:=n1_;have HB:=n2_;clear n0_ n1_ n2_))
   go_meet
   case rel=>exact ⟨_,(true),(by first|rfl|(simp;done)|(simp [*];done)),H',⟨by first|omega|exact Nat.le_refl _⟩,⟨Bu BK560.out⟩,⟨Bu BK561.out⟩,⟨by repeat (first|with_reducible exact HB.out|apply ba|apply bn|apply b1|refine below_set ?_ GE560.out|refine below_set ?_ GE561.out)⟩⟩
  ·replace c6:=Bool.eq_false_iff.mpr c6
   subst c6
   rw [if_neg (show ¬ (false=true) by decide)] at H
   replace H:=Option.bind_eq_some_iff.mp H
   obtain ⟨t563,A100,H⟩:=H
   try dsimp only at H
   have A10:=Aside0.mk A100
   clear A100
   have H':=Aside0.mk H
   clear H
   have hnb11:=NB560_561.out
   have hnc11:=NB561_560.out
   have hcz12_0 : w4.cell? ⟨gb560,0,none⟩=some (.bool a0_0):=(blk_cell BK560.out 0).trans rfl
   have hcz12_1 : w4.cell? ⟨gb560,1,none⟩=some (.slice A0_1 l0_1.length c0_1):=(blk_cell BK560.out 1).trans rfl
   have hcz12_2 : w4.cell? ⟨gb560,2,none⟩=some (.slice A0_2 l0_2.length c0_2):=(blk_cell BK560.out 2).trans rfl
   have hfz12_0:=blk_frozen BK560.out 0
   have hfz12_1:=blk_frozen BK560.out 1
   have hfz12_2:=blk_frozen BK560.out 2
   go_wp2_with (first|((with_reducible refine gate_callee (f:=33) rfl ?_);refine goesL_ (some 12) rfl rfl Tryd.func33 (by kernel_rfl) rfl #[.slice A0_2 l0_2.length c0_2] rfl (by (try simp only [List.map_toArray,List.map_cons,List.map_nil]);first|done|rfl) ?_;(with_reducible refine (penumbraref01_Zero.calls k _ _ l0_2 false _ ?side1 ?side2 A5.out).mono ?_);(case side1=>repeat (first|exact (Kd.C_below HR0_2.out HB.out)|(with_reducible refine Kd.C_alloc ?_ _)|(with_reducible refine Kd.C_drewN ?_ _)|(with_reducible refine Kd.C_drew ?_)));(case side2=>exact HC0_2.out);rintro e w13 ⟨rfl,hb⟩;refine ⟨_,rfl,?_⟩;have n0_:=Aside0.mk (blk_below (g:=gb560) (o:=.cells #[.bool a0_0,.slice A0_1 l0_1.length c0_1,.slice A0_2 l0_2.length c0_2] 25 (0,0)) (Bu BK560.out) hb);have n1_:=Aside0.mk (blk_below (g:=gb561) (o:=.cells #[.bool false,.slice none 0 0,.slice none 0 0] 25 (0,0)) (Bu BK561.out) hb);have n2_:=Aside0.mk (below_step (by repeat (first|with_reducible exact HB.out|apply ba|apply bn|apply b1|refine below_set ?_ GE560.out|refine below_set ?_ GE561.out)) hb);clear BK560;clear BK561;clear HB;have BK560:=n0_;have BK561:=n1_;have HB:=n2_;clear n0_ n1_ n2_;have hcz14_0 : w13.cell? ⟨gb560,0,none⟩=some (.bool a0_0):=(blk_cell BK560.out 0).trans rfl;have hcz14_1 : w13.cell? ⟨gb560,1,none⟩=some (.slice A0_1 l0_1.length c0_1):=(blk_cell BK560.out 1).trans rfl;have hcz14_2 : w13.cell? ⟨gb560,2,none⟩=some (.slice A0_2 l0_2.length c0_2):=(blk_cell BK560.out 2).trans rfl;have hfz14_0:=blk_frozen BK560.out 0;have hfz14_1:=blk_frozen BK560.out 1;have hfz14_2:=blk_frozen BK560.out 2)|(go_at_call 33;(with_reducible refine (penumbraref01_Zero.calls k _ _ l0_1 t563 _ ?side1 ?side2 A10.out).mono ?_);(case side1=>repeat (first|exact (Kd.C_below HR0_1.out HB.out)|(with_reducible refine Kd.C_alloc ?_ _)|(with_reducible refine Kd.C_drewN ?_ _)|(with_reducible refine Kd.C_drew ?_)));(case side2=>exact HC0_1.out);rintro e w15 ⟨rfl,hb⟩;have n0_:=Aside0.mk (blk_below (g:=gb560) (o:=.cells #[.bool a0_0,.slice A0_1 l0_1.length c0_1,.slice A0_2 l0_2.length c0_2] 25 (0,0)) (Bu BK560.out) hb);have n1_:=Aside0.mk (blk_below (g:=gb561) (o:=.cells #[.bool false,.slice none 0 0,.slice none 0 0] 25 (0,0)) (Bu BK561.out) hb);have n2_:=Aside0.mk (below_step (by repeat (first|with_reducible exact HB.out|apply ba|apply bn|apply b1|refine below_set ?_ GE560.out|refine below_set ?_ GE561.out)) hb);clear BK560;clear BK561;clear HB;have BK560:=n0_;have BK561:=n1_;have HB:=n2_;clear n0_ n1_ n2_))
   go_meet
   case rel=>exact ⟨_,(t563),(by first|rfl|(simp;done)|(simp [*];done)),H',⟨by first|omega|exact Nat.le_refl _⟩,⟨Bu BK560.out⟩,⟨Bu BK561.out⟩,⟨by repeat (first|with_reducible exact HB.out|apply ba|apply bn|apply b1|refine below_set ?_ GE560.out|refine below_set ?_ GE561.out)⟩⟩
 case rest =>
  clear HC2
  obtain ⟨kq,x17_1,rfl,HA,HJ1,BK560,BK561,HB⟩:=hcut
  cases kq with
 |zero=>exact absurd HA.out (by simp [penumbraref03_Read.j0])
 |succ kj1 =>
   have H:=HA.out
   clear HA
   simp only [penumbraref03_Read.j0] at H
   by_cases c16 : x17_1=true
   ·subst c16
    rw [if_pos rfl] at H
    replace H:=Option.bind_eq_some_iff.mp H
    obtain ⟨⟨t564,t565,t568⟩,A170,H⟩:=H
    try dsimp only at H
    have A17:=Aside0.mk A170
    clear A170
    simp only [Option.some.injEq,Prod.mk.injEq] at H
    obtain ⟨rfl,rfl,rfl⟩:=H
    go_wp2_with (first|((with_reducible refine gate_callee (f:=29) rfl ?_);refine goesL_ (some 18) rfl rfl Tryd.func29 (by kernel_rfl) rfl #[] rfl (by (try simp only [List.map_toArray,List.map_cons,List.map_nil]);first|done|rfl) ?_;(with_reducible refine (penumbraref03_Zero.calls  t564 t565 t568 _ A17.out).mono ?_);rintro e w18 ⟨v566,v569,rfl,ho0,ho1,hb⟩;refine ⟨_,rfl,?_⟩;have n0_:=Aside0.mk (Kd.R_lower ho0 (below_size (by repeat (first|with_reducible exact HB.out|apply ba|apply bn|apply b1|refine below_set ?_ GE560.out|refine below_set ?_ GE561.out))));have n1_:=Aside0.mk (Kd.R_lower ho1 (below_size (by repeat (first|with_reducible exact HB.out|apply ba|apply bn|apply b1|refine below_set ?_ GE560.out|refine below_set ?_ GE561.out))));have n2_:=Aside0.mk (blk_below (g:=gb560) (o:=.cells #[.bool a0_0,.slice A0_1 l0_1.length c0_1,.slice A0_2 l0_2.length c0_2] 25 (0,0)) (Bu BK560.out) hb);have n3_:=Aside0.mk (blk_below (g:=gb561) (o:=.cells #[.bool false,.slice none 0 0,.slice none 0 0] 25 (0,0)) (Bu BK561.out) hb);have n4_:=Aside0.mk (below_step (by repeat (first|with_reducible exact HB.out|apply ba|apply bn|apply b1|refine below_set ?_ GE560.out|refine below_set ?_ GE561.out)) hb);clear BK560;clear BK561;clear HB;have HO567:=n0_;have HO570:=n1_;have BK560:=n2_;have BK561:=n3_;have HB:=n4_;clear n0_ n1_ n2_ n3_ n4_;have hnb19:=NB561_560.out;have hnc19:=NB560_561.out;have hcz20_0 : w18.cell? ⟨gb561,0,none⟩=some (.bool false):=(blk_cell BK561.out 0).trans rfl;have hcz20_1 : w18.cell? ⟨gb561,1,none⟩=some (.slice none 0 0):=(blk_cell BK561.out 1).trans rfl;have hcz20_2 : w18.cell? ⟨gb561,2,none⟩=some (.slice none 0 0):=(blk_cell BK561.out 2).trans rfl;have hfz20_0:=blk_frozen BK561.out 0;have hfz20_1:=blk_frozen BK561.out 1;have hfz20_2:=blk_frozen BK561.out 2;obtain ⟨Ao21,co21,eo21⟩:=Kd.R_slice HO567.out;subst eo21;obtain ⟨Ao22,co22,eo22⟩:=Kd.R_slice HO570.out;subst eo22))
    refine bodyPost_ret (results_cell_row rfl _ _ gb561 25 #[.bool t564,.slice Ao21 t565.length co21,.slice Ao22 t568.length co22] (0,0) _ rfl (by (with_reducible repeat (first|refine blk_drewN ?_ _|refine blk_drew ?_|refine blk_alloc ?_ _));refine blk_put (cs:=#[.bool t564,.slice Ao21 t565.length co21,.slice none 0 0]) ?_ 2 _ rfl;(with_reducible repeat (first|refine blk_drewN ?_ _|refine blk_drew ?_|refine blk_alloc ?_ _));refine blk_put (cs:=#[.bool t564,.slice none 0 0,.slice none 0 0]) ?_ 1 _ rfl;(with_reducible repeat (first|refine blk_drewN ?_ _|refine blk_drew ?_|refine blk_alloc ?_ _));refine blk_put (cs:=#[.bool false,.slice none 0 0,.slice none 0 0]) ?_ 0 _ rfl;(with_reducible repeat (first|refine blk_drewN ?_ _|refine blk_drew ?_|refine blk_alloc ?_ _));exact BK561.out) Tryd.underlying25 rfl (by kernel_rfl)) rfl ?_
    exact ⟨_,_,by first|rfl|(simp [errW_none,errW_some] <;> rfl)|(simp [*,errW_none,errW_some] <;> rfl),by (with_reducible repeat (first|apply Ra|apply Rn|apply Rd));exact Kd.R_mono (Kd.R_far (p:=⟨gb561,2,none⟩) (Kd.R_far (p:=⟨gb561,1,none⟩) (Kd.R_far (p:=⟨gb561,0,none⟩) (Kd.R_types HO567.out BK561.out (by decide)) (fun _ hk=>hk.2) (.bool t564)) (fun _ hk=>hk.2) (.slice Ao21 t565.length co21)) (fun _ hk=>hk.2) (.slice Ao22 t568.length co22)) (fun _ hk=>hk.1),by (with_reducible repeat (first|apply Ra|apply Rn|apply Rd));exact Kd.R_mono (Kd.R_far (p:=⟨gb561,2,none⟩) (Kd.R_far (p:=⟨gb561,1,none⟩) (Kd.R_far (p:=⟨gb561,0,none⟩) (Kd.R_types HO570.out BK561.out (by decide)) (fun _ hk=>hk.2) (.bool t564)) (fun _ hk=>hk.2) (.slice Ao21 t565.length co21)) (fun _ hk=>hk.2) (.slice Ao22 t568.length co22)) (fun _ hk=>hk.1),by repeat (first|with_reducible exact HB.out|apply ba|apply bn|apply b1|refine below_set ?_ GE560.out|refine below_set ?_ GE561.out)⟩
   ·replace c16:=Bool.eq_false_iff.mpr c16
    subst c16
    rw [if_neg (show ¬ (false=true) by decide)] at H
    replace H:=Option.bind_eq_some_iff.mp H
    obtain ⟨t571,A230,H⟩:=H
    try dsimp only at H
    have A23:=Aside0.mk A230
    clear A230
    replace H:=Option.bind_eq_some_iff.mp H
    obtain ⟨⟨t574,t575,t576⟩,A240,H⟩:=H
    try dsimp only at H
    have A24:=Aside0.mk A240
    clear A240
    replace H:=Option.bind_eq_some_iff.mp H
    obtain ⟨⟨t581,t582,t583⟩,A250,H⟩:=H
    try dsimp only at H
    have A25:=Aside0.mk A250
    clear A250
    simp only [Option.some.injEq,Prod.mk.injEq] at H
    obtain ⟨rfl,rfl,rfl⟩:=H
    have hnb26:=NB560_561.out
    have hnc26:=NB561_560.out
    have hcz27_0 : wc.cell? ⟨gb560,0,none⟩=some (.bool a0_0):=(blk_cell BK560.out 0).trans rfl
    have hcz27_1 : wc.cell? ⟨gb560,1,none⟩=some (.slice A0_1 l0_1.length c0_1):=(blk_cell BK560.out 1).trans rfl
    have hcz27_2 : wc.cell? ⟨gb560,2,none⟩=some (.slice A0_2 l0_2.length c0_2):=(blk_cell BK560.out 2).trans rfl
    have hfz27_0:=blk_frozen BK560.out 0
    have hfz27_1:=blk_frozen BK560.out 1
    have hfz27_2:=blk_frozen BK560.out 2
    go_wp2_with (first|((with_reducible refine gate_callee (f:=60) rfl ?_);refine goesL_ (some 23) rfl rfl Tryd.func60 (by kernel_rfl) rfl #[.slice A0_1 l0_1.length c0_1,.slice A0_2 l0_2.length c0_2] rfl (by (try simp only [List.map_toArray,List.map_cons,List.map_nil]);first|done|rfl) ?_;(with_reducible refine (penumbraref02_Gcd.calls kj1 (fun k_=>k_ < w.heap.size) _ _ l0_1 (fun k_=>k_ < w.heap.size) _ _ l0_2 t571 _ ?side1 ?side2 A23.out).mono ?_);(case side1=>exact Kd.V_mk HC0_1.out (Kd.F_below (Kd.C_F (Kd.heap_int .u32) HR0_1.out) (by repeat (first|with_reducible exact HB.out|apply ba|apply bn|apply b1|refine below_set ?_ GE560.out|refine below_set ?_ GE561.out))));(case side2=>exact Kd.V_mk HC0_2.out (Kd.F_below (Kd.C_F (Kd.heap_int .u32) HR0_2.out) (by repeat (first|with_reducible exact HB.out|apply ba|apply bn|apply b1|refine below_set ?_ GE560.out|refine below_set ?_ GE561.out))));rintro e w28 ⟨v572,rfl,ho0,hb⟩;refine ⟨_,rfl,?_⟩;have n0_:=Aside0.mk (Kd.R_lower (Kd.R_mono (ok':=fun k_=>True) ho0 (fun _ hk_=>trivial)) (below_size (by repeat (first|with_reducible exact HB.out|apply ba|apply bn|apply b1|refine below_set ?_ GE560.out|refine below_set ?_ GE561.out))));have n1_:=Aside0.mk (blk_below (g:=gb560) (o:=.cells #[.bool a0_0,.slice A0_1 l0_1.length c0_1,.slice A0_2 l0_2.length c0_2] 25 (0,0)) (Bu BK560.out) hb);have n2_:=Aside0.mk (blk_below (g:=gb561) (o:=.cells #[.bool false,.slice none 0 0,.slice none 0 0] 25 (0,0)) (Bu BK561.out) hb);have n3_:=Aside0.mk (below_step (by repeat (first|with_reducible exact HB.out|apply ba|apply bn|apply b1|refine below_set ?_ GE560.out|refine below_set ?_ GE561.out)) hb);clear BK560;clear BK561;clear HB;have HO573:=n0_;have BK560:=n1_;have BK561:=n2_;have HB:=n3_;clear n0_ n1_ n2_ n3_;have hcz29_0 : w28.cell? ⟨gb560,0,none⟩=some (.bool a0_0):=(blk_cell BK560.out 0).trans rfl;have hcz29_1 : w28.cell? ⟨gb560,1,none⟩=some (.slice A0_1 l0_1.length c0_1):=(blk_cell BK560.out 1).trans rfl;have hcz29_2 : w28.cell? ⟨gb560,2,none⟩=some (.slice A0_2 l0_2.length c0_2):=(blk_cell BK560.out 2).trans rfl;have hfz29_0:=blk_frozen BK560.out 0;have hfz29_1:=blk_frozen BK560.out 1;have hfz29_2:=blk_frozen BK560.out 2;obtain ⟨Ao30,co30,eo30⟩:=Kd.R_slice HO573.out;subst eo30)|((with_reducible refine gate_callee (f:=42) rfl ?_);refine goesL_ (some 28) rfl rfl Tryd.func42 (by kernel_rfl) rfl #[.slice A0_1 l0_1.length c0_1,.slice Ao30 t571.length co30] rfl (by (try simp only [List.map_toArray,List.map_cons,List.map_nil]);first|done|rfl) ?_;(with_reducible refine (penumbraref01_DivMod.calls kj1 _ _ l0_1 _ _ t571 t574 t575 t576 _ ?side1 ?side2 ?side3 ?side4 A24.out).mono ?_);(case side1=>repeat (first|exact (Kd.C_below HR0_1.out HB.out)|(with_reducible refine Kd.C_alloc ?_ _)|(with_reducible refine Kd.C_drewN ?_ _)|(with_reducible refine Kd.C_drew ?_)));(case side2=>exact HC0_1.out);(case side3=>exact Cu (Kd.R_reads' HO573.out).2.2);(case side4=>exact (Kd.R_reads' HO573.out).2.1);rintro e w31 ⟨v577,v579,rfl,ho0,ho1,hb⟩;refine ⟨_,rfl,?_⟩;have n0_:=Aside0.mk (Kd.R_mono (Kd.R_told (Kd.R_told (Kd.R_old (Ru HO573.out) hb) (Kd.R_base ho0)) (Kd.R_base ho1)) (fun _ h_=>h_.1));have n1_:=Aside0.mk (Kd.R_lower (Kd.R_new' ho0 (Kd.R_lt (Ru HO573.out))) (below_size (by repeat (first|with_reducible exact HB.out|apply ba|apply bn|apply b1|refine below_set ?_ GE560.out|refine below_set ?_ GE561.out))));have n2_:=Aside0.mk (Kd.R_lower (Kd.R_new' ho1 (Kd.R_lt (Ru HO573.out))) (below_size (by repeat (first|with_reducible exact HB.out|apply ba|apply bn|apply b1|refine below_set ?_ GE560.out|refine below_set ?_ GE561.out))));have n3_:=Aside0.mk (blk_below (g:=gb560) (o:=.cells #[.bool a0_0,.slice A0_1 l0_1.length c0_1,.slice A0_2 l0_2.length c0_2] 25 (0,0)) (Bu BK560.out) hb);have n4_:=Aside0.mk (blk_below (g:=gb561) (o:=.cells #[.bool false,.slice none 0 0,.slice none 0 0] 25 (0,0)) (Bu BK561.out) hb);have n5_:=Aside0.mk (below_step (by repeat (first|with_reducible exact HB.out|apply ba|apply bn|apply b1|refine below_set ?_ GE560.out|refine below_set ?_ GE561.out)) hb);clear HO573;clear BK560;clear BK561;clear HB;have HO573:=n0_;have HO578:=n1_;have HO580:=n2_;have BK560:=n3_;have BK561:=n4_;have HB:=n5_;clear n0_ n1_ n2_ n3_ n4_ n5_;have hcz32_0 : w31.cell? ⟨gb560,0,none⟩=some (.bool a0_0):=(blk_cell BK560.out 0).trans rfl;have hcz32_1 : w31.cell? ⟨gb560,1,none⟩=some (.slice A0_1 l0_1.length c0_1):=(blk_cell BK560.out 1).trans rfl;have hcz32_2 : w31.cell? ⟨gb560,2,none⟩=some (.slice A0_2 l0_2.length c0_2):=(blk_cell BK560.out 2).trans rfl;have hfz32_0:=blk_frozen BK560.out 0;have hfz32_1:=blk_frozen BK560.out 1;have hfz32_2:=blk_frozen BK560.out 2)|((with_reducible refine gate_callee (f:=42) rfl ?_);refine goesL_ (some 36) rfl rfl Tryd.func42 (by kernel_rfl) rfl #[.slice A0_2 l0_2.length c0_2,.slice Ao30 t571.length co30] rfl (by (try simp only [List.map_toArray,List.map_cons,List.map_nil]);first|done|rfl) ?_;(with_reducible refine (penumbraref01_DivMod.calls kj1 _ _ l0_2 _ _ t571 t581 t582 t583 _ ?side1 ?side2 ?side3 ?side4 A25.out).mono ?_);(case side1=>repeat (first|exact (Kd.C_below HR0_2.out HB.out)|(with_reducible refine Kd.C_alloc ?_ _)|(with_reducible refine Kd.C_drewN ?_ _)|(with_reducible refine Kd.C_drew ?_)));(case side2=>exact HC0_2.out);(case side3=>exact Cu (Kd.R_reads' HO573.out).2.2);(case side4=>exact (Kd.R_reads' HO573.out).2.1);rintro e w33 ⟨v584,v586,rfl,ho0,ho1,hb⟩;refine ⟨_,rfl,?_⟩;have n0_:=Aside0.mk (Kd.R_mono (Kd.R_told (Kd.R_told (Kd.R_old (Ru HO573.out) hb) (Kd.R_base ho0)) (Kd.R_base ho1)) (fun _ h_=>h_.1));have n1_:=Aside0.mk (Kd.R_mono (Kd.R_told (Kd.R_told (Kd.R_old (Ru HO578.out) hb) (Kd.R_base ho0)) (Kd.R_base ho1)) (fun _ h_=>h_.1));have n2_:=Aside0.mk (Kd.R_mono (Kd.R_told (Kd.R_told (Kd.R_old (Ru HO580.out) hb) (Kd.R_base ho0)) (Kd.R_base ho1)) (fun _ h_=>h_.1));have n3_:=Aside0.mk (Kd.R_lower (Kd.R_new' (Kd.R_new' (Kd.R_new' ho0 (Kd.R_lt (Ru HO573.out))) (Kd.R_lt (Ru HO578.out))) (Kd.R_lt (Ru HO580.out))) (below_size (by repeat (first|with_reducible exact HB.out|apply ba|apply bn|apply b1|refine below_set ?_ GE560.out|refine below_set ?_ GE561.out))));have n4_:=Aside0.mk (Kd.R_lower (Kd.R_new' (Kd.R_new' (Kd.R_new' ho1 (Kd.R_lt (Ru HO573.out))) (Kd.R_lt (Ru HO578.out))) (Kd.R_lt (Ru HO580.out))) (below_size (by repeat (first|with_reducible exact HB.out|apply ba|apply bn|apply b1|refine below_set ?_ GE560.out|refine below_set ?_ GE561.out))));have n5_:=Aside0.mk (blk_below (g:=gb560) (o:=.cells #[.bool a0_0,.slice A0_1 l0_1.length c0_1,.slice A0_2 l0_2.length c0_2] 25 (0,0)) (Bu BK560.out) hb);have n6_:=Aside0.mk (blk_below (g:=gb561) (o:=.cells #[.bool false,.slice none 0 0,.slice none 0 0] 25 (0,0)) (Bu BK561.out) hb);have n7_:=Aside0.mk (below_step (by repeat (first|with_reducible exact HB.out|apply ba|apply bn|apply b1|refine below_set ?_ GE560.out|refine below_set ?_ GE561.out)) hb);clear HO573;clear HO578;clear HO580;clear BK560;clear BK561;clear HB;have HO573:=n0_;have HO578:=n1_;have HO580:=n2_;have HO585:=n3_;have HO587:=n4_;have BK560:=n5_;have BK561:=n6_;have HB:=n7_;clear n0_ n1_ n2_ n3_ n4_ n5_ n6_ n7_;have hcz34_0 : w33.cell? ⟨gb560,0,none⟩=some (.bool a0_0):=(blk_cell BK560.out 0).trans rfl;have hcz34_1 : w33.cell? ⟨gb560,1,none⟩=some (.slice A0_1 l0_1.length c0_1):=(blk_cell BK560.out 1).trans rfl;have hcz34_2 : w33.cell? ⟨gb560,2,none⟩=some (.slice A0_2 l0_2.length c0_2):=(blk_cell BK560.out 2).trans rfl;have hfz34_0:=blk_frozen BK560.out 0;have hfz34_1:=blk_frozen BK560.out 1;have hfz34_2:=blk_frozen BK560.out 2;obtain ⟨Ao35,co35,eo35⟩:=Kd.R_slice HO585.out;subst eo35;obtain ⟨Ao36,co36,eo36⟩:=Kd.R_slice HO578.out;subst eo36;have hcz37_0 : w33.cell? ⟨gb561,0,none⟩=some (.bool false):=(blk_cell BK561.out 0).trans rfl;have hcz37_1 : w33.cell? ⟨gb561,1,none⟩=some (.slice none 0 0):=(blk_cell BK561.out 1).trans rfl;have hcz37_2 : w33.cell? ⟨gb561,2,none⟩=some (.slice none 0 0):=(blk_cell BK561.out 2).trans rfl;have hfz37_0:=blk_frozen BK561.out 0;have hfz37_1:=blk_frozen BK561.out 1;have hfz37_2:=blk_frozen BK561.out 2))
    refine bodyPost_ret (results_cell_row rfl _ _ gb561 25 #[.bool a0_0,.slice Ao36 t574.length co36,.slice Ao35 t581.length co35] (0,0) _ rfl (by (with_reducible repeat (first|refine blk_drewN ?_ _|refine blk_drew ?_|refine blk_alloc ?_ _));refine blk_put (cs:=#[.bool a0_0,.slice Ao36 t574.length co36,.slice none 0 0]) ?_ 2 _ rfl;(with_reducible repeat (first|refine blk_drewN ?_ _|refine blk_drew ?_|refine blk_alloc ?_ _));refine blk_put (cs:=#[.bool a0_0,.slice none 0 0,.slice none 0 0]) ?_ 1 _ rfl;(with_reducible repeat (first|refine blk_drewN ?_ _|refine blk_drew ?_|refine blk_alloc ?_ _));refine blk_put (cs:=#[.bool false,.slice none 0 0,.slice none 0 0]) ?_ 0 _ rfl;(with_reducible repeat (first|refine blk_drewN ?_ _|refine blk_drew ?_|refine blk_alloc ?_ _));exact BK561.out) Tryd.underlying25 rfl (by kernel_rfl)) rfl ?_
    exact ⟨_,_,by first|rfl|(simp [errW_none,errW_some] <;> rfl)|(simp [*,errW_none,errW_some] <;> rfl),by (with_reducible repeat (first|apply Ra|apply Rn|apply Rd));exact Kd.R_mono (Kd.R_far (p:=⟨gb561,2,none⟩) (Kd.R_far (p:=⟨gb561,1,none⟩) (Kd.R_far (p:=⟨gb561,0,none⟩) (Kd.R_types HO578.out BK561.out (by decide)) (fun _ hk=>hk.2) (.bool a0_0)) (fun _ hk=>hk.2) (.slice Ao36 t574.length co36)) (fun _ hk=>hk.2) (.slice Ao35 t581.length co35)) (fun _ hk=>hk.1.1.2),by (with_reducible repeat (first|apply Ra|apply Rn|apply Rd));exact Kd.R_mono (Kd.R_far (p:=⟨gb561,2,none⟩) (Kd.R_far (p:=⟨gb561,1,none⟩) (Kd.R_far (p:=⟨gb561,0,none⟩) (Kd.R_types HO585.out BK561.out (by decide)) (fun _ hk=>hk.2) (.bool a0_0)) (fun _ hk=>hk.2) (.slice Ao36 t574.length co36)) (fun _ hk=>hk.2) (.slice Ao35 t581.length co35)) (fun _ hk=>hk.1.1.2),by repeat (first|with_reducible exact HB.out|apply ba|apply bn|apply b1|refine below_set ?_ GE560.out|refine below_set ?_ GE561.out)⟩
end Go.Proofs.YtncdiodnbkhacaaDoor.Pq
end
end
section
section
namespace Go.Proofs.YtncdiodnbkhacaaDoor.Pq
open Go.RowKit Go.Proofs.YtncdiodnbkhacaaDoorW.PrintWords Go.Proofs.YtncdiodnbkhacaaDoorW.PrintLast Go.Proofs.YtncdiodnbkhacaaDoorW.PrintMore
attribute [local go_sem] max2_int min2_int max_two min_two max_three min_three max_four min_four
set_option linter.unusedVariables false
set_option linter.unusedSimpArgs false
set_option maxHeartbeats 8000000
set_option maxRecDepth 100000
theorem penumbraref01_Of.mono : ∀ a0 k,LeO (penumbraref01_Of.f k a0) (penumbraref01_Of.f (k+1) a0):=by
 intro a0 k
 unfold penumbraref01_Of.f
 with_reducible repeat' first
  |exact penumbraref01_Norm.mono _ _
  |exact LeO.refl _
  |exact LeO.none _
  |refine LeO.ite ?_ ?_
  |refine LeO.bind ?_ (fun _=>?_)
theorem penumbraref01_Of.calls (k : Nat) (a0 : Int) (r : List Int) (w : World) (h : penumbraref01_Of.f k a0=some r) :
  Calls Tryd.prog 78 #[.int .u64 a0] w fun e w'=>∃ v0_ : Value,e=.returned (v0_)∧Kd.R (Kd.int .u32) 35 w' w.heap.size (fun _=>True) v0_ r∧Below w.heap.size w w':=by
 have HB:=Aside0.mk (Below.refl w.heap.size w)
 have H : ((penumbraref01_Norm.f k (([(a0) % 4294967296,(a0 / 4294967296) % 4294967296] : List Int))).bind fun t591=>(some t591))=some r:=h
 clear h
 obtain ⟨y588,hy588⟩ : ∃ y_ : List Int,y_=(([(a0) % 4294967296,(a0 / 4294967296) % 4294967296] : List Int)):=⟨_,rfl⟩
 replace H : ((penumbraref01_Norm.f k y588).bind fun t591=>(some t591))=some r:=by first|(rw [hy588];with_reducible exact H)|(have H2_:=(Option.bind_some _ _).symm.trans H;rw [hy588];with_reducible exact H2_)|(have H2_:=(Option.bind_some _ _).symm.trans H;with_reducible exact H2_)|with_reducible exact H|(rw [hy588];exact H)|exact H
 have Ny588:=Aside0.mk hy588
 clear hy588
 replace H:=Option.bind_eq_some_iff.mp H
 obtain ⟨t591,A20,H⟩:=H
 try dsimp only at H
 have A2:=Aside0.mk A20
 clear A20
 obtain rfl:=Option.some.inj H
 go_enter Tryd.func78,Tryd.ntmps78
 go_wp2_with (first|((with_reducible refine gate_dst (N:=8) rfl ?_);refine Kd.R_lit (Kd.int .u32) _ 35 ?hg (N:=8) ?hd (xs:=([(a0) % 4294967296,(a0 / 4294967296) % 4294967296] : List Int)) (inner:=[.int .u32 ((a0) % 4294967296),.int .u32 ((a0 / 4294967296) % 4294967296)]) (ok:=fun _=>True) (okp:=fun _=>True) ?hr ?hp (fun _ hk=>hk) trivial (Below.refl _ _) (Nat.le_refl _) (by simp) ?_;(case hd=>rfl);(case hg=>rfl);(case hr=>first|(go_simp;done)|(go_simp;(with_reducible rfl))|(go_simp;rfl)|(go_simp;simp only [hu,Int.emod_sub_emod]));(case hp=>exact (Reps.one (show Kd.M (Kd.int .u32) _ _ _ ((a0) % 4294967296) [.int .u32 ((a0) % 4294967296)] from rfl) (Reps.one (show Kd.M (Kd.int .u32) _ _ _ ((a0 / 4294967296) % 4294967296) [.int .u32 ((a0 / 4294967296) % 4294967296)] from rfl) (Reps.none _ _))));intro v589 w3 ho4 hb hg_ hnew_;clear hg_ hnew_;(first|rw [← Ny588.out] at ho4|(simp only [Int.reduceToNat] at ho4;rw [← Ny588.out] at ho4));have n0_:=Aside0.mk (Kd.R_lower ho4 (below_size (Hu HB.out)));have n1_:=Aside0.mk (below_step (Hu HB.out) hb);clear HB;have HO590:=n0_;have HB:=n1_;clear n0_ n1_;clear hb ho4;obtain ⟨Ao5,co5,eo5⟩:=Kd.R_slice HO590.out;subst eo5)|((with_reducible refine gate_callee (f:=58) rfl ?_);refine goesL_ (some 9) rfl rfl Tryd.func58 (by kernel_rfl) rfl #[.slice Ao5 y588.length co5] rfl (by (try simp only [List.map_toArray,List.map_cons,List.map_nil]);first|done|rfl) ?_;(with_reducible refine (penumbraref01_Norm.calls k _ _ y588 t591 _ ?side1 ?side2 A2.out).mono ?_);(case side1=>exact Cu (Kd.R_reads' HO590.out).2.2);(case side2=>exact (Kd.R_reads' HO590.out).2.1);rintro e w6 ⟨v592,rfl,ho0,hb⟩;refine ⟨_,rfl,?_⟩;have n0_:=Aside0.mk (Kd.R_elder' (Ru HO590.out) (Kd.R_base ho0) hb);have n1_:=Aside0.mk (Kd.R_lower (Kd.R_new' ho0 (Kd.R_lt (Ru HO590.out))) (below_size (Hu HB.out)));have n2_:=Aside0.mk (below_step (Hu HB.out) hb);clear HO590;clear HB;have HO590:=n0_;have HO593:=n1_;have HB:=n2_;clear n0_ n1_ n2_))
 go_ret
 exact ⟨_,by first|rfl|(simp [errW_none,errW_some] <;> rfl)|(simp [*,errW_none,errW_some] <;> rfl),by (with_reducible repeat (first|apply Ra|apply Rn|apply Rd));exact Kd.R_mono HO593.out (fun _ hk=>trivial),Hu HB.out⟩
end Go.Proofs.YtncdiodnbkhacaaDoor.Pq
end
end
section
section
namespace Go.Proofs.YtncdiodnbkhacaaDoor.Pq
open Go.RowKit Go.Proofs.YtncdiodnbkhacaaDoorW.PrintWords Go.Proofs.YtncdiodnbkhacaaDoorW.PrintLast Go.Proofs.YtncdiodnbkhacaaDoorW.PrintMore
attribute [local go_sem] max2_int min2_int max_two min_two max_three min_three max_four min_four
set_option linter.unusedVariables false
set_option linter.unusedSimpArgs false
set_option maxHeartbeats 8000000
set_option maxRecDepth 100000
theorem penumbraref03_abs.mono : ∀ a0 k,LeO (penumbraref03_abs.f k a0) (penumbraref03_abs.f (k+1) a0):=by
 intro a0 k
 unfold penumbraref03_abs.f
 with_reducible repeat' first
  |exact penumbraref01_Of.mono _ _
  |exact LeO.refl _
  |exact LeO.none _
  |refine LeO.ite ?_ ?_
  |refine LeO.bind ?_ (fun _=>?_)
theorem penumbraref03_abs.calls (k : Nat) (a0 : Int) (r : List Int) (w : World) (h : penumbraref03_abs.f k a0=some r) :
  Calls Tryd.prog 49 #[.int .i64 a0] w fun e w'=>∃ v0_ : Value,e=.returned (v0_)∧Kd.R (Kd.int .u32) 35 w' w.heap.size (fun _=>True) v0_ r∧Below w.heap.size w w':=by
 have HB:=Aside0.mk (Below.refl w.heap.size w)
 have H : (if a0 < 0 then ((penumbraref01_Of.f k (IntKind.u64.wrap ((IntKind.u64.wrap (wrap64 (-(wrap64 (a0+1)))))+1))).bind fun t594=>(some t594)) else ((penumbraref01_Of.f k (IntKind.u64.wrap (a0))).bind fun t597=>(some t597)))=some r:=h
 clear h
 by_cases c2 : a0 < 0
 ·rw [if_pos c2] at H
  have c2b0 : decide (a0 < 0)=true:=decide_eq_true c2
  clear c2
  replace H:=Option.bind_eq_some_iff.mp H
  obtain ⟨t594,A30,H⟩:=H
  try dsimp only at H
  have A3:=Aside0.mk A30
  clear A30
  obtain rfl:=Option.some.inj H
  go_enter Tryd.func49,Tryd.ntmps49
  go_wp2_with (first|((with_reducible refine gate_callee (f:=78) rfl ?_);refine goesL_ (some 10) rfl rfl Tryd.func78 (by kernel_rfl) rfl #[.int .u64 (IntKind.u64.wrap ((IntKind.u64.wrap (wrap64 (-(wrap64 (a0+1)))))+1))] rfl (by (try simp only [List.map_toArray,List.map_cons,List.map_nil]);first|done|rfl) ?_;(with_reducible refine (penumbraref01_Of.calls k (IntKind.u64.wrap ((IntKind.u64.wrap (wrap64 (-(wrap64 (a0+1)))))+1)) t594 _ A3.out).mono ?_);rintro e w4 ⟨v595,rfl,ho0,hb⟩;refine ⟨_,rfl,?_⟩;have n0_:=Aside0.mk (Kd.R_lower ho0 (below_size (Hu HB.out)));have n1_:=Aside0.mk (below_step (Hu HB.out) hb);clear HB;have HO596:=n0_;have HB:=n1_;clear n0_ n1_))
  go_ret
  exact ⟨_,by first|rfl|(simp [errW_none,errW_some] <;> rfl)|(simp [*,errW_none,errW_some] <;> rfl),by (with_reducible repeat (first|apply Ra|apply Rn|apply Rd));exact HO596.out,Hu HB.out⟩
 ·rw [if_neg c2] at H
  have c2b0 : decide (a0 < 0)=false:=decide_eq_false c2
  clear c2
  replace H:=Option.bind_eq_some_iff.mp H
  obtain ⟨t597,A50,H⟩:=H
  try dsimp only at H
  have A5:=Aside0.mk A50
  clear A50
  obtain rfl:=Option.some.inj H
  go_enter Tryd.func49,Tryd.ntmps49
  go_wp2_with (first|((with_reducible refine gate_callee (f:=78) rfl ?_);refine goesL_ (some 13) rfl rfl Tryd.func78 (by kernel_rfl) rfl #[.int .u64 (IntKind.u64.wrap (a0))] rfl (by (try simp only [List.map_toArray,List.map_cons,List.map_nil]);first|done|rfl) ?_;(with_reducible refine (penumbraref01_Of.calls k (IntKind.u64.wrap (a0)) t597 _ A5.out).mono ?_);rintro e w6 ⟨v598,rfl,ho0,hb⟩;refine ⟨_,rfl,?_⟩;have n0_:=Aside0.mk (Kd.R_lower ho0 (below_size (Hu HB.out)));have n1_:=Aside0.mk (below_step (Hu HB.out) hb);clear HB;have HO599:=n0_;have HB:=n1_;clear n0_ n1_))
  go_ret
  exact ⟨_,by first|rfl|(simp [errW_none,errW_some] <;> rfl)|(simp [*,errW_none,errW_some] <;> rfl),by (with_reducible repeat (first|apply Ra|apply Rn|apply Rd));exact HO599.out,Hu HB.out⟩
end Go.Proofs.YtncdiodnbkhacaaDoor.Pq
end
end
section
section
namespace Go.Proofs.YtncdiodnbkhacaaDoor.Pq
open Go.RowKit Go.Proofs.YtncdiodnbkhacaaDoorW.PrintWords Go.Proofs.YtncdiodnbkhacaaDoorW.PrintLast Go.Proofs.YtncdiodnbkhacaaDoorW.PrintMore
attribute [local go_sem] max2_int min2_int max_two min_two max_three min_three max_four min_four
set_option linter.unusedVariables false
set_option linter.unusedSimpArgs false
set_option maxHeartbeats 8000000
set_option maxRecDepth 100000
theorem penumbraref03_Of.mono : ∀ a0 a1 k,LeO (penumbraref03_Of.f k a0 a1) (penumbraref03_Of.f (k+1) a0 a1):=by
 intro a0 a1 k
 unfold penumbraref03_Of.f
 with_reducible repeat' first
  |exact penumbraref03_Read.mono _ _ _ _
  |exact penumbraref03_abs.mono _ _
  |exact LeO.refl _
  |exact LeO.none _
  |refine LeO.ite ?_ ?_
  |refine LeO.bind ?_ (fun _=>?_)
theorem penumbraref03_Of.calls (k : Nat) (a0 : Int) (a1 : Int) (r1 : Bool) (r2 : List Int) (r3 : List Int) (w : World) (h : penumbraref03_Of.f k a0 a1=some (r1,r2,r3)) :
  Calls Tryd.prog 23 #[.int .i64 a0,.int .i64 a1] w fun e w'=>∃ v1_ v2_ : Value,e=.returned (.agg #[.bool r1,v1_,v2_])∧Kd.R (Kd.int .u32) 35 w' w.heap.size (fun k_=>some k_≠(v2_ : Value).ownBlock) v1_ r2∧Kd.R (Kd.int .u32) 35 w' w.heap.size (fun k_=>some k_≠(v1_ : Value).ownBlock) v2_ r3∧Below w.heap.size w w':=by
 have hu25:=Tryd.underlying25
 have HB:=Aside0.mk (Below.refl w.heap.size w)
 have H : (if a0 < 0 then (if a1 ≥ 0 then ((penumbraref03_abs.f k a0).bind fun t601=>((penumbraref03_abs.f k a1).bind fun t604=>((penumbraref03_Read.f k true t601 t604).bind fun bt607=>(some (bt607.1,bt607.2.1,bt607.2.2))))) else (if a0 ≥ 0 then ((penumbraref03_abs.f k a0).bind fun t614=>((penumbraref03_abs.f k a1).bind fun t617=>((penumbraref03_Read.f k (decide (a1 < 0)) t614 t617).bind fun bt620=>(some (bt620.1,bt620.2.1,bt620.2.2))))) else ((penumbraref03_abs.f k a0).bind fun t627=>((penumbraref03_abs.f k a1).bind fun t630=>((penumbraref03_Read.f k false t627 t630).bind fun bt633=>(some (bt633.1,bt633.2.1,bt633.2.2))))))) else (if a0 ≥ 0 then ((penumbraref03_abs.f k a0).bind fun t640=>((penumbraref03_abs.f k a1).bind fun t643=>((penumbraref03_Read.f k (decide (a1 < 0)) t640 t643).bind fun bt646=>(some (bt646.1,bt646.2.1,bt646.2.2))))) else ((penumbraref03_abs.f k a0).bind fun t653=>((penumbraref03_abs.f k a1).bind fun t656=>((penumbraref03_Read.f k false t653 t656).bind fun bt659=>(some (bt659.1,bt659.2.1,bt659.2.2)))))))=some (r1,r2,r3):=h
 clear h
 by_cases c3 : a0 < 0
 ·rw [if_pos c3] at H
  have c3b0 : decide (a0 < 0)=true:=decide_eq_true c3
  clear c3
  by_cases c4 : a1 ≥ 0
  ·rw [if_pos c4] at H
   have c4b0 : decide (0≤a1)=true:=decide_eq_true c4
   clear c4
   replace H:=Option.bind_eq_some_iff.mp H
   obtain ⟨t601,A50,H⟩:=H
   try dsimp only at H
   have A5:=Aside0.mk A50
   clear A50
   replace H:=Option.bind_eq_some_iff.mp H
   obtain ⟨t604,A60,H⟩:=H
   try dsimp only at H
   have A6:=Aside0.mk A60
   clear A60
   replace H:=Option.bind_eq_some_iff.mp H
   obtain ⟨⟨t607,t608,t611⟩,A70,H⟩:=H
   try dsimp only at H
   have A7:=Aside0.mk A70
   clear A70
   simp only [Option.some.injEq,Prod.mk.injEq] at H
   obtain ⟨rfl,rfl,rfl⟩:=H
   go_enter Tryd.func23,Tryd.ntmps23
   go_wp2_with (first|((with_reducible refine gate_dst (N:=4) rfl ?_);refine box_event ?hg (N:=4) ?hd (cs:=#[.bool false,.slice none 0 0,.slice none 0 0]) (t:=25) ?hr ?_;(case hd=>rfl);(case hg=>rfl);(case hr=>first|(go_simp;done)|(go_simp;(with_reducible rfl))|(go_simp;rfl)|(go_simp;simp only [hu,Int.emod_sub_emod]));intro gb600 hg w8 hbox hb;have n0_:=Aside0.mk (below_step (Hu HB.out) hb);have n1_:=Aside0.mk (hbox);have n2_:=Aside0.mk ((by rw [hg];exact (below_size (Hu HB.out)) : w.heap.size≤gb600));have n3_:=Aside0.mk ((by rw [hg];exact (below_size (Hu HB.out)) : w.heap.size≤gb600));clear HB;have HB:=n0_;have BK600:=n1_;have GW600:=n2_;have GE600:=n3_;clear n0_ n1_ n2_ n3_;clear hb hbox hg)|((with_reducible refine gate_callee (f:=49) rfl ?_);refine goesL_ (some 20) rfl rfl Tryd.func49 (by kernel_rfl) rfl #[.int .i64 a0] rfl (by (try simp only [List.map_toArray,List.map_cons,List.map_nil]);first|done|rfl) ?_;(with_reducible refine (penumbraref03_abs.calls k a0 t601 _ A5.out).mono ?_);rintro e w9 ⟨v602,rfl,ho0,hb⟩;refine ⟨_,rfl,?_⟩;have n0_:=Aside0.mk (Kd.R_lower ho0 (below_size (by repeat (first|with_reducible exact HB.out|apply ba|apply bn|apply b1|refine below_set ?_ GE600.out))));have n1_:=Aside0.mk (blk_below (g:=gb600) (o:=.cells #[.bool false,.slice none 0 0,.slice none 0 0] 25 (0,0)) (Bu BK600.out) hb);have n2_:=Aside0.mk (below_step (by repeat (first|with_reducible exact HB.out|apply ba|apply bn|apply b1|refine below_set ?_ GE600.out)) hb);clear BK600;clear HB;have HO603:=n0_;have BK600:=n1_;have HB:=n2_;clear n0_ n1_ n2_)|((with_reducible refine gate_callee (f:=49) rfl ?_);refine goesL_ (some 22) rfl rfl Tryd.func49 (by kernel_rfl) rfl #[.int .i64 a1] rfl (by (try simp only [List.map_toArray,List.map_cons,List.map_nil]);first|done|rfl) ?_;(with_reducible refine (penumbraref03_abs.calls k a1 t604 _ A6.out).mono ?_);rintro e w10 ⟨v605,rfl,ho0,hb⟩;refine ⟨_,rfl,?_⟩;have n0_:=Aside0.mk (Kd.R_elder' (Ru HO603.out) (Kd.R_base ho0) hb);have n1_:=Aside0.mk (Kd.R_lower (Kd.R_new' ho0 (Kd.R_lt (Ru HO603.out))) (below_size (by repeat (first|with_reducible exact HB.out|apply ba|apply bn|apply b1|refine below_set ?_ GE600.out))));have n2_:=Aside0.mk (blk_below (g:=gb600) (o:=.cells #[.bool false,.slice none 0 0,.slice none 0 0] 25 (0,0)) (Bu BK600.out) hb);have n3_:=Aside0.mk (below_step (by repeat (first|with_reducible exact HB.out|apply ba|apply bn|apply b1|refine below_set ?_ GE600.out)) hb);clear HO603;clear BK600;clear HB;have HO603:=n0_;have HO606:=n1_;have BK600:=n2_;have HB:=n3_;clear n0_ n1_ n2_ n3_;obtain ⟨Ao11,co11,eo11⟩:=Kd.R_slice HO606.out;subst eo11;obtain ⟨Ao12,co12,eo12⟩:=Kd.R_slice HO603.out;subst eo12)|((with_reducible refine gate_callee (f:=34) rfl ?_);refine goesL_ (some 24) rfl rfl Tryd.func34 (by kernel_rfl) rfl #[.agg #[.bool true,.slice Ao12 t601.length co12,.slice Ao11 t604.length co11]] rfl (by (try simp only [List.map_toArray,List.map_cons,List.map_nil]);first|done|rfl) ?_;(with_reducible refine (penumbraref03_Read.calls k true _ _ t601 _ _ t604 t607 t608 t611 _ ?side1 ?side2 ?side3 ?side4 A7.out).mono ?_);(case side1=>exact Cu (Kd.R_reads' HO603.out).2.2);(case side2=>exact (Kd.R_reads' HO603.out).2.1);(case side3=>exact Cu (Kd.R_reads' HO606.out).2.2);(case side4=>exact (Kd.R_reads' HO606.out).2.1);rintro e w13 ⟨v609,v612,rfl,ho0,ho1,hb⟩;refine ⟨_,rfl,?_⟩;have n0_:=Aside0.mk (Kd.R_mono (Kd.R_told (Kd.R_told (Kd.R_old (Ru HO603.out) hb) (Kd.R_base ho0)) (Kd.R_base ho1)) (fun _ h_=>h_.1));have n1_:=Aside0.mk (Kd.R_mono (Kd.R_told (Kd.R_told (Kd.R_old (Ru HO606.out) hb) (Kd.R_base ho0)) (Kd.R_base ho1)) (fun _ h_=>h_.1));have n2_:=Aside0.mk (Kd.R_lower (Kd.R_new' (Kd.R_new' ho0 (Kd.R_lt (Ru HO603.out))) (Kd.R_lt (Ru HO606.out))) (below_size (by repeat (first|with_reducible exact HB.out|apply ba|apply bn|apply b1|refine below_set ?_ GE600.out))));have n3_:=Aside0.mk (Kd.R_lower (Kd.R_new' (Kd.R_new' ho1 (Kd.R_lt (Ru HO603.out))) (Kd.R_lt (Ru HO606.out))) (below_size (by repeat (first|with_reducible exact HB.out|apply ba|apply bn|apply b1|refine below_set ?_ GE600.out))));have n4_:=Aside0.mk (blk_below (g:=gb600) (o:=.cells #[.bool false,.slice none 0 0,.slice none 0 0] 25 (0,0)) (Bu BK600.out) hb);have n5_:=Aside0.mk (below_step (by repeat (first|with_reducible exact HB.out|apply ba|apply bn|apply b1|refine below_set ?_ GE600.out)) hb);clear HO603;clear HO606;clear BK600;clear HB;have HO603:=n0_;have HO606:=n1_;have HO610:=n2_;have HO613:=n3_;have BK600:=n4_;have HB:=n5_;clear n0_ n1_ n2_ n3_ n4_ n5_;have hcz14_0 : w13.cell? ⟨gb600,0,none⟩=some (.bool false):=(blk_cell BK600.out 0).trans rfl;have hcz14_1 : w13.cell? ⟨gb600,1,none⟩=some (.slice none 0 0):=(blk_cell BK600.out 1).trans rfl;have hcz14_2 : w13.cell? ⟨gb600,2,none⟩=some (.slice none 0 0):=(blk_cell BK600.out 2).trans rfl;have hfz14_0:=blk_frozen BK600.out 0;have hfz14_1:=blk_frozen BK600.out 1;have hfz14_2:=blk_frozen BK600.out 2;obtain ⟨Ao15,co15,eo15⟩:=Kd.R_slice HO610.out;subst eo15;obtain ⟨Ao16,co16,eo16⟩:=Kd.R_slice HO613.out;subst eo16))
   refine bodyPost_ret (results_cell_row rfl _ _ gb600 25 #[.bool t607,.slice Ao15 t608.length co15,.slice Ao16 t611.length co16] (0,0) _ rfl (by (with_reducible repeat (first|refine blk_drewN ?_ _|refine blk_drew ?_|refine blk_alloc ?_ _));refine blk_put (cs:=#[.bool t607,.slice Ao15 t608.length co15,.slice none 0 0]) ?_ 2 _ rfl;(with_reducible repeat (first|refine blk_drewN ?_ _|refine blk_drew ?_|refine blk_alloc ?_ _));refine blk_put (cs:=#[.bool t607,.slice none 0 0,.slice none 0 0]) ?_ 1 _ rfl;(with_reducible repeat (first|refine blk_drewN ?_ _|refine blk_drew ?_|refine blk_alloc ?_ _));refine blk_put (cs:=#[.bool false,.slice none 0 0,.slice none 0 0]) ?_ 0 _ rfl;(with_reducible repeat (first|refine blk_drewN ?_ _|refine blk_drew ?_|refine blk_alloc ?_ _));exact BK600.out) Tryd.underlying25 rfl (by kernel_rfl)) rfl ?_
   exact ⟨_,_,by first|rfl|(simp [errW_none,errW_some] <;> rfl)|(simp [*,errW_none,errW_some] <;> rfl),by (with_reducible repeat (first|apply Ra|apply Rn|apply Rd));exact Kd.R_mono (Kd.R_far (p:=⟨gb600,2,none⟩) (Kd.R_far (p:=⟨gb600,1,none⟩) (Kd.R_far (p:=⟨gb600,0,none⟩) (Kd.R_types HO610.out BK600.out (by decide)) (fun _ hk=>hk.2) (.bool t607)) (fun _ hk=>hk.2) (.slice Ao15 t608.length co15)) (fun _ hk=>hk.2) (.slice Ao16 t611.length co16)) (fun _ hk=>hk.1.1.1),by (with_reducible repeat (first|apply Ra|apply Rn|apply Rd));exact Kd.R_mono (Kd.R_far (p:=⟨gb600,2,none⟩) (Kd.R_far (p:=⟨gb600,1,none⟩) (Kd.R_far (p:=⟨gb600,0,none⟩) (Kd.R_types HO613.out BK600.out (by decide)) (fun _ hk=>hk.2) (.bool t607)) (fun _ hk=>hk.2) (.slice Ao15 t608.length co15)) (fun _ hk=>hk.2) (.slice Ao16 t611.length co16)) (fun _ hk=>hk.1.1.1),by repeat (first|with_reducible exact HB.out|apply ba|apply bn|apply b1|refine below_set ?_ GE600.out)⟩
  ·rw [if_neg c4] at H
   have c4b0 : decide (0≤a1)=false:=decide_eq_false c4
   clear c4
   by_cases c17 : a0 ≥ 0
   ·rw [if_pos c17] at H
    have c17b0 : decide (0≤a0)=true:=decide_eq_true c17
    clear c17
    replace H:=Option.bind_eq_some_iff.mp H
    obtain ⟨t614,A180,H⟩:=H
    try dsimp only at H
    have A18:=Aside0.mk A180
    clear A180
    replace H:=Option.bind_eq_some_iff.mp H
    obtain ⟨t617,A190,H⟩:=H
    try dsimp only at H
    have A19:=Aside0.mk A190
    clear A190
    replace H:=Option.bind_eq_some_iff.mp H
    obtain ⟨⟨t620,t621,t624⟩,A200,H⟩:=H
    try dsimp only at H
    have A20:=Aside0.mk A200
    clear A200
    simp only [Option.some.injEq,Prod.mk.injEq] at H
    obtain ⟨rfl,rfl,rfl⟩:=H
    go_enter Tryd.func23,Tryd.ntmps23
    go_wp2_with (first|((with_reducible refine gate_dst (N:=4) rfl ?_);refine box_event ?hg (N:=4) ?hd (cs:=#[.bool false,.slice none 0 0,.slice none 0 0]) (t:=25) ?hr ?_;(case hd=>rfl);(case hg=>rfl);(case hr=>first|(go_simp;done)|(go_simp;(with_reducible rfl))|(go_simp;rfl)|(go_simp;simp only [hu,Int.emod_sub_emod]));intro gb600 hg w21 hbox hb;have n0_:=Aside0.mk (below_step (Hu HB.out) hb);have n1_:=Aside0.mk (hbox);have n2_:=Aside0.mk ((by rw [hg];exact (below_size (Hu HB.out)) : w.heap.size≤gb600));have n3_:=Aside0.mk ((by rw [hg];exact (below_size (Hu HB.out)) : w.heap.size≤gb600));clear HB;have HB:=n0_;have BK600:=n1_;have GW600:=n2_;have GE600:=n3_;clear n0_ n1_ n2_ n3_;clear hb hbox hg)|((with_reducible refine gate_callee (f:=49) rfl ?_);refine goesL_ (some 20) rfl rfl Tryd.func49 (by kernel_rfl) rfl #[.int .i64 a0] rfl (by (try simp only [List.map_toArray,List.map_cons,List.map_nil]);first|done|rfl) ?_;(with_reducible refine (penumbraref03_abs.calls k a0 t614 _ A18.out).mono ?_);rintro e w22 ⟨v615,rfl,ho0,hb⟩;refine ⟨_,rfl,?_⟩;have n0_:=Aside0.mk (Kd.R_lower ho0 (below_size (by repeat (first|with_reducible exact HB.out|apply ba|apply bn|apply b1|refine below_set ?_ GE600.out))));have n1_:=Aside0.mk (blk_below (g:=gb600) (o:=.cells #[.bool false,.slice none 0 0,.slice none 0 0] 25 (0,0)) (Bu BK600.out) hb);have n2_:=Aside0.mk (below_step (by repeat (first|with_reducible exact HB.out|apply ba|apply bn|apply b1|refine below_set ?_ GE600.out)) hb);clear BK600;clear HB;have HO616:=n0_;have BK600:=n1_;have HB:=n2_;clear n0_ n1_ n2_)|((with_reducible refine gate_callee (f:=49) rfl ?_);refine goesL_ (some 22) rfl rfl Tryd.func49 (by kernel_rfl) rfl #[.int .i64 a1] rfl (by (try simp only [List.map_toArray,List.map_cons,List.map_nil]);first|done|rfl) ?_;(with_reducible refine (penumbraref03_abs.calls k a1 t617 _ A19.out).mono ?_);rintro e w23 ⟨v618,rfl,ho0,hb⟩;refine ⟨_,rfl,?_⟩;have n0_:=Aside0.mk (Kd.R_elder' (Ru HO616.out) (Kd.R_base ho0) hb);have n1_:=Aside0.mk (Kd.R_lower (Kd.R_new' ho0 (Kd.R_lt (Ru HO616.out))) (below_size (by repeat (first|with_reducible exact HB.out|apply ba|apply bn|apply b1|refine below_set ?_ GE600.out))));have n2_:=Aside0.mk (blk_below (g:=gb600) (o:=.cells #[.bool false,.slice none 0 0,.slice none 0 0] 25 (0,0)) (Bu BK600.out) hb);have n3_:=Aside0.mk (below_step (by repeat (first|with_reducible exact HB.out|apply ba|apply bn|apply b1|refine below_set ?_ GE600.out)) hb);clear HO616;clear BK600;clear HB;have HO616:=n0_;have HO619:=n1_;have BK600:=n2_;have HB:=n3_;clear n0_ n1_ n2_ n3_;obtain ⟨Ao24,co24,eo24⟩:=Kd.R_slice HO619.out;subst eo24;obtain ⟨Ao25,co25,eo25⟩:=Kd.R_slice HO616.out;subst eo25)|((with_reducible refine gate_callee (f:=34) rfl ?_);refine goesL_ (some 24) rfl rfl Tryd.func34 (by kernel_rfl) rfl #[.agg #[.bool (decide (a1 < 0)),.slice Ao25 t614.length co25,.slice Ao24 t617.length co24]] rfl (by (try simp only [List.map_toArray,List.map_cons,List.map_nil]);first|done|rfl) ?_;(with_reducible refine (penumbraref03_Read.calls k (decide (a1 < 0)) _ _ t614 _ _ t617 t620 t621 t624 _ ?side1 ?side2 ?side3 ?side4 A20.out).mono ?_);(case side1=>exact Cu (Kd.R_reads' HO616.out).2.2);(case side2=>exact (Kd.R_reads' HO616.out).2.1);(case side3=>exact Cu (Kd.R_reads' HO619.out).2.2);(case side4=>exact (Kd.R_reads' HO619.out).2.1);rintro e w26 ⟨v622,v625,rfl,ho0,ho1,hb⟩;refine ⟨_,rfl,?_⟩;have n0_:=Aside0.mk (Kd.R_mono (Kd.R_told (Kd.R_told (Kd.R_old (Ru HO616.out) hb) (Kd.R_base ho0)) (Kd.R_base ho1)) (fun _ h_=>h_.1));have n1_:=Aside0.mk (Kd.R_mono (Kd.R_told (Kd.R_told (Kd.R_old (Ru HO619.out) hb) (Kd.R_base ho0)) (Kd.R_base ho1)) (fun _ h_=>h_.1));have n2_:=Aside0.mk (Kd.R_lower (Kd.R_new' (Kd.R_new' ho0 (Kd.R_lt (Ru HO616.out))) (Kd.R_lt (Ru HO619.out))) (below_size (by repeat (first|with_reducible exact HB.out|apply ba|apply bn|apply b1|refine below_set ?_ GE600.out))));have n3_:=Aside0.mk (Kd.R_lower (Kd.R_new' (Kd.R_new' ho1 (Kd.R_lt (Ru HO616.out))) (Kd.R_lt (Ru HO619.out))) (below_size (by repeat (first|with_reducible exact HB.out|apply ba|apply bn|apply b1|refine below_set ?_ GE600.out))));have n4_:=Aside0.mk (blk_below (g:=gb600) (o:=.cells #[.bool false,.slice none 0 0,.slice none 0 0] 25 (0,0)) (Bu BK600.out) hb);have n5_:=Aside0.mk (below_step (by repeat (first|with_reducible exact HB.out|apply ba|apply bn|apply b1|refine below_set ?_ GE600.out)) hb);clear HO616;clear HO619;clear BK600;clear HB;have HO616:=n0_;have HO619:=n1_;have HO623:=n2_;have HO626:=n3_;have BK600:=n4_;have HB:=n5_;clear n0_ n1_ n2_ n3_ n4_ n5_;have hcz27_0 : w26.cell? ⟨gb600,0,none⟩=some (.bool false):=(blk_cell BK600.out 0).trans rfl;have hcz27_1 : w26.cell? ⟨gb600,1,none⟩=some (.slice none 0 0):=(blk_cell BK600.out 1).trans rfl;have hcz27_2 : w26.cell? ⟨gb600,2,none⟩=some (.slice none 0 0):=(blk_cell BK600.out 2).trans rfl;have hfz27_0:=blk_frozen BK600.out 0;have hfz27_1:=blk_frozen BK600.out 1;have hfz27_2:=blk_frozen BK600.out 2;obtain ⟨Ao28,co28,eo28⟩:=Kd.R_slice HO623.out;subst eo28;obtain ⟨Ao29,co29,eo29⟩:=Kd.R_slice HO626.out;subst eo29))
    refine bodyPost_ret (results_cell_row rfl _ _ gb600 25 #[.bool t620,.slice Ao28 t621.length co28,.slice Ao29 t624.length co29] (0,0) _ rfl (by (with_reducible repeat (first|refine blk_drewN ?_ _|refine blk_drew ?_|refine blk_alloc ?_ _));refine blk_put (cs:=#[.bool t620,.slice Ao28 t621.length co28,.slice none 0 0]) ?_ 2 _ rfl;(with_reducible repeat (first|refine blk_drewN ?_ _|refine blk_drew ?_|refine blk_alloc ?_ _));refine blk_put (cs:=#[.bool t620,.slice none 0 0,.slice none 0 0]) ?_ 1 _ rfl;(with_reducible repeat (first|refine blk_drewN ?_ _|refine blk_drew ?_|refine blk_alloc ?_ _));refine blk_put (cs:=#[.bool false,.slice none 0 0,.slice none 0 0]) ?_ 0 _ rfl;(with_reducible repeat (first|refine blk_drewN ?_ _|refine blk_drew ?_|refine blk_alloc ?_ _));exact BK600.out) Tryd.underlying25 rfl (by kernel_rfl)) rfl ?_
    exact ⟨_,_,by first|rfl|(simp [errW_none,errW_some] <;> rfl)|(simp [*,errW_none,errW_some] <;> rfl),by (with_reducible repeat (first|apply Ra|apply Rn|apply Rd));exact Kd.R_mono (Kd.R_far (p:=⟨gb600,2,none⟩) (Kd.R_far (p:=⟨gb600,1,none⟩) (Kd.R_far (p:=⟨gb600,0,none⟩) (Kd.R_types HO623.out BK600.out (by decide)) (fun _ hk=>hk.2) (.bool t620)) (fun _ hk=>hk.2) (.slice Ao28 t621.length co28)) (fun _ hk=>hk.2) (.slice Ao29 t624.length co29)) (fun _ hk=>hk.1.1.1),by (with_reducible repeat (first|apply Ra|apply Rn|apply Rd));exact Kd.R_mono (Kd.R_far (p:=⟨gb600,2,none⟩) (Kd.R_far (p:=⟨gb600,1,none⟩) (Kd.R_far (p:=⟨gb600,0,none⟩) (Kd.R_types HO626.out BK600.out (by decide)) (fun _ hk=>hk.2) (.bool t620)) (fun _ hk=>hk.2) (.slice Ao28 t621.length co28)) (fun _ hk=>hk.2) (.slice Ao29 t624.length co29)) (fun _ hk=>hk.1.1.1),by repeat (first|with_reducible exact HB.out|apply ba|apply bn|apply b1|refine below_set ?_ GE600.out)⟩
   ·rw [if_neg c17] at H
    have c17b0 : decide (0≤a0)=false:=decide_eq_false c17
    clear c17
    replace H:=Option.bind_eq_some_iff.mp H
    obtain ⟨t627,A300,H⟩:=H
    try dsimp only at H
    have A30:=Aside0.mk A300
    clear A300
    replace H:=Option.bind_eq_some_iff.mp H
    obtain ⟨t630,A310,H⟩:=H
    try dsimp only at H
    have A31:=Aside0.mk A310
    clear A310
    replace H:=Option.bind_eq_some_iff.mp H
    obtain ⟨⟨t633,t634,t637⟩,A320,H⟩:=H
    try dsimp only at H
    have A32:=Aside0.mk A320
    clear A320
    simp only [Option.some.injEq,Prod.mk.injEq] at H
    obtain ⟨rfl,rfl,rfl⟩:=H
    go_enter Tryd.func23,Tryd.ntmps23
    go_wp2_with (first|((with_reducible refine gate_dst (N:=4) rfl ?_);refine box_event ?hg (N:=4) ?hd (cs:=#[.bool false,.slice none 0 0,.slice none 0 0]) (t:=25) ?hr ?_;(case hd=>rfl);(case hg=>rfl);(case hr=>first|(go_simp;done)|(go_simp;(with_reducible rfl))|(go_simp;rfl)|(go_simp;simp only [hu,Int.emod_sub_emod]));intro gb600 hg w33 hbox hb;have n0_:=Aside0.mk (below_step (Hu HB.out) hb);have n1_:=Aside0.mk (hbox);have n2_:=Aside0.mk ((by rw [hg];exact (below_size (Hu HB.out)) : w.heap.size≤gb600));have n3_:=Aside0.mk ((by rw [hg];exact (below_size (Hu HB.out)) : w.heap.size≤gb600));clear HB;have HB:=n0_;have BK600:=n1_;have GW600:=n2_;have GE600:=n3_;clear n0_ n1_ n2_ n3_;clear hb hbox hg)|((with_reducible refine gate_callee (f:=49) rfl ?_);refine goesL_ (some 20) rfl rfl Tryd.func49 (by kernel_rfl) rfl #[.int .i64 a0] rfl (by (try simp only [List.map_toArray,List.map_cons,List.map_nil]);first|done|rfl) ?_;(with_reducible refine (penumbraref03_abs.calls k a0 t627 _ A30.out).mono ?_);rintro e w34 ⟨v628,rfl,ho0,hb⟩;refine ⟨_,rfl,?_⟩;have n0_:=Aside0.mk (Kd.R_lower ho0 (below_size (by repeat (first|with_reducible exact HB.out|apply ba|apply bn|apply b1|refine below_set ?_ GE600.out))));have n1_:=Aside0.mk (blk_below (g:=gb600) (o:=.cells #[.bool false,.slice none 0 0,.slice none 0 0] 25 (0,0)) (Bu BK600.out) hb);have n2_:=Aside0.mk (below_step (by repeat (first|with_reducible exact HB.out|apply ba|apply bn|apply b1|refine below_set ?_ GE600.out)) hb);clear BK600;clear HB;have HO629:=n0_;have BK600:=n1_;have HB:=n2_;clear n0_ n1_ n2_)|((with_reducible refine gate_callee (f:=49) rfl ?_);refine goesL_ (some 22) rfl rfl Tryd.func49 (by kernel_rfl) rfl #[.int .i64 a1] rfl (by (try simp only [List.map_toArray,List.map_cons,List.map_nil]);first|done|rfl) ?_;(with_reducible refine (penumbraref03_abs.calls k a1 t630 _ A31.out).mono ?_);rintro e w35 ⟨v631,rfl,ho0,hb⟩;refine ⟨_,rfl,?_⟩;have n0_:=Aside0.mk (Kd.R_elder' (Ru HO629.out) (Kd.R_base ho0) hb);have n1_:=Aside0.mk (Kd.R_lower (Kd.R_new' ho0 (Kd.R_lt (Ru HO629.out))) (below_size (by repeat (first|with_reducible exact HB.out|apply ba|apply bn|apply b1|refine below_set ?_ GE600.out))));have n2_:=Aside0.mk (blk_below (g:=gb600) (o:=.cells #[.bool false,.slice none 0 0,.slice none 0 0] 25 (0,0)) (Bu BK600.out) hb);have n3_:=Aside0.mk (below_step (by repeat (first|with_reducible exact HB.out|apply ba|apply bn|apply b1|refine below_set ?_ GE600.out)) hb);clear HO629;clear BK600;clear HB;have HO629:=n0_;have HO632:=n1_;have BK600:=n2_;have HB:=n3_;clear n0_ n1_ n2_ n3_;obtain ⟨Ao36,co36,eo36⟩:=Kd.R_slice HO632.out;subst eo36;obtain ⟨Ao37,co37,eo37⟩:=Kd.R_slice HO629.out;subst eo37)|((with_reducible refine gate_callee (f:=34) rfl ?_);refine goesL_ (some 24) rfl rfl Tryd.func34 (by kernel_rfl) rfl #[.agg #[.bool false,.slice Ao37 t627.length co37,.slice Ao36 t630.length co36]] rfl (by (try simp only [List.map_toArray,List.map_cons,List.map_nil]);first|done|rfl) ?_;(with_reducible refine (penumbraref03_Read.calls k false _ _ t627 _ _ t630 t633 t634 t637 _ ?side1 ?side2 ?side3 ?side4 A32.out).mono ?_);(case side1=>exact Cu (Kd.R_reads' HO629.out).2.2);(case side2=>exact (Kd.R_reads' HO629.out).2.1);(case side3=>exact Cu (Kd.R_reads' HO632.out).2.2);(case side4=>exact (Kd.R_reads' HO632.out).2.1);rintro e w38 ⟨v635,v638,rfl,ho0,ho1,hb⟩;refine ⟨_,rfl,?_⟩;have n0_:=Aside0.mk (Kd.R_mono (Kd.R_told (Kd.R_told (Kd.R_old (Ru HO629.out) hb) (Kd.R_base ho0)) (Kd.R_base ho1)) (fun _ h_=>h_.1));have n1_:=Aside0.mk (Kd.R_mono (Kd.R_told (Kd.R_told (Kd.R_old (Ru HO632.out) hb) (Kd.R_base ho0)) (Kd.R_base ho1)) (fun _ h_=>h_.1));have n2_:=Aside0.mk (Kd.R_lower (Kd.R_new' (Kd.R_new' ho0 (Kd.R_lt (Ru HO629.out))) (Kd.R_lt (Ru HO632.out))) (below_size (by repeat (first|with_reducible exact HB.out|apply ba|apply bn|apply b1|refine below_set ?_ GE600.out))));have n3_:=Aside0.mk (Kd.R_lower (Kd.R_new' (Kd.R_new' ho1 (Kd.R_lt (Ru HO629.out))) (Kd.R_lt (Ru HO632.out))) (below_size (by repeat (first|with_reducible exact HB.out|apply ba|apply bn|apply b1|refine below_set ?_ GE600.out))));have n4_:=Aside0.mk (blk_below (g:=gb600) (o:=.cells #[.bool false,.slice none 0 0,.slice none 0 0] 25 (0,0)) (Bu BK600.out) hb);have n5_:=Aside0.mk (below_step (by repeat (first|with_reducible exact HB.out|apply ba|apply bn|apply b1|refine below_set ?_ GE600.out)) hb);clear HO629;clear HO632;clear BK600;clear HB;have HO629:=n0_;have HO632:=n1_;have HO636:=n2_;have HO639:=n3_;have BK600:=n4_;have HB:=n5_;clear n0_ n1_ n2_ n3_ n4_ n5_;have hcz39_0 : w38.cell? ⟨gb600,0,none⟩=some (.bool false):=(blk_cell BK600.out 0).trans rfl;have hcz39_1 : w38.cell? ⟨gb600,1,none⟩=some (.slice none 0 0):=(blk_cell BK600.out 1).trans rfl;have hcz39_2 : w38.cell? ⟨gb600,2,none⟩=some (.slice none 0 0):=(blk_cell BK600.out 2).trans rfl;have hfz39_0:=blk_frozen BK600.out 0;have hfz39_1:=blk_frozen BK600.out 1;have hfz39_2:=blk_frozen BK600.out 2;obtain ⟨Ao40,co40,eo40⟩:=Kd.R_slice HO636.out;subst eo40;obtain ⟨Ao41,co41,eo41⟩:=Kd.R_slice HO639.out;subst eo41))
    refine bodyPost_ret (results_cell_row rfl _ _ gb600 25 #[.bool t633,.slice Ao40 t634.length co40,.slice Ao41 t637.length co41] (0,0) _ rfl (by (with_reducible repeat (first|refine blk_drewN ?_ _|refine blk_drew ?_|refine blk_alloc ?_ _));refine blk_put (cs:=#[.bool t633,.slice Ao40 t634.length co40,.slice none 0 0]) ?_ 2 _ rfl;(with_reducible repeat (first|refine blk_drewN ?_ _|refine blk_drew ?_|refine blk_alloc ?_ _));refine blk_put (cs:=#[.bool t633,.slice none 0 0,.slice none 0 0]) ?_ 1 _ rfl;(with_reducible repeat (first|refine blk_drewN ?_ _|refine blk_drew ?_|refine blk_alloc ?_ _));refine blk_put (cs:=#[.bool false,.slice none 0 0,.slice none 0 0]) ?_ 0 _ rfl;(with_reducible repeat (first|refine blk_drewN ?_ _|refine blk_drew ?_|refine blk_alloc ?_ _));exact BK600.out) Tryd.underlying25 rfl (by kernel_rfl)) rfl ?_
    exact ⟨_,_,by first|rfl|(simp [errW_none,errW_some] <;> rfl)|(simp [*,errW_none,errW_some] <;> rfl),by (with_reducible repeat (first|apply Ra|apply Rn|apply Rd));exact Kd.R_mono (Kd.R_far (p:=⟨gb600,2,none⟩) (Kd.R_far (p:=⟨gb600,1,none⟩) (Kd.R_far (p:=⟨gb600,0,none⟩) (Kd.R_types HO636.out BK600.out (by decide)) (fun _ hk=>hk.2) (.bool t633)) (fun _ hk=>hk.2) (.slice Ao40 t634.length co40)) (fun _ hk=>hk.2) (.slice Ao41 t637.length co41)) (fun _ hk=>hk.1.1.1),by (with_reducible repeat (first|apply Ra|apply Rn|apply Rd));exact Kd.R_mono (Kd.R_far (p:=⟨gb600,2,none⟩) (Kd.R_far (p:=⟨gb600,1,none⟩) (Kd.R_far (p:=⟨gb600,0,none⟩) (Kd.R_types HO639.out BK600.out (by decide)) (fun _ hk=>hk.2) (.bool t633)) (fun _ hk=>hk.2) (.slice Ao40 t634.length co40)) (fun _ hk=>hk.2) (.slice Ao41 t637.length co41)) (fun _ hk=>hk.1.1.1),by repeat (first|with_reducible exact HB.out|apply ba|apply bn|apply b1|refine below_set ?_ GE600.out)⟩
 ·rw [if_neg c3] at H
  have c3b0 : decide (a0 < 0)=false:=decide_eq_false c3
  clear c3
  by_cases c42 : a0 ≥ 0
  ·rw [if_pos c42] at H
   have c42b0 : decide (0≤a0)=true:=decide_eq_true c42
   clear c42
   replace H:=Option.bind_eq_some_iff.mp H
   obtain ⟨t640,A430,H⟩:=H
   try dsimp only at H
   have A43:=Aside0.mk A430
   clear A430
   replace H:=Option.bind_eq_some_iff.mp H
   obtain ⟨t643,A440,H⟩:=H
   try dsimp only at H
   have A44:=Aside0.mk A440
   clear A440
   replace H:=Option.bind_eq_some_iff.mp H
   obtain ⟨⟨t646,t647,t650⟩,A450,H⟩:=H
   try dsimp only at H
   have A45:=Aside0.mk A450
   clear A450
   simp only [Option.some.injEq,Prod.mk.injEq] at H
   obtain ⟨rfl,rfl,rfl⟩:=H
   go_enter Tryd.func23,Tryd.ntmps23
   go_wp2_with (first|((with_reducible refine gate_dst (N:=4) rfl ?_);refine box_event ?hg (N:=4) ?hd (cs:=#[.bool false,.slice none 0 0,.slice none 0 0]) (t:=25) ?hr ?_;(case hd=>rfl);(case hg=>rfl);(case hr=>first|(go_simp;done)|(go_simp;(with_reducible rfl))|(go_simp;rfl)|(go_simp;simp only [hu,Int.emod_sub_emod]));intro gb600 hg w46 hbox hb;have n0_:=Aside0.mk (below_step (Hu HB.out) hb);have n1_:=Aside0.mk (hbox);have n2_:=Aside0.mk ((by rw [hg];exact (below_size (Hu HB.out)) : w.heap.size≤gb600));have n3_:=Aside0.mk ((by rw [hg];exact (below_size (Hu HB.out)) : w.heap.size≤gb600));clear HB;have HB:=n0_;have BK600:=n1_;have GW600:=n2_;have GE600:=n3_;clear n0_ n1_ n2_ n3_;clear hb hbox hg)|((with_reducible refine gate_callee (f:=49) rfl ?_);refine goesL_ (some 20) rfl rfl Tryd.func49 (by kernel_rfl) rfl #[.int .i64 a0] rfl (by (try simp only [List.map_toArray,List.map_cons,List.map_nil]);first|done|rfl) ?_;(with_reducible refine (penumbraref03_abs.calls k a0 t640 _ A43.out).mono ?_);rintro e w47 ⟨v641,rfl,ho0,hb⟩;refine ⟨_,rfl,?_⟩;have n0_:=Aside0.mk (Kd.R_lower ho0 (below_size (by repeat (first|with_reducible exact HB.out|apply ba|apply bn|apply b1|refine below_set ?_ GE600.out))));have n1_:=Aside0.mk (blk_below (g:=gb600) (o:=.cells #[.bool false,.slice none 0 0,.slice none 0 0] 25 (0,0)) (Bu BK600.out) hb);have n2_:=Aside0.mk (below_step (by repeat (first|with_reducible exact HB.out|apply ba|apply bn|apply b1|refine below_set ?_ GE600.out)) hb);clear BK600;clear HB;have HO642:=n0_;have BK600:=n1_;have HB:=n2_;clear n0_ n1_ n2_)|((with_reducible refine gate_callee (f:=49) rfl ?_);refine goesL_ (some 22) rfl rfl Tryd.func49 (by kernel_rfl) rfl #[.int .i64 a1] rfl (by (try simp only [List.map_toArray,List.map_cons,List.map_nil]);first|done|rfl) ?_;(with_reducible refine (penumbraref03_abs.calls k a1 t643 _ A44.out).mono ?_);rintro e w48 ⟨v644,rfl,ho0,hb⟩;refine ⟨_,rfl,?_⟩;have n0_:=Aside0.mk (Kd.R_elder' (Ru HO642.out) (Kd.R_base ho0) hb);have n1_:=Aside0.mk (Kd.R_lower (Kd.R_new' ho0 (Kd.R_lt (Ru HO642.out))) (below_size (by repeat (first|with_reducible exact HB.out|apply ba|apply bn|apply b1|refine below_set ?_ GE600.out))));have n2_:=Aside0.mk (blk_below (g:=gb600) (o:=.cells #[.bool false,.slice none 0 0,.slice none 0 0] 25 (0,0)) (Bu BK600.out) hb);have n3_:=Aside0.mk (below_step (by repeat (first|with_reducible exact HB.out|apply ba|apply bn|apply b1|refine below_set ?_ GE600.out)) hb);clear HO642;clear BK600;clear HB;have HO642:=n0_;have HO645:=n1_;have BK600:=n2_;have HB:=n3_;clear n0_ n1_ n2_ n3_;obtain ⟨Ao49,co49,eo49⟩:=Kd.R_slice HO645.out;subst eo49;obtain ⟨Ao50,co50,eo50⟩:=Kd.R_slice HO642.out;subst eo50)|((with_reducible refine gate_callee (f:=34) rfl ?_);refine goesL_ (some 24) rfl rfl Tryd.func34 (by kernel_rfl) rfl #[.agg #[.bool (decide (a1 < 0)),.slice Ao50 t640.length co50,.slice Ao49 t643.length co49]] rfl (by (try simp only [List.map_toArray,List.map_cons,List.map_nil]);first|done|rfl) ?_;(with_reducible refine (penumbraref03_Read.calls k (decide (a1 < 0)) _ _ t640 _ _ t643 t646 t647 t650 _ ?side1 ?side2 ?side3 ?side4 A45.out).mono ?_);(case side1=>exact Cu (Kd.R_reads' HO642.out).2.2);(case side2=>exact (Kd.R_reads' HO642.out).2.1);(case side3=>exact Cu (Kd.R_reads' HO645.out).2.2);(case side4=>exact (Kd.R_reads' HO645.out).2.1);rintro e w51 ⟨v648,v651,rfl,ho0,ho1,hb⟩;refine ⟨_,rfl,?_⟩;have n0_:=Aside0.mk (Kd.R_mono (Kd.R_told (Kd.R_told (Kd.R_old (Ru HO642.out) hb) (Kd.R_base ho0)) (Kd.R_base ho1)) (fun _ h_=>h_.1));have n1_:=Aside0.mk (Kd.R_mono (Kd.R_told (Kd.R_told (Kd.R_old (Ru HO645.out) hb) (Kd.R_base ho0)) (Kd.R_base ho1)) (fun _ h_=>h_.1));have n2_:=Aside0.mk (Kd.R_lower (Kd.R_new' (Kd.R_new' ho0 (Kd.R_lt (Ru HO642.out))) (Kd.R_lt (Ru HO645.out))) (below_size (by repeat (first|with_reducible exact HB.out|apply ba|apply bn|apply b1|refine below_set ?_ GE600.out))));have n3_:=Aside0.mk (Kd.R_lower (Kd.R_new' (Kd.R_new' ho1 (Kd.R_lt (Ru HO642.out))) (Kd.R_lt (Ru HO645.out))) (below_size (by repeat (first|with_reducible exact HB.out|apply ba|apply bn|apply b1|refine below_set ?_ GE600.out))));have n4_:=Aside0.mk (blk_below (g:=gb600) (o:=.cells #[.bool false,.slice none 0 0,.slice none 0 0] 25 (0,0)) (Bu BK600.out) hb);have n5_:=Aside0.mk (below_step (by repeat (first|with_reducible exact HB.out|apply ba|apply bn|apply b1|refine below_set ?_ GE600.out)) hb);clear HO642;clear HO645;clear BK600;clear HB;have HO642:=n0_;have HO645:=n1_;have HO649:=n2_;have HO652:=n3_;have BK600:=n4_;have HB:=n5_;clear n0_ n1_ n2_ n3_ n4_ n5_;have hcz52_0 : w51.cell? ⟨gb600,0,none⟩=some (.bool false):=(blk_cell BK600.out 0).trans rfl;have hcz52_1 : w51.cell? ⟨gb600,1,none⟩=some (.slice none 0 0):=(blk_cell BK600.out 1).trans rfl;have hcz52_2 : w51.cell? ⟨gb600,2,none⟩=some (.slice none 0 0):=(blk_cell BK600.out 2).trans rfl;have hfz52_0:=blk_frozen BK600.out 0;have hfz52_1:=blk_frozen BK600.out 1;have hfz52_2:=blk_frozen BK600.out 2;obtain ⟨Ao53,co53,eo53⟩:=Kd.R_slice HO649.out;subst eo53;obtain ⟨Ao54,co54,eo54⟩:=Kd.R_slice HO652.out;subst eo54))
   refine bodyPost_ret (results_cell_row rfl _ _ gb600 25 #[.bool t646,.slice Ao53 t647.length co53,.slice Ao54 t650.length co54] (0,0) _ rfl (by (with_reducible repeat (first|refine blk_drewN ?_ _|refine blk_drew ?_|refine blk_alloc ?_ _));refine blk_put (cs:=#[.bool t646,.slice Ao53 t647.length co53,.slice none 0 0]) ?_ 2 _ rfl;(with_reducible repeat (first|refine blk_drewN ?_ _|refine blk_drew ?_|refine blk_alloc ?_ _));refine blk_put (cs:=#[.bool t646,.slice none 0 0,.slice none 0 0]) ?_ 1 _ rfl;(with_reducible repeat (first|refine blk_drewN ?_ _|refine blk_drew ?_|refine blk_alloc ?_ _));refine blk_put (cs:=#[.bool false,.slice none 0 0,.slice none 0 0]) ?_ 0 _ rfl;(with_reducible repeat (first|refine blk_drewN ?_ _|refine blk_drew ?_|refine blk_alloc ?_ _));exact BK600.out) Tryd.underlying25 rfl (by kernel_rfl)) rfl ?_
   exact ⟨_,_,by first|rfl|(simp [errW_none,errW_some] <;> rfl)|(simp [*,errW_none,errW_some] <;> rfl),by (with_reducible repeat (first|apply Ra|apply Rn|apply Rd));exact Kd.R_mono (Kd.R_far (p:=⟨gb600,2,none⟩) (Kd.R_far (p:=⟨gb600,1,none⟩) (Kd.R_far (p:=⟨gb600,0,none⟩) (Kd.R_types HO649.out BK600.out (by decide)) (fun _ hk=>hk.2) (.bool t646)) (fun _ hk=>hk.2) (.slice Ao53 t647.length co53)) (fun _ hk=>hk.2) (.slice Ao54 t650.length co54)) (fun _ hk=>hk.1.1.1),by (with_reducible repeat (first|apply Ra|apply Rn|apply Rd));exact Kd.R_mono (Kd.R_far (p:=⟨gb600,2,none⟩) (Kd.R_far (p:=⟨gb600,1,none⟩) (Kd.R_far (p:=⟨gb600,0,none⟩) (Kd.R_types HO652.out BK600.out (by decide)) (fun _ hk=>hk.2) (.bool t646)) (fun _ hk=>hk.2) (.slice Ao53 t647.length co53)) (fun _ hk=>hk.2) (.slice Ao54 t650.length co54)) (fun _ hk=>hk.1.1.1),by repeat (first|with_reducible exact HB.out|apply ba|apply bn|apply b1|refine below_set ?_ GE600.out)⟩
  ·rw [if_neg c42] at H
   have c42b0 : decide (0≤a0)=false:=decide_eq_false c42
   clear c42
   replace H:=Option.bind_eq_some_iff.mp H
   obtain ⟨t653,A550,H⟩:=H
   try dsimp only at H
   have A55:=Aside0.mk A550
   clear A550
   replace H:=Option.bind_eq_some_iff.mp H
   obtain ⟨t656,A560,H⟩:=H
   try dsimp only at H
   have A56:=Aside0.mk A560
   clear A560
   replace H:=Option.bind_eq_some_iff.mp H
   obtain ⟨⟨t659,t660,t663⟩,A570,H⟩:=H
   try dsimp only at H
   have A57:=Aside0.mk A570
   clear A570
   simp only [Option.some.injEq,Prod.mk.injEq] at H
   obtain ⟨rfl,rfl,rfl⟩:=H
   go_enter Tryd.func23,Tryd.ntmps23
   go_wp2_with (first|((with_reducible refine gate_dst (N:=4) rfl ?_);refine box_event ?hg (N:=4) ?hd (cs:=#[.bool false,.slice none 0 0,.slice none 0 0]) (t:=25) ?hr ?_;(case hd=>rfl);(case hg=>rfl);(case hr=>first|(go_simp;done)|(go_simp;(with_reducible rfl))|(go_simp;rfl)|(go_simp;simp only [hu,Int.emod_sub_emod]));intro gb600 hg w58 hbox hb;have n0_:=Aside0.mk (below_step (Hu HB.out) hb);have n1_:=Aside0.mk (hbox);have n2_:=Aside0.mk ((by rw [hg];exact (below_size (Hu HB.out)) : w.heap.size≤gb600));have n3_:=Aside0.mk ((by rw [hg];exact (below_size (Hu HB.out)) : w.heap.size≤gb600));clear HB;have HB:=n0_;have BK600:=n1_;have GW600:=n2_;have GE600:=n3_;clear n0_ n1_ n2_ n3_;clear hb hbox hg)|((with_reducible refine gate_callee (f:=49) rfl ?_);refine goesL_ (some 20) rfl rfl Tryd.func49 (by kernel_rfl) rfl #[.int .i64 a0] rfl (by (try simp only [List.map_toArray,List.map_cons,List.map_nil]);first|done|rfl) ?_;(with_reducible refine (penumbraref03_abs.calls k a0 t653 _ A55.out).mono ?_);rintro e w59 ⟨v654,rfl,ho0,hb⟩;refine ⟨_,rfl,?_⟩;have n0_:=Aside0.mk (Kd.R_lower ho0 (below_size (by repeat (first|with_reducible exact HB.out|apply ba|apply bn|apply b1|refine below_set ?_ GE600.out))));have n1_:=Aside0.mk (blk_below (g:=gb600) (o:=.cells #[.bool false,.slice none 0 0,.slice none 0 0] 25 (0,0)) (Bu BK600.out) hb);have n2_:=Aside0.mk (below_step (by repeat (first|with_reducible exact HB.out|apply ba|apply bn|apply b1|refine below_set ?_ GE600.out)) hb);clear BK600;clear HB;have HO655:=n0_;have BK600:=n1_;have HB:=n2_;clear n0_ n1_ n2_)|((with_reducible refine gate_callee (f:=49) rfl ?_);refine goesL_ (some 22) rfl rfl Tryd.func49 (by kernel_rfl) rfl #[.int .i64 a1] rfl (by (try simp only [List.map_toArray,List.map_cons,List.map_nil]);first|done|rfl) ?_;(with_reducible refine (penumbraref03_abs.calls k a1 t656 _ A56.out).mono ?_);rintro e w60 ⟨v657,rfl,ho0,hb⟩;refine ⟨_,rfl,?_⟩;have n0_:=Aside0.mk (Kd.R_elder' (Ru HO655.out) (Kd.R_base ho0) hb);have n1_:=Aside0.mk (Kd.R_lower (Kd.R_new' ho0 (Kd.R_lt (Ru HO655.out))) (below_size (by repeat (first|with_reducible exact HB.out|apply ba|apply bn|apply b1|refine below_set ?_ GE600.out))));have n2_:=Aside0.mk (blk_below (g:=gb600) (o:=.cells #[.bool false,.slice none 0 0,.slice none 0 0] 25 (0,0)) (Bu BK600.out) hb);have n3_:=Aside0.mk (below_step (by repeat (first|with_reducible exact HB.out|apply ba|apply bn|apply b1|refine below_set ?_ GE600.out)) hb);clear HO655;clear BK600;clear HB;have HO655:=n0_;have HO658:=n1_;have BK600:=n2_;have HB:=n3_;clear n0_ n1_ n2_ n3_;obtain ⟨Ao61,co61,eo61⟩:=Kd.R_slice HO658.out;subst eo61;obtain ⟨Ao62,co62,eo62⟩:=Kd.R_slice HO655.out;subst eo62)|((with_reducible refine gate_callee (f:=34) rfl ?_);refine goesL_ (some 24) rfl rfl Tryd.func34 (by kernel_rfl) rfl #[.agg #[.bool false,.slice Ao62 t653.length co62,.slice Ao61 t656.length co61]] rfl (by (try simp only [List.map_toArray,List.map_cons,List.map_nil]);first|done|rfl) ?_;(with_reducible refine (penumbraref03_Read.calls k false _ _ t653 _ _ t656 t659 t660 t663 _ ?side1 ?side2 ?side3 ?side4 A57.out).mono ?_);(case side1=>exact Cu (Kd.R_reads' HO655.out).2.2);(case side2=>exact (Kd.R_reads' HO655.out).2.1);(case side3=>exact Cu (Kd.R_reads' HO658.out).2.2);(case side4=>exact (Kd.R_reads' HO658.out).2.1);rintro e w63 ⟨v661,v664,rfl,ho0,ho1,hb⟩;refine ⟨_,rfl,?_⟩;have n0_:=Aside0.mk (Kd.R_mono (Kd.R_told (Kd.R_told (Kd.R_old (Ru HO655.out) hb) (Kd.R_base ho0)) (Kd.R_base ho1)) (fun _ h_=>h_.1));have n1_:=Aside0.mk (Kd.R_mono (Kd.R_told (Kd.R_told (Kd.R_old (Ru HO658.out) hb) (Kd.R_base ho0)) (Kd.R_base ho1)) (fun _ h_=>h_.1));have n2_:=Aside0.mk (Kd.R_lower (Kd.R_new' (Kd.R_new' ho0 (Kd.R_lt (Ru HO655.out))) (Kd.R_lt (Ru HO658.out))) (below_size (by repeat (first|with_reducible exact HB.out|apply ba|apply bn|apply b1|refine below_set ?_ GE600.out))));have n3_:=Aside0.mk (Kd.R_lower (Kd.R_new' (Kd.R_new' ho1 (Kd.R_lt (Ru HO655.out))) (Kd.R_lt (Ru HO658.out))) (below_size (by repeat (first|with_reducible exact HB.out|apply ba|apply bn|apply b1|refine below_set ?_ GE600.out))));have n4_:=Aside0.mk (blk_below (g:=gb600) (o:=.cells #[.bool false,.slice none 0 0,.slice none 0 0] 25 (0,0)) (Bu BK600.out) hb);have n5_:=Aside0.mk (below_step (by repeat (first|with_reducible exact HB.out|apply ba|apply bn|apply b1|refine below_set ?_ GE600.out)) hb);clear HO655;clear HO658;clear BK600;clear HB;have HO655:=n0_;have HO658:=n1_;have HO662:=n2_;have HO665:=n3_;have BK600:=n4_;have HB:=n5_;clear n0_ n1_ n2_ n3_ n4_ n5_;have hcz64_0 : w63.cell? ⟨gb600,0,none⟩=some (.bool false):=(blk_cell BK600.out 0).trans rfl;have hcz64_1 : w63.cell? ⟨gb600,1,none⟩=some (.slice none 0 0):=(blk_cell BK600.out 1).trans rfl;have hcz64_2 : w63.cell? ⟨gb600,2,none⟩=some (.slice none 0 0):=(blk_cell BK600.out 2).trans rfl;have hfz64_0:=blk_frozen BK600.out 0;have hfz64_1:=blk_frozen BK600.out 1;have hfz64_2:=blk_frozen BK600.out 2;obtain ⟨Ao65,co65,eo65⟩:=Kd.R_slice HO662.out;subst eo65;obtain ⟨Ao66,co66,eo66⟩:=Kd.R_slice HO665.out;subst eo66))
   refine bodyPost_ret (results_cell_row rfl _ _ gb600 25 #[.bool t659,.slice Ao65 t660.length co65,.slice Ao66 t663.length co66] (0,0) _ rfl (by (with_reducible repeat (first|refine blk_drewN ?_ _|refine blk_drew ?_|refine blk_alloc ?_ _));refine blk_put (cs:=#[.bool t659,.slice Ao65 t660.length co65,.slice none 0 0]) ?_ 2 _ rfl;(with_reducible repeat (first|refine blk_drewN ?_ _|refine blk_drew ?_|refine blk_alloc ?_ _));refine blk_put (cs:=#[.bool t659,.slice none 0 0,.slice none 0 0]) ?_ 1 _ rfl;(with_reducible repeat (first|refine blk_drewN ?_ _|refine blk_drew ?_|refine blk_alloc ?_ _));refine blk_put (cs:=#[.bool false,.slice none 0 0,.slice none 0 0]) ?_ 0 _ rfl;(with_reducible repeat (first|refine blk_drewN ?_ _|refine blk_drew ?_|refine blk_alloc ?_ _));exact BK600.out) Tryd.underlying25 rfl (by kernel_rfl)) rfl ?_
   exact ⟨_,_,by first|rfl|(simp [errW_none,errW_some] <;> rfl)|(simp [*,errW_none,errW_some] <;> rfl),by (with_reducible repeat (first|apply Ra|apply Rn|apply Rd));exact Kd.R_mono (Kd.R_far (p:=⟨gb600,2,none⟩) (Kd.R_far (p:=⟨gb600,1,none⟩) (Kd.R_far (p:=⟨gb600,0,none⟩) (Kd.R_types HO662.out BK600.out (by decide)) (fun _ hk=>hk.2) (.bool t659)) (fun _ hk=>hk.2) (.slice Ao65 t660.length co65)) (fun _ hk=>hk.2) (.slice Ao66 t663.length co66)) (fun _ hk=>hk.1.1.1),by (with_reducible repeat (first|apply Ra|apply Rn|apply Rd));exact Kd.R_mono (Kd.R_far (p:=⟨gb600,2,none⟩) (Kd.R_far (p:=⟨gb600,1,none⟩) (Kd.R_far (p:=⟨gb600,0,none⟩) (Kd.R_types HO665.out BK600.out (by decide)) (fun _ hk=>hk.2) (.bool t659)) (fun _ hk=>hk.2) (.slice Ao65 t660.length co65)) (fun _ hk=>hk.2) (.slice Ao66 t663.length co66)) (fun _ hk=>hk.1.1.1),by repeat (first|with_reducible exact HB.out|apply ba|apply bn|apply b1|refine below_set ?_ GE600.out)⟩
end Go.Proofs.YtncdiodnbkhacaaDoor.Pq
end
end
