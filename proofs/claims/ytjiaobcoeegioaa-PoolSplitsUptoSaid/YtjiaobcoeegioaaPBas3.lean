import Derived.Test.YtjiaobcoeegioaaPBas2
set_option linter.unusedVariables false
set_option linter.unusedSimpArgs false
section
namespace Go.Proofs.Ytjiaobcoeegioaa.Pq
open Go.RowKit Go.Proofs.YtjiaobcoeegioaaW.PrintWords Go.Proofs.YtjiaobcoeegioaaW.PrintLast Go.Proofs.YtjiaobcoeegioaaW.PrintMore
attribute [local go_sem] max2_int min2_int max_two min_two max_three min_three max_four min_four
set_option linter.unusedVariables false
set_option linter.unusedSimpArgs false
set_option maxHeartbeats 8000000
set_option maxRecDepth 100000
theorem slices_Equal_uint32_uint32.calls (k : Nat) (A0 : Option Addr) (c0 : Nat) (l0 : List Int) (A1 : Option Addr) (c1 : Nat) (l1 : List Int) (r : Bool) (w : World) (hr0 : Kd.C (Kd.int .u32) w A0 l0.length l0) (hc0 : l0.length≤c0) (hr1 : Kd.C (Kd.int .u32) w A1 l1.length l1) (hc1 : l1.length≤c1) (h : slices_Equal_uint32_uint32.f k l0 l1=some r) :
  Calls Try.prog 46 #[.slice A0 l0.length c0,.slice A1 l1.length c1] w fun e w'=>e=.returned (.bool r)∧Drawn0 w w':=by
 have HR0:=Aside0.mk hr0
 have HC0:=Aside0.mk hc0
 clear hr0 hc0
 have HR1:=Aside0.mk hr1
 have HC1:=Aside0.mk hc1
 clear hr1 hc1
 have H : (if (l0.length : Int)=(l1.length : Int) then (slices_Equal_uint32_uint32.l0 k l0 l1 (l0.length : Int) 0) else (some false))=some r:=h
 clear h
 by_cases c3 : (l0.length : Int)=(l1.length : Int)
 ·rw [if_pos c3] at H
  have c3b0 : ((l0.length : Int) == (l1.length : Int))=true:=beq_iff_eq.mpr c3
  have c3b1 : ((l0.length : Int) != (l1.length : Int))=false:=bne_eq_false_iff_eq.mpr c3
  have c3b2 : (l0.length == l1.length)=true:=by first|simpa using c3|(simp at c3 ⊢;omega)
  clear c3
  have H':=Aside0.mk H
  clear H
  go_enter Try.func46,Try.ntmps46
  go_wp2
  repeat (go_quiet (fail);try go_wp2)
  go_loopg [13] k (fun kq v13 w'=>∃ (x13_1 : Int),v13=.int .i64 x13_1∧Aside0 (slices_Equal_uint32_uint32.l0 kq l0 l1 (l0.length : Int) x13_1=some r)∧Aside0 (kq≤k)∧Drawn0 w w')
  case atStart=>exact ⟨(0),(by first|rfl|(simp;done)|(simp [*];done)),H',⟨Nat.le_refl _⟩,by repeat (first|exact Drawn0.refl _|apply Drawn0.step)⟩
  case round =>
   clear H'
   try clear c1
   try clear p2
   try clear c3
   try clear c3b0
   try clear c3b1
   try clear c3b2
   obtain ⟨x13_1,rfl,HA,HK1,⟨m1,rfl⟩⟩:=hrel
   cases gk with
  |zero=>exact absurd HA.out (by simp [slices_Equal_uint32_uint32.l0])
  |succ k1 =>
    have H:=HA.out
    clear HA
    simp only [slices_Equal_uint32_uint32.l0] at H
    by_cases c4 : x13_1 < (l0.length : Int)
    ·rw [if_pos c4] at H
     have c4b0 : decide (x13_1 < (l0.length : Int))=true:=decide_eq_true c4
     clear c4
     by_cases c5 : 0≤x13_1
     ·rw [if_pos c5] at H
      have c5b0 : decide (0≤x13_1)=true:=decide_eq_true c5
      clear c5
      by_cases c6 : x13_1 < (l0.length : Int)
      ·rw [if_pos c6] at H
       have c6b0 : decide (x13_1 < (l0.length : Int))=true:=decide_eq_true c6
       clear c6
       by_cases c7 : x13_1 < (l1.length : Int)
       ·rw [if_pos c7] at H
        have c7b0 : decide (x13_1 < (l1.length : Int))=true:=decide_eq_true c7
        clear c7
        by_cases c8 : (rd l0 x13_1)=(rd l1 x13_1)
        ·rw [if_pos c8] at H
         have c8b0 : ((rd l0 x13_1) == (rd l1 x13_1))=true:=beq_iff_eq.mpr c8
         have c8b1 : ((rd l0 x13_1) != (rd l1 x13_1))=false:=bne_eq_false_iff_eq.mpr c8
         clear c8
         have H':=Aside0.mk H
         clear H
         have p268 : 0≤(x13_1 : Int):=of_decide_eq_true (by first|(with_reducible assumption)|assumption)
         have q268 : x13_1 < (l0.length : Int):=of_decide_eq_true (by first|(with_reducible assumption)|assumption)
         obtain ⟨ad268,e268,hx268_0⟩:=Kd.at_int HR0.out x13_1 p268 q268
         cases e268
         replace p268:=eq_true p268
         replace q268:=eq_true q268
         have p269 : 0≤(x13_1 : Int):=of_decide_eq_true (by first|(with_reducible assumption)|assumption)
         have q269 : x13_1 < (l1.length : Int):=of_decide_eq_true (by first|(with_reducible assumption)|assumption)
         obtain ⟨ad269,e269,hx269_0⟩:=Kd.at_int HR1.out x13_1 p269 q269
         cases e269
         replace p269:=eq_true p269
         replace q269:=eq_true q269
         go_wp2
         repeat (go_quiet (fail);try go_wp2)
         go_roundg k1
         case measure=>have:=HK1.out;omega
         case rel=>exact ⟨(wrap64 (x13_1+1)),(by first|rfl|(simp;done)|(simp [*];done)),H',⟨by have:=HK1.out;omega⟩,by repeat (first|exact Drawn0.refl _|apply Drawn0.step)⟩
        ·rw [if_neg c8] at H
         have c8b0 : ((rd l0 x13_1) == (rd l1 x13_1))=false:=beq_eq_false_iff_ne.mpr c8
         have c8b1 : ((rd l0 x13_1) != (rd l1 x13_1))=true:=bne_iff_ne.mpr c8
         obtain rfl:=Option.some.inj H
         have p268 : 0≤(x13_1 : Int):=of_decide_eq_true (by first|(with_reducible assumption)|assumption)
         have q268 : x13_1 < (l0.length : Int):=of_decide_eq_true (by first|(with_reducible assumption)|assumption)
         obtain ⟨ad268,e268,hx268_0⟩:=Kd.at_int HR0.out x13_1 p268 q268
         cases e268
         replace p268:=eq_true p268
         replace q268:=eq_true q268
         have p269 : 0≤(x13_1 : Int):=of_decide_eq_true (by first|(with_reducible assumption)|assumption)
         have q269 : x13_1 < (l1.length : Int):=of_decide_eq_true (by first|(with_reducible assumption)|assumption)
         obtain ⟨ad269,e269,hx269_0⟩:=Kd.at_int HR1.out x13_1 p269 q269
         cases e269
         replace p269:=eq_true p269
         replace q269:=eq_true q269
         go_wp2
         repeat (go_quiet (fail);try go_wp2)
         go_ret
         exact ⟨by first|rfl|(simp;done)|(simp [*];done),by repeat (first|exact Drawn0.refl _|apply Drawn0.step)⟩
       ·rw [if_neg c7] at H
        exact absurd H (by simp)
      ·rw [if_neg c6] at H
       exact absurd H (by simp)
     ·rw [if_neg c5] at H
      exact absurd H (by simp)
    ·rw [if_neg c4] at H
     have c4b0 : decide (x13_1 < (l0.length : Int))=false:=decide_eq_false c4
     clear c4
     obtain rfl:=Option.some.inj H
     go_wp2
     repeat (go_quiet (fail);try go_wp2)
     go_ret
     exact ⟨by first|rfl|(simp;done)|(simp [*];done),by repeat (first|exact Drawn0.refl _|apply Drawn0.step)⟩
 ·rw [if_neg c3] at H
  have c3b0 : ((l0.length : Int) == (l1.length : Int))=false:=beq_eq_false_iff_ne.mpr c3
  have c3b1 : ((l0.length : Int) != (l1.length : Int))=true:=bne_iff_ne.mpr c3
  have c3b2 : (l0.length == l1.length)=false:=by first|simpa using c3|(simp at c3 ⊢;omega)
  obtain rfl:=Option.some.inj H
  go_enter Try.func46,Try.ntmps46
  go_wp2
  repeat (go_quiet (fail);try go_wp2)
  go_ret
  exact ⟨by first|rfl|(simp;done)|(simp [*];done),by repeat (first|exact Drawn0.refl _|apply Drawn0.step)⟩
theorem rat_Check.calls (k : Nat) (a0_0 : Bool) (A0_1 : Option Addr) (c0_1 : Nat) (l0_1 : List Int) (A0_2 : Option Addr) (c0_2 : Nat) (l0_2 : List Int) (r : Bool) (w : World) (hr0_1 : Kd.C (Kd.int .u32) w A0_1 l0_1.length l0_1) (hc0_1 : l0_1.length≤c0_1) (hr0_2 : Kd.C (Kd.int .u32) w A0_2 l0_2.length l0_2) (hc0_2 : l0_2.length≤c0_2) (h : rat_Check.f k a0_0 l0_1 l0_2=some r) :
  Calls Try.prog 31 #[.agg #[.bool a0_0,.slice A0_1 l0_1.length c0_1,.slice A0_2 l0_2.length c0_2]] w fun e w'=>e=.returned (.bool r)∧Below w.heap.size w w':=by
 have hu63:=Try.underlying63
 have HR0_1:=Aside0.mk hr0_1
 have HC0_1:=Aside0.mk hc0_1
 clear hr0_1 hc0_1
 have HR0_2:=Aside0.mk hr0_2
 have HC0_2:=Aside0.mk hc0_2
 clear hr0_2 hc0_2
 have HB:=Aside0.mk (Below.refl w.heap.size w)
 have H : ((rat_Read.f k a0_0 l0_1 l0_2).bind fun bt271=>(if (bt271.1 == a0_0)=true then ((slices_Equal_uint32_uint32.f k bt271.2.1 l0_1).bind fun t279=>(if t279=true then ((slices_Equal_uint32_uint32.f k bt271.2.2 l0_2).bind fun t280=>(some t280)) else (some false))) else (some false)))=some r:=h
 clear h
 replace H:=Option.bind_eq_some_iff.mp H
 obtain ⟨⟨t271,t272,t275⟩,A20,H⟩:=H
 replace H : (if (t271 == a0_0)=true then ((slices_Equal_uint32_uint32.f k t272 l0_1).bind fun t279=>(if t279=true then ((slices_Equal_uint32_uint32.f k t275 l0_2).bind fun t280=>(some t280)) else (some false))) else (some false))=some r:=H
 have A2:=Aside0.mk A20
 clear A20
 by_cases c3 : (t271 == a0_0)=true
 ·rw [if_pos c3] at H
  have c3b0 : (t271 == a0_0)=true:=c3
  (try (have c3b1 : decide (t271=a0_0)=true:=by simpa using c3))
  (try (have c3b2 : (t271 == a0_0)=true:=by simpa using c3))
  clear c3
  replace H:=Option.bind_eq_some_iff.mp H
  obtain ⟨t279,A40,H⟩:=H
  replace H : (if t279=true then ((slices_Equal_uint32_uint32.f k t275 l0_2).bind fun t280=>(some t280)) else (some false))=some r:=H
  have A4:=Aside0.mk A40
  clear A40
  by_cases c5 : t279=true
  ·subst c5
   have H1 : ((slices_Equal_uint32_uint32.f k t275 l0_2).bind fun t280=>(some t280))=some r:=by rw [if_pos rfl] at H;exact H
   clear H
   have H:=H1
   clear H1
   replace H:=Option.bind_eq_some_iff.mp H
   obtain ⟨t280,A60,H⟩:=H
   replace H : (some t280)=some r:=H
   have A6:=Aside0.mk A60
   clear A60
   obtain rfl:=Option.some.inj H
   go_enter Try.func31,Try.ntmps31
   go_wp2_with (first|((with_reducible refine gate_dst (N:=1) rfl ?_);refine box_event ?hg (N:=1) ?hd (cs:=#[.bool a0_0,.slice A0_1 l0_1.length c0_1,.slice A0_2 l0_2.length c0_2]) (t:=63) ?hr ?_;(case hd=>rfl);(case hg=>rfl);(case hr=>first|(go_simp;done)|(go_simp;(with_reducible rfl))|(go_simp;rfl)|(go_simp;have hu_ : ∀ x : Int,IntKind.u32.wrap x=HMod.hMod x (4294967296 : Int):=(fun x=>by simp only [IntKind.wrap,IntKind.bits,IntKind.signed];simp);simp only [hu_,Int.emod_sub_emod]));intro gb270 hg w7 hbox hb;have n0_:=Aside0.mk (below_step (by repeat (first|(with_reducible first|exact HB.out|apply below_alloc|apply pw_below_drewN|apply below_drew1)|exact HB.out)) hb);have n1_:=Aside0.mk (hbox);have n2_:=Aside0.mk ((by rw [hg];exact (below_size (by repeat (first|(with_reducible first|exact HB.out|apply below_alloc|apply pw_below_drewN|apply below_drew1)|exact HB.out))) : w.heap.size≤gb270));have n3_:=Aside0.mk ((by rw [hg];exact (below_size (by repeat (first|(with_reducible first|exact HB.out|apply below_alloc|apply pw_below_drewN|apply below_drew1)|exact HB.out))) : w.heap.size≤gb270));clear HB;have HB:=n0_;have BK270:=n1_;have GW270:=n2_;have GE270:=n3_;clear n0_ n1_ n2_ n3_;clear hb hbox hg;have hcz8_0 : w7.cell? ⟨gb270,0,none⟩=some (.bool a0_0):=(blk_cell BK270.out 0).trans rfl;have hcz8_1 : w7.cell? ⟨gb270,1,none⟩=some (.slice A0_1 l0_1.length c0_1):=(blk_cell BK270.out 1).trans rfl;have hcz8_2 : w7.cell? ⟨gb270,2,none⟩=some (.slice A0_2 l0_2.length c0_2):=(blk_cell BK270.out 2).trans rfl;have hfz8_0:=blk_frozen BK270.out 0;have hfz8_1:=blk_frozen BK270.out 1;have hfz8_2:=blk_frozen BK270.out 2)|((with_reducible refine gate_callee (f:=41) rfl ?_);refine goesL_ (some 5) rfl rfl Try.func41 (by kernel_rfl) rfl #[.agg #[.bool a0_0,.slice A0_1 l0_1.length c0_1,.slice A0_2 l0_2.length c0_2]] rfl (by (try simp only [List.map_toArray,List.map_cons,List.map_nil]);first|done|rfl|(simp only [List.length_drop,List.length_take];rfl)) ?_;(with_reducible refine (rat_Read.calls k a0_0 _ _ l0_1 _ _ l0_2 t271 t272 t275 _ ?side1 ?side2 ?side3 ?side4 A2.out).mono ?_);(case side1=>repeat (first|exact (Kd.C_below HR0_1.out HB.out)|(with_reducible refine Kd.C_alloc ?_ _)|(with_reducible refine Kd.C_drewN ?_ _)|(with_reducible refine Kd.C_drew ?_)));(case side2=>exact HC0_1.out);(case side3=>repeat (first|exact (Kd.C_below HR0_2.out HB.out)|(with_reducible refine Kd.C_alloc ?_ _)|(with_reducible refine Kd.C_drewN ?_ _)|(with_reducible refine Kd.C_drew ?_)));(case side4=>exact HC0_2.out);rintro e w9 ⟨v273,v276,rfl,ho0,ho1,hb⟩;refine ⟨_,rfl,?_⟩;have n0_:=Aside0.mk (Kd.R_lower ho0 (below_size (by repeat (first|(with_reducible first|exact HB.out|apply below_alloc|apply pw_below_drewN|apply below_drew1|refine below_set ?_ GE270.out)|exact HB.out))));have n1_:=Aside0.mk (Kd.R_lower ho1 (below_size (by repeat (first|(with_reducible first|exact HB.out|apply below_alloc|apply pw_below_drewN|apply below_drew1|refine below_set ?_ GE270.out)|exact HB.out))));have n2_:=Aside0.mk (blk_below (g:=gb270) (o:=.cells #[.bool a0_0,.slice A0_1 l0_1.length c0_1,.slice A0_2 l0_2.length c0_2] 63 (0,0)) (by (with_reducible repeat (first|refine blk_drewN ?_ _|refine blk_drew ?_|refine blk_alloc ?_ _));exact BK270.out) hb);have n3_:=Aside0.mk (below_step (by repeat (first|(with_reducible first|exact HB.out|apply below_alloc|apply pw_below_drewN|apply below_drew1|refine below_set ?_ GE270.out)|exact HB.out)) hb);clear BK270;clear HB;have HO274:=n0_;have HO277:=n1_;have BK270:=n2_;have HB:=n3_;clear n0_ n1_ n2_ n3_;(try clear hb);(try clear hb2);(try clear hk);(try clear hi);(try clear ho0);(try clear ho1))|((with_reducible refine gate_dst (N:=3) rfl ?_);refine box_event ?hg (N:=3) ?hd (cs:=#[.bool false,.slice none 0 0,.slice none 0 0]) (t:=63) ?hr ?_;(case hd=>rfl);(case hg=>rfl);(case hr=>first|(go_simp;done)|(go_simp;(with_reducible rfl))|(go_simp;rfl)|(go_simp;have hu_ : ∀ x : Int,IntKind.u32.wrap x=HMod.hMod x (4294967296 : Int):=(fun x=>by simp only [IntKind.wrap,IntKind.bits,IntKind.signed];simp);simp only [hu_,Int.emod_sub_emod]));intro gb278 hg w10 hbox hb;have n0_:=Aside0.mk (Kd.R_below (by (with_reducible repeat (first|apply Kd.R_alloc|apply Kd.R_drewN|apply Kd.R_drew));exact HO274.out) hb);have n1_:=Aside0.mk (Kd.R_below (by (with_reducible repeat (first|apply Kd.R_alloc|apply Kd.R_drewN|apply Kd.R_drew));exact HO277.out) hb);have n2_:=Aside0.mk (blk_below (g:=gb270) (o:=.cells #[.bool a0_0,.slice A0_1 l0_1.length c0_1,.slice A0_2 l0_2.length c0_2] 63 (0,0)) (by (with_reducible repeat (first|refine blk_drewN ?_ _|refine blk_drew ?_|refine blk_alloc ?_ _));exact BK270.out) hb);have n3_:=Aside0.mk (below_step (by repeat (first|(with_reducible first|exact HB.out|apply below_alloc|apply pw_below_drewN|apply below_drew1|refine below_set ?_ GE270.out)|exact HB.out)) hb);have n4_:=Aside0.mk (hbox);have n5_:=Aside0.mk ((by rw [hg];exact (below_size (by repeat (first|(with_reducible first|exact HB.out|apply below_alloc|apply pw_below_drewN|apply below_drew1|refine below_set ?_ GE270.out)|exact HB.out))) : w.heap.size≤gb278));have n6_:=Aside0.mk ((by rw [hg];exact (below_size (by repeat (first|(with_reducible first|exact HB.out|apply below_alloc|apply pw_below_drewN|apply below_drew1|refine below_set ?_ GE270.out)|exact HB.out))) : w.heap.size≤gb278));have n7_:=Aside0.mk ((by rw [hg];exact Nat.ne_of_lt (blk_lt (g:=gb270) (o:=.cells #[.bool a0_0,.slice A0_1 l0_1.length c0_1,.slice A0_2 l0_2.length c0_2] 63 (0,0)) (by (with_reducible repeat (first|refine blk_drewN ?_ _|refine blk_drew ?_|refine blk_alloc ?_ _));exact BK270.out)) : gb270≠gb278));have n8_:=Aside0.mk ((by rw [hg];exact Nat.ne_of_gt (blk_lt (g:=gb270) (o:=.cells #[.bool a0_0,.slice A0_1 l0_1.length c0_1,.slice A0_2 l0_2.length c0_2] 63 (0,0)) (by (with_reducible repeat (first|refine blk_drewN ?_ _|refine blk_drew ?_|refine blk_alloc ?_ _));exact BK270.out)) : gb278≠gb270));clear HO274;clear HO277;clear BK270;clear HB;have HO274:=n0_;have HO277:=n1_;have BK270:=n2_;have HB:=n3_;have BK278:=n4_;have GW278:=n5_;have GE278:=n6_;have NB270_278:=n7_;have NB278_270:=n8_;clear n0_ n1_ n2_ n3_ n4_ n5_ n6_ n7_ n8_;clear hb hbox hg;have hnb11:=NB278_270.out;have hnc11:=NB270_278.out;have hcz12_0 : w10.cell? ⟨gb278,0,none⟩=some (.bool false):=(blk_cell BK278.out 0).trans rfl;have hcz12_1 : w10.cell? ⟨gb278,1,none⟩=some (.slice none 0 0):=(blk_cell BK278.out 1).trans rfl;have hcz12_2 : w10.cell? ⟨gb278,2,none⟩=some (.slice none 0 0):=(blk_cell BK278.out 2).trans rfl;have hfz12_0:=blk_frozen BK278.out 0;have hfz12_1:=blk_frozen BK278.out 1;have hfz12_2:=blk_frozen BK278.out 2;obtain ⟨Ao13,co13,eo13⟩:=Kd.R_slice HO274.out;subst eo13;obtain ⟨Ao14,co14,eo14⟩:=Kd.R_slice HO277.out;subst eo14;have hcz15_0 : w10.cell? ⟨gb270,0,none⟩=some (.bool a0_0):=(blk_cell BK270.out 0).trans rfl;have hcz15_1 : w10.cell? ⟨gb270,1,none⟩=some (.slice A0_1 l0_1.length c0_1):=(blk_cell BK270.out 1).trans rfl;have hcz15_2 : w10.cell? ⟨gb270,2,none⟩=some (.slice A0_2 l0_2.length c0_2):=(blk_cell BK270.out 2).trans rfl;have hfz15_0:=blk_frozen BK270.out 0;have hfz15_1:=blk_frozen BK270.out 1;have hfz15_2:=blk_frozen BK270.out 2)|(go_at_call 46;(with_reducible refine (slices_Equal_uint32_uint32.calls k _ _ t272 _ _ l0_1 true _ ?side1 ?side2 ?side3 ?side4 A4.out).mono ?_);(case side1=>refine (Kd.R_reads' (e:=82) (base:=w.heap.size) (ok:=fun k_=>some k_≠(.slice Ao14 t275.length co14 : Value).ownBlock) (n:=t272.length) (c:=co13) ?_).2.2;exact (by (with_reducible repeat (first|apply Kd.R_alloc|apply Kd.R_drewN|apply Kd.R_drew));exact (Kd.R_mono (Kd.R_far (p:=⟨gb278,2,none⟩) (Kd.R_far (p:=⟨gb278,1,none⟩) (Kd.R_far (p:=⟨gb278,0,none⟩) (Kd.R_types HO274.out BK278.out (by decide)) (fun _ hk=>hk.2) (.bool t271)) (fun _ hk=>hk.2) (.slice Ao13 t272.length co13)) (fun _ hk=>hk.2) (.slice Ao14 t275.length co14)) (fun _ h_=>h_.1))));(case side2=>exact (Kd.R_reads' HO274.out).2.1);(case side3=>exact Kd.C_below HR0_1.out (by repeat (first|(with_reducible first|exact HB.out|apply below_alloc|apply pw_below_drewN|apply below_drew1|refine below_set ?_ GE270.out|refine below_set ?_ GE278.out)|exact HB.out)));(case side4=>exact HC0_1.out);rintro e w' ⟨rfl,⟨nd,rfl⟩⟩)|(go_at_call 46;(with_reducible refine (slices_Equal_uint32_uint32.calls k _ _ t275 _ _ l0_2 t280 _ ?side1 ?side2 ?side3 ?side4 A6.out).mono ?_);(case side1=>refine (Kd.R_reads' (e:=82) (base:=w.heap.size) (ok:=fun k_=>some k_≠(.slice Ao13 t272.length co13 : Value).ownBlock) (n:=t275.length) (c:=co14) ?_).2.2;exact (by (with_reducible repeat (first|apply Kd.R_alloc|apply Kd.R_drewN|apply Kd.R_drew));exact (Kd.R_mono (Kd.R_far (p:=⟨gb278,2,none⟩) (Kd.R_far (p:=⟨gb278,1,none⟩) (Kd.R_far (p:=⟨gb278,0,none⟩) (Kd.R_types HO277.out BK278.out (by decide)) (fun _ hk=>hk.2) (.bool t271)) (fun _ hk=>hk.2) (.slice Ao13 t272.length co13)) (fun _ hk=>hk.2) (.slice Ao14 t275.length co14)) (fun _ h_=>h_.1))));(case side2=>exact (Kd.R_reads' HO277.out).2.1);(case side3=>exact Kd.C_below HR0_2.out (by repeat (first|(with_reducible first|exact HB.out|apply below_alloc|apply pw_below_drewN|apply below_drew1|refine below_set ?_ GE270.out|refine below_set ?_ GE278.out)|exact HB.out)));(case side4=>exact HC0_2.out);rintro e w' ⟨rfl,⟨nd,rfl⟩⟩))
   go_ret
   exact ⟨by first|rfl|(simp [errW_none,errW_some] <;> rfl)|(simp [*,errW_none,errW_some] <;> rfl),by repeat (first|(with_reducible first|exact HB.out|apply below_alloc|apply pw_below_drewN|apply below_drew1|refine below_set ?_ GE270.out|refine below_set ?_ GE278.out)|exact HB.out)⟩
  ·replace c5:=Bool.eq_false_iff.mpr c5
   subst c5
   have H1 : (some false)=some r:=by rw [if_neg (show ¬ (false=true) by decide)] at H;exact H
   clear H
   have H:=H1
   clear H1
   obtain rfl:=Option.some.inj H
   go_enter Try.func31,Try.ntmps31
   go_wp2_with (first|((with_reducible refine gate_dst (N:=1) rfl ?_);refine box_event ?hg (N:=1) ?hd (cs:=#[.bool a0_0,.slice A0_1 l0_1.length c0_1,.slice A0_2 l0_2.length c0_2]) (t:=63) ?hr ?_;(case hd=>rfl);(case hg=>rfl);(case hr=>first|(go_simp;done)|(go_simp;(with_reducible rfl))|(go_simp;rfl)|(go_simp;have hu_ : ∀ x : Int,IntKind.u32.wrap x=HMod.hMod x (4294967296 : Int):=(fun x=>by simp only [IntKind.wrap,IntKind.bits,IntKind.signed];simp);simp only [hu_,Int.emod_sub_emod]));intro gb270 hg w16 hbox hb;have n0_:=Aside0.mk (below_step (by repeat (first|(with_reducible first|exact HB.out|apply below_alloc|apply pw_below_drewN|apply below_drew1)|exact HB.out)) hb);have n1_:=Aside0.mk (hbox);have n2_:=Aside0.mk ((by rw [hg];exact (below_size (by repeat (first|(with_reducible first|exact HB.out|apply below_alloc|apply pw_below_drewN|apply below_drew1)|exact HB.out))) : w.heap.size≤gb270));have n3_:=Aside0.mk ((by rw [hg];exact (below_size (by repeat (first|(with_reducible first|exact HB.out|apply below_alloc|apply pw_below_drewN|apply below_drew1)|exact HB.out))) : w.heap.size≤gb270));clear HB;have HB:=n0_;have BK270:=n1_;have GW270:=n2_;have GE270:=n3_;clear n0_ n1_ n2_ n3_;clear hb hbox hg;have hcz17_0 : w16.cell? ⟨gb270,0,none⟩=some (.bool a0_0):=(blk_cell BK270.out 0).trans rfl;have hcz17_1 : w16.cell? ⟨gb270,1,none⟩=some (.slice A0_1 l0_1.length c0_1):=(blk_cell BK270.out 1).trans rfl;have hcz17_2 : w16.cell? ⟨gb270,2,none⟩=some (.slice A0_2 l0_2.length c0_2):=(blk_cell BK270.out 2).trans rfl;have hfz17_0:=blk_frozen BK270.out 0;have hfz17_1:=blk_frozen BK270.out 1;have hfz17_2:=blk_frozen BK270.out 2)|((with_reducible refine gate_callee (f:=41) rfl ?_);refine goesL_ (some 5) rfl rfl Try.func41 (by kernel_rfl) rfl #[.agg #[.bool a0_0,.slice A0_1 l0_1.length c0_1,.slice A0_2 l0_2.length c0_2]] rfl (by (try simp only [List.map_toArray,List.map_cons,List.map_nil]);first|done|rfl|(simp only [List.length_drop,List.length_take];rfl)) ?_;(with_reducible refine (rat_Read.calls k a0_0 _ _ l0_1 _ _ l0_2 t271 t272 t275 _ ?side1 ?side2 ?side3 ?side4 A2.out).mono ?_);(case side1=>repeat (first|exact (Kd.C_below HR0_1.out HB.out)|(with_reducible refine Kd.C_alloc ?_ _)|(with_reducible refine Kd.C_drewN ?_ _)|(with_reducible refine Kd.C_drew ?_)));(case side2=>exact HC0_1.out);(case side3=>repeat (first|exact (Kd.C_below HR0_2.out HB.out)|(with_reducible refine Kd.C_alloc ?_ _)|(with_reducible refine Kd.C_drewN ?_ _)|(with_reducible refine Kd.C_drew ?_)));(case side4=>exact HC0_2.out);rintro e w18 ⟨v273,v276,rfl,ho0,ho1,hb⟩;refine ⟨_,rfl,?_⟩;have n0_:=Aside0.mk (Kd.R_lower ho0 (below_size (by repeat (first|(with_reducible first|exact HB.out|apply below_alloc|apply pw_below_drewN|apply below_drew1|refine below_set ?_ GE270.out)|exact HB.out))));have n1_:=Aside0.mk (Kd.R_lower ho1 (below_size (by repeat (first|(with_reducible first|exact HB.out|apply below_alloc|apply pw_below_drewN|apply below_drew1|refine below_set ?_ GE270.out)|exact HB.out))));have n2_:=Aside0.mk (blk_below (g:=gb270) (o:=.cells #[.bool a0_0,.slice A0_1 l0_1.length c0_1,.slice A0_2 l0_2.length c0_2] 63 (0,0)) (by (with_reducible repeat (first|refine blk_drewN ?_ _|refine blk_drew ?_|refine blk_alloc ?_ _));exact BK270.out) hb);have n3_:=Aside0.mk (below_step (by repeat (first|(with_reducible first|exact HB.out|apply below_alloc|apply pw_below_drewN|apply below_drew1|refine below_set ?_ GE270.out)|exact HB.out)) hb);clear BK270;clear HB;have HO274:=n0_;have HO277:=n1_;have BK270:=n2_;have HB:=n3_;clear n0_ n1_ n2_ n3_;(try clear hb);(try clear hb2);(try clear hk);(try clear hi);(try clear ho0);(try clear ho1))|((with_reducible refine gate_dst (N:=3) rfl ?_);refine box_event ?hg (N:=3) ?hd (cs:=#[.bool false,.slice none 0 0,.slice none 0 0]) (t:=63) ?hr ?_;(case hd=>rfl);(case hg=>rfl);(case hr=>first|(go_simp;done)|(go_simp;(with_reducible rfl))|(go_simp;rfl)|(go_simp;have hu_ : ∀ x : Int,IntKind.u32.wrap x=HMod.hMod x (4294967296 : Int):=(fun x=>by simp only [IntKind.wrap,IntKind.bits,IntKind.signed];simp);simp only [hu_,Int.emod_sub_emod]));intro gb278 hg w19 hbox hb;have n0_:=Aside0.mk (Kd.R_below (by (with_reducible repeat (first|apply Kd.R_alloc|apply Kd.R_drewN|apply Kd.R_drew));exact HO274.out) hb);have n1_:=Aside0.mk (Kd.R_below (by (with_reducible repeat (first|apply Kd.R_alloc|apply Kd.R_drewN|apply Kd.R_drew));exact HO277.out) hb);have n2_:=Aside0.mk (blk_below (g:=gb270) (o:=.cells #[.bool a0_0,.slice A0_1 l0_1.length c0_1,.slice A0_2 l0_2.length c0_2] 63 (0,0)) (by (with_reducible repeat (first|refine blk_drewN ?_ _|refine blk_drew ?_|refine blk_alloc ?_ _));exact BK270.out) hb);have n3_:=Aside0.mk (below_step (by repeat (first|(with_reducible first|exact HB.out|apply below_alloc|apply pw_below_drewN|apply below_drew1|refine below_set ?_ GE270.out)|exact HB.out)) hb);have n4_:=Aside0.mk (hbox);have n5_:=Aside0.mk ((by rw [hg];exact (below_size (by repeat (first|(with_reducible first|exact HB.out|apply below_alloc|apply pw_below_drewN|apply below_drew1|refine below_set ?_ GE270.out)|exact HB.out))) : w.heap.size≤gb278));have n6_:=Aside0.mk ((by rw [hg];exact (below_size (by repeat (first|(with_reducible first|exact HB.out|apply below_alloc|apply pw_below_drewN|apply below_drew1|refine below_set ?_ GE270.out)|exact HB.out))) : w.heap.size≤gb278));have n7_:=Aside0.mk ((by rw [hg];exact Nat.ne_of_lt (blk_lt (g:=gb270) (o:=.cells #[.bool a0_0,.slice A0_1 l0_1.length c0_1,.slice A0_2 l0_2.length c0_2] 63 (0,0)) (by (with_reducible repeat (first|refine blk_drewN ?_ _|refine blk_drew ?_|refine blk_alloc ?_ _));exact BK270.out)) : gb270≠gb278));have n8_:=Aside0.mk ((by rw [hg];exact Nat.ne_of_gt (blk_lt (g:=gb270) (o:=.cells #[.bool a0_0,.slice A0_1 l0_1.length c0_1,.slice A0_2 l0_2.length c0_2] 63 (0,0)) (by (with_reducible repeat (first|refine blk_drewN ?_ _|refine blk_drew ?_|refine blk_alloc ?_ _));exact BK270.out)) : gb278≠gb270));clear HO274;clear HO277;clear BK270;clear HB;have HO274:=n0_;have HO277:=n1_;have BK270:=n2_;have HB:=n3_;have BK278:=n4_;have GW278:=n5_;have GE278:=n6_;have NB270_278:=n7_;have NB278_270:=n8_;clear n0_ n1_ n2_ n3_ n4_ n5_ n6_ n7_ n8_;clear hb hbox hg;have hnb20:=NB278_270.out;have hnc20:=NB270_278.out;have hcz21_0 : w19.cell? ⟨gb278,0,none⟩=some (.bool false):=(blk_cell BK278.out 0).trans rfl;have hcz21_1 : w19.cell? ⟨gb278,1,none⟩=some (.slice none 0 0):=(blk_cell BK278.out 1).trans rfl;have hcz21_2 : w19.cell? ⟨gb278,2,none⟩=some (.slice none 0 0):=(blk_cell BK278.out 2).trans rfl;have hfz21_0:=blk_frozen BK278.out 0;have hfz21_1:=blk_frozen BK278.out 1;have hfz21_2:=blk_frozen BK278.out 2;obtain ⟨Ao22,co22,eo22⟩:=Kd.R_slice HO274.out;subst eo22;obtain ⟨Ao23,co23,eo23⟩:=Kd.R_slice HO277.out;subst eo23;have hcz24_0 : w19.cell? ⟨gb270,0,none⟩=some (.bool a0_0):=(blk_cell BK270.out 0).trans rfl;have hcz24_1 : w19.cell? ⟨gb270,1,none⟩=some (.slice A0_1 l0_1.length c0_1):=(blk_cell BK270.out 1).trans rfl;have hcz24_2 : w19.cell? ⟨gb270,2,none⟩=some (.slice A0_2 l0_2.length c0_2):=(blk_cell BK270.out 2).trans rfl;have hfz24_0:=blk_frozen BK270.out 0;have hfz24_1:=blk_frozen BK270.out 1;have hfz24_2:=blk_frozen BK270.out 2)|(go_at_call 46;(with_reducible refine (slices_Equal_uint32_uint32.calls k _ _ t272 _ _ l0_1 false _ ?side1 ?side2 ?side3 ?side4 A4.out).mono ?_);(case side1=>refine (Kd.R_reads' (e:=82) (base:=w.heap.size) (ok:=fun k_=>some k_≠(.slice Ao23 t275.length co23 : Value).ownBlock) (n:=t272.length) (c:=co22) ?_).2.2;exact (by (with_reducible repeat (first|apply Kd.R_alloc|apply Kd.R_drewN|apply Kd.R_drew));exact (Kd.R_mono (Kd.R_far (p:=⟨gb278,2,none⟩) (Kd.R_far (p:=⟨gb278,1,none⟩) (Kd.R_far (p:=⟨gb278,0,none⟩) (Kd.R_types HO274.out BK278.out (by decide)) (fun _ hk=>hk.2) (.bool t271)) (fun _ hk=>hk.2) (.slice Ao22 t272.length co22)) (fun _ hk=>hk.2) (.slice Ao23 t275.length co23)) (fun _ h_=>h_.1))));(case side2=>exact (Kd.R_reads' HO274.out).2.1);(case side3=>exact Kd.C_below HR0_1.out (by repeat (first|(with_reducible first|exact HB.out|apply below_alloc|apply pw_below_drewN|apply below_drew1|refine below_set ?_ GE270.out|refine below_set ?_ GE278.out)|exact HB.out)));(case side4=>exact HC0_1.out);rintro e w' ⟨rfl,⟨nd,rfl⟩⟩))
   go_ret
   exact ⟨by first|rfl|(simp [errW_none,errW_some] <;> rfl)|(simp [*,errW_none,errW_some] <;> rfl),by repeat (first|(with_reducible first|exact HB.out|apply below_alloc|apply pw_below_drewN|apply below_drew1|refine below_set ?_ GE270.out|refine below_set ?_ GE278.out)|exact HB.out)⟩
 ·rw [if_neg c3] at H
  have c3b0 : (t271 == a0_0)=false:=by simpa using c3
  (try (have c3b1 : decide (t271=a0_0)=false:=by simpa using c3))
  (try (have c3b2 : (t271 == a0_0)=false:=by simpa using c3))
  (try (have c3b3 : ¬ (t271=a0_0):=by simpa using c3))
  clear c3
  obtain rfl:=Option.some.inj H
  go_enter Try.func31,Try.ntmps31
  go_wp2_with (first|((with_reducible refine gate_dst (N:=1) rfl ?_);refine box_event ?hg (N:=1) ?hd (cs:=#[.bool a0_0,.slice A0_1 l0_1.length c0_1,.slice A0_2 l0_2.length c0_2]) (t:=63) ?hr ?_;(case hd=>rfl);(case hg=>rfl);(case hr=>first|(go_simp;done)|(go_simp;(with_reducible rfl))|(go_simp;rfl)|(go_simp;have hu_ : ∀ x : Int,IntKind.u32.wrap x=HMod.hMod x (4294967296 : Int):=(fun x=>by simp only [IntKind.wrap,IntKind.bits,IntKind.signed];simp);simp only [hu_,Int.emod_sub_emod]));intro gb270 hg w25 hbox hb;have n0_:=Aside0.mk (below_step (by repeat (first|(with_reducible first|exact HB.out|apply below_alloc|apply pw_below_drewN|apply below_drew1)|exact HB.out)) hb);have n1_:=Aside0.mk (hbox);have n2_:=Aside0.mk ((by rw [hg];exact (below_size (by repeat (first|(with_reducible first|exact HB.out|apply below_alloc|apply pw_below_drewN|apply below_drew1)|exact HB.out))) : w.heap.size≤gb270));have n3_:=Aside0.mk ((by rw [hg];exact (below_size (by repeat (first|(with_reducible first|exact HB.out|apply below_alloc|apply pw_below_drewN|apply below_drew1)|exact HB.out))) : w.heap.size≤gb270));clear HB;have HB:=n0_;have BK270:=n1_;have GW270:=n2_;have GE270:=n3_;clear n0_ n1_ n2_ n3_;clear hb hbox hg;have hcz26_0 : w25.cell? ⟨gb270,0,none⟩=some (.bool a0_0):=(blk_cell BK270.out 0).trans rfl;have hcz26_1 : w25.cell? ⟨gb270,1,none⟩=some (.slice A0_1 l0_1.length c0_1):=(blk_cell BK270.out 1).trans rfl;have hcz26_2 : w25.cell? ⟨gb270,2,none⟩=some (.slice A0_2 l0_2.length c0_2):=(blk_cell BK270.out 2).trans rfl;have hfz26_0:=blk_frozen BK270.out 0;have hfz26_1:=blk_frozen BK270.out 1;have hfz26_2:=blk_frozen BK270.out 2)|((with_reducible refine gate_callee (f:=41) rfl ?_);refine goesL_ (some 5) rfl rfl Try.func41 (by kernel_rfl) rfl #[.agg #[.bool a0_0,.slice A0_1 l0_1.length c0_1,.slice A0_2 l0_2.length c0_2]] rfl (by (try simp only [List.map_toArray,List.map_cons,List.map_nil]);first|done|rfl|(simp only [List.length_drop,List.length_take];rfl)) ?_;(with_reducible refine (rat_Read.calls k a0_0 _ _ l0_1 _ _ l0_2 t271 t272 t275 _ ?side1 ?side2 ?side3 ?side4 A2.out).mono ?_);(case side1=>repeat (first|exact (Kd.C_below HR0_1.out HB.out)|(with_reducible refine Kd.C_alloc ?_ _)|(with_reducible refine Kd.C_drewN ?_ _)|(with_reducible refine Kd.C_drew ?_)));(case side2=>exact HC0_1.out);(case side3=>repeat (first|exact (Kd.C_below HR0_2.out HB.out)|(with_reducible refine Kd.C_alloc ?_ _)|(with_reducible refine Kd.C_drewN ?_ _)|(with_reducible refine Kd.C_drew ?_)));(case side4=>exact HC0_2.out);rintro e w27 ⟨v273,v276,rfl,ho0,ho1,hb⟩;refine ⟨_,rfl,?_⟩;have n0_:=Aside0.mk (Kd.R_lower ho0 (below_size (by repeat (first|(with_reducible first|exact HB.out|apply below_alloc|apply pw_below_drewN|apply below_drew1|refine below_set ?_ GE270.out)|exact HB.out))));have n1_:=Aside0.mk (Kd.R_lower ho1 (below_size (by repeat (first|(with_reducible first|exact HB.out|apply below_alloc|apply pw_below_drewN|apply below_drew1|refine below_set ?_ GE270.out)|exact HB.out))));have n2_:=Aside0.mk (blk_below (g:=gb270) (o:=.cells #[.bool a0_0,.slice A0_1 l0_1.length c0_1,.slice A0_2 l0_2.length c0_2] 63 (0,0)) (by (with_reducible repeat (first|refine blk_drewN ?_ _|refine blk_drew ?_|refine blk_alloc ?_ _));exact BK270.out) hb);have n3_:=Aside0.mk (below_step (by repeat (first|(with_reducible first|exact HB.out|apply below_alloc|apply pw_below_drewN|apply below_drew1|refine below_set ?_ GE270.out)|exact HB.out)) hb);clear BK270;clear HB;have HO274:=n0_;have HO277:=n1_;have BK270:=n2_;have HB:=n3_;clear n0_ n1_ n2_ n3_;(try clear hb);(try clear hb2);(try clear hk);(try clear hi);(try clear ho0);(try clear ho1))|((with_reducible refine gate_dst (N:=3) rfl ?_);refine box_event ?hg (N:=3) ?hd (cs:=#[.bool false,.slice none 0 0,.slice none 0 0]) (t:=63) ?hr ?_;(case hd=>rfl);(case hg=>rfl);(case hr=>first|(go_simp;done)|(go_simp;(with_reducible rfl))|(go_simp;rfl)|(go_simp;have hu_ : ∀ x : Int,IntKind.u32.wrap x=HMod.hMod x (4294967296 : Int):=(fun x=>by simp only [IntKind.wrap,IntKind.bits,IntKind.signed];simp);simp only [hu_,Int.emod_sub_emod]));intro gb278 hg w28 hbox hb;have n0_:=Aside0.mk (Kd.R_below (by (with_reducible repeat (first|apply Kd.R_alloc|apply Kd.R_drewN|apply Kd.R_drew));exact HO274.out) hb);have n1_:=Aside0.mk (Kd.R_below (by (with_reducible repeat (first|apply Kd.R_alloc|apply Kd.R_drewN|apply Kd.R_drew));exact HO277.out) hb);have n2_:=Aside0.mk (blk_below (g:=gb270) (o:=.cells #[.bool a0_0,.slice A0_1 l0_1.length c0_1,.slice A0_2 l0_2.length c0_2] 63 (0,0)) (by (with_reducible repeat (first|refine blk_drewN ?_ _|refine blk_drew ?_|refine blk_alloc ?_ _));exact BK270.out) hb);have n3_:=Aside0.mk (below_step (by repeat (first|(with_reducible first|exact HB.out|apply below_alloc|apply pw_below_drewN|apply below_drew1|refine below_set ?_ GE270.out)|exact HB.out)) hb);have n4_:=Aside0.mk (hbox);have n5_:=Aside0.mk ((by rw [hg];exact (below_size (by repeat (first|(with_reducible first|exact HB.out|apply below_alloc|apply pw_below_drewN|apply below_drew1|refine below_set ?_ GE270.out)|exact HB.out))) : w.heap.size≤gb278));have n6_:=Aside0.mk ((by rw [hg];exact (below_size (by repeat (first|(with_reducible first|exact HB.out|apply below_alloc|apply pw_below_drewN|apply below_drew1|refine below_set ?_ GE270.out)|exact HB.out))) : w.heap.size≤gb278));have n7_:=Aside0.mk ((by rw [hg];exact Nat.ne_of_lt (blk_lt (g:=gb270) (o:=.cells #[.bool a0_0,.slice A0_1 l0_1.length c0_1,.slice A0_2 l0_2.length c0_2] 63 (0,0)) (by (with_reducible repeat (first|refine blk_drewN ?_ _|refine blk_drew ?_|refine blk_alloc ?_ _));exact BK270.out)) : gb270≠gb278));have n8_:=Aside0.mk ((by rw [hg];exact Nat.ne_of_gt (blk_lt (g:=gb270) (o:=.cells #[.bool a0_0,.slice A0_1 l0_1.length c0_1,.slice A0_2 l0_2.length c0_2] 63 (0,0)) (by (with_reducible repeat (first|refine blk_drewN ?_ _|refine blk_drew ?_|refine blk_alloc ?_ _));exact BK270.out)) : gb278≠gb270));clear HO274;clear HO277;clear BK270;clear HB;have HO274:=n0_;have HO277:=n1_;have BK270:=n2_;have HB:=n3_;have BK278:=n4_;have GW278:=n5_;have GE278:=n6_;have NB270_278:=n7_;have NB278_270:=n8_;clear n0_ n1_ n2_ n3_ n4_ n5_ n6_ n7_ n8_;clear hb hbox hg;have hnb29:=NB278_270.out;have hnc29:=NB270_278.out;have hcz30_0 : w28.cell? ⟨gb278,0,none⟩=some (.bool false):=(blk_cell BK278.out 0).trans rfl;have hcz30_1 : w28.cell? ⟨gb278,1,none⟩=some (.slice none 0 0):=(blk_cell BK278.out 1).trans rfl;have hcz30_2 : w28.cell? ⟨gb278,2,none⟩=some (.slice none 0 0):=(blk_cell BK278.out 2).trans rfl;have hfz30_0:=blk_frozen BK278.out 0;have hfz30_1:=blk_frozen BK278.out 1;have hfz30_2:=blk_frozen BK278.out 2;obtain ⟨Ao31,co31,eo31⟩:=Kd.R_slice HO274.out;subst eo31;obtain ⟨Ao32,co32,eo32⟩:=Kd.R_slice HO277.out;subst eo32;have hcz33_0 : w28.cell? ⟨gb270,0,none⟩=some (.bool a0_0):=(blk_cell BK270.out 0).trans rfl;have hcz33_1 : w28.cell? ⟨gb270,1,none⟩=some (.slice A0_1 l0_1.length c0_1):=(blk_cell BK270.out 1).trans rfl;have hcz33_2 : w28.cell? ⟨gb270,2,none⟩=some (.slice A0_2 l0_2.length c0_2):=(blk_cell BK270.out 2).trans rfl;have hfz33_0:=blk_frozen BK270.out 0;have hfz33_1:=blk_frozen BK270.out 1;have hfz33_2:=blk_frozen BK270.out 2))
  go_ret
  exact ⟨by first|rfl|(simp [errW_none,errW_some] <;> rfl)|(simp [*,errW_none,errW_some] <;> rfl),by repeat (first|(with_reducible first|exact HB.out|apply below_alloc|apply pw_below_drewN|apply below_drew1|refine below_set ?_ GE270.out|refine below_set ?_ GE278.out)|exact HB.out)⟩
theorem film_sizes.calls (a0 : Int) (a1 : Int) (a2 : Int) (r : Bool) (w : World) (h : film_sizes.f a0 a1 a2=some r) :
  Calls Try.prog 32 #[.int .i64 a0,.int .i64 a1,.int .i64 a2] w fun e w'=>e=.returned (.bool r)∧Drawn0 w w':=by
 have H : (if a0 ≥ 1 then (if a0≤16 then (if a1 ≥ 1 then (if a1≤16 then (if a2 ≥ 1 then (some (decide (a2≤8))) else (some false)) else (some false)) else (some false)) else (some false)) else (some false))=some r:=h
 clear h
 by_cases c4 : a0 ≥ 1
 ·rw [if_pos c4] at H
  have c4b0 : decide (1≤a0)=true:=decide_eq_true c4
  clear c4
  by_cases c5 : a0≤16
  ·rw [if_pos c5] at H
   have c5b0 : decide (a0≤16)=true:=decide_eq_true c5
   clear c5
   by_cases c6 : a1 ≥ 1
   ·rw [if_pos c6] at H
    have c6b0 : decide (1≤a1)=true:=decide_eq_true c6
    clear c6
    by_cases c7 : a1≤16
    ·rw [if_pos c7] at H
     have c7b0 : decide (a1≤16)=true:=decide_eq_true c7
     clear c7
     by_cases c8 : a2 ≥ 1
     ·rw [if_pos c8] at H
      have c8b0 : decide (1≤a2)=true:=decide_eq_true c8
      clear c8
      obtain rfl:=Option.some.inj H
      go_enter Try.func32,Try.ntmps32
      go_wp2
      go_ret
      exact ⟨by first|rfl|(simp;done)|(simp [*];done),by repeat (first|exact Drawn0.refl _|apply Drawn0.step)⟩
     ·rw [if_neg c8] at H
      have c8b0 : decide (1≤a2)=false:=decide_eq_false c8
      clear c8
      obtain rfl:=Option.some.inj H
      go_enter Try.func32,Try.ntmps32
      go_wp2
      go_ret
      exact ⟨by first|rfl|(simp;done)|(simp [*];done),by repeat (first|exact Drawn0.refl _|apply Drawn0.step)⟩
    ·rw [if_neg c7] at H
     have c7b0 : decide (a1≤16)=false:=decide_eq_false c7
     clear c7
     obtain rfl:=Option.some.inj H
     go_enter Try.func32,Try.ntmps32
     go_wp2
     go_ret
     exact ⟨by first|rfl|(simp;done)|(simp [*];done),by repeat (first|exact Drawn0.refl _|apply Drawn0.step)⟩
   ·rw [if_neg c6] at H
    have c6b0 : decide (1≤a1)=false:=decide_eq_false c6
    clear c6
    obtain rfl:=Option.some.inj H
    go_enter Try.func32,Try.ntmps32
    go_wp2
    go_ret
    exact ⟨by first|rfl|(simp;done)|(simp [*];done),by repeat (first|exact Drawn0.refl _|apply Drawn0.step)⟩
  ·rw [if_neg c5] at H
   have c5b0 : decide (a0≤16)=false:=decide_eq_false c5
   clear c5
   obtain rfl:=Option.some.inj H
   go_enter Try.func32,Try.ntmps32
   go_wp2
   go_ret
   exact ⟨by first|rfl|(simp;done)|(simp [*];done),by repeat (first|exact Drawn0.refl _|apply Drawn0.step)⟩
 ·rw [if_neg c4] at H
  have c4b0 : decide (1≤a0)=false:=decide_eq_false c4
  clear c4
  obtain rfl:=Option.some.inj H
  go_enter Try.func32,Try.ntmps32
  go_wp2
  go_ret
  exact ⟨by first|rfl|(simp;done)|(simp [*];done),by repeat (first|exact Drawn0.refl _|apply Drawn0.step)⟩
end Go.Proofs.Ytjiaobcoeegioaa.Pq
end
section
namespace Go.Proofs.YtjiaobcoeegioaaW.PrintWords
open Go Go.RowKit
set_option linter.unusedVariables false
class Tk (T : List Nat) (w W : World) : Prop where
 k : w.heap.size≤W.heap.size ∧ ∀ (i : Nat) (cs : Array Value) (t : Nat) (fr : Nat × Nat),w.heap[i]? = some (Obj.cells cs t fr)→t∈T→W.heap[i]? = w.heap[i]?
section
variable {T T' : List Nat} {w W W2 : World} {Q Q' : World→Prop}
theorem Tk.trans_ (h : Tk T w W) (k : Tk T W W2) : Tk T w W2:=⟨Nat.le_trans h.k.1 k.k.1,fun i cs t fr hb ht=>by
 have e:=h.k.2 i cs t fr hb ht
 exact (k.k.2 i cs t fr (e.trans hb) ht).trans e⟩
theorem Tk.of_below (hb : Below W.heap.size W W2) : Tk T W W2:=⟨hb.size,fun i cs t fr h ht=>hb.block i (blk_lt h)⟩
theorem Tk.less (h : Tk T w W) (hs : ∀ t,t∈T'→t∈T) : Tk T' w W:=⟨h.k.1,fun i cs t fr hb ht=>h.k.2 i cs t fr hb (hs t ht)⟩
instance (T : List Nat) (w : World) : Tk T w w:=⟨Nat.le_refl _,fun _ _ _ _ _ _=>rfl⟩
instance (T : List Nat) (w W : World) (o : Obj) [h : Tk T w W] : Tk T w (W.alloc o):=h.trans_ (Tk.of_below (below_alloc (Below.refl _ _) _))
instance (T : List Nat) (w W : World) (n : Nat) [h : Tk T w W] : Tk T w (W.drewN n):=h.trans_ (Tk.of_below (pw_below_drewN (Below.refl _ _) _))
instance (T : List Nat) (w W : World) [h : Tk T w W] : Tk T w W.drew:=h.trans_ (Tk.of_below (below_drew1 (Below.refl _ _)))
theorem tk_call (hb : Below W.heap.size W W2) (w : World) [h : Tk T w W] : Tk T w W2:=h.trans_ (Tk.of_below hb)
theorem tk_set {g t : Nat} {cs : Array Value} (hb : W.heap[g]? = some (.cells cs t (0,0))) (ht : t ∉ T) (i : Nat) (v : Value) (w : World) [h : Tk T w W] : Tk T w (W.setCell ⟨g,i,none⟩ v) :=
 h.trans_ ⟨by simp [World.setCell],fun j cs' t' fr' hj ht'=>Below.heap_setCell W ⟨g,i,none⟩ v j (fun e=>by
  have e : j=g:=e
  subst e
  rw [hb] at hj
  injection hj with hj
  injection hj with _ h2 _
  exact ht (h2 ▸ ht'))⟩
structure Trob (T : List Nat) (w : World) (Q : World→Prop) : Prop where mk :: (out : ∀ W,Tk T w W→Q W)
theorem Trob.now (h : Trob T w Q) [k : Tk T w W] : Q W:=h.out W k
theorem Trob.up (h : Trob T w Q) [k : Tk T w W] : Trob T W Q:=⟨fun W2 k2=>h.out W2 (k.trans_ k2)⟩
theorem Trob.and (h : Trob T w Q) (h' : Trob T w Q') : Trob T w (fun W=>Q W∧Q' W):=⟨fun W k=>⟨h.out W k,h'.out W k⟩⟩
theorem Trob.imp (h : Trob T w Q) (f : ∀ W,Q W→Q' W) : Trob T w Q':=⟨fun W k=>f W (h.out W k)⟩
theorem Trob.more (h : Trob T w Q) (hs : ∀ t,t∈T→t∈T') : Trob T' w Q:=⟨fun W k=>h.out W (k.less hs)⟩
theorem Trob.all {α : Type} {P : α→World→Prop} {w : World} (h : ∀ a,Trob T w (P a)) : Trob T w (fun W=>∀ a,P a W):=⟨fun W k a=>(h a).out W k⟩
end
section
variable {α : Type} {d : Kd α} {e base : Nat} {ok : Nat→Prop} {w : World} {v : Value} {xs : List α}
theorem madeT (h : d.R e w base ok v xs) : ∃ A c,v=.slice A xs.length c∧xs.length≤c∧Trob (e :: d.E) w (fun W=>d.C W A xs.length xs):=by
 obtain ⟨A,c,rfl,hl,_⟩:=Kd.R_reads h
 refine ⟨A,c,rfl,hl,⟨fun W k=>?_⟩⟩
 have h2:=Kd.R_move (Kd.R_bound h) (w1:=W) (fun i hi=>by
  obtain ⟨_,_,_,q,hq,cells,hc⟩:=hi
  exact k.k.2 i cells q (0,0) hc hq)
 exact (Kd.R_reads' h2).2.2
end
end Go.Proofs.YtjiaobcoeegioaaW.PrintWords
end
section
namespace Go.Proofs.Ytjiaobcoeegioaa.N
set_option linter.unusedVariables false
set_option linter.unusedSimpArgs false
open Go.RowKit Go.Proofs.YtjiaobcoeegioaaW.PrintWords
def V : List Int→Int
|[]=>0
|x :: l=>x+4294967296 * V l
def W (l : List Int) : Prop:=∀ x∈l,0≤x∧x < 4294967296
def P (n : Nat) : Int:=4294967296 ^ n
theorem P_zero : P 0=1:=rfl
theorem P_succ (n : Nat) : P (n+1)=4294967296 * P n:=by unfold P;rw [Int.pow_succ,Int.mul_comm]
theorem P_pos (n : Nat) : 0 < P n:=by
 induction n with
|zero=>decide
|succ n ih=>rw [P_succ];omega
theorem P_add (m n : Nat) : P (m+n)=P m * P n:=by unfold P;rw [Int.pow_add]
theorem P_one_le (n : Nat) : 1≤P n:=by have:=P_pos n;omega
theorem P_le {m n : Nat} (h : m≤n) : P m≤P n:=by
 obtain ⟨d,rfl⟩:=Nat.exists_eq_add_of_le h
 rw [P_add]
 have h1:=P_pos m
 have h2:=P_one_le d
 have h3 : P m * 1≤P m * P d:=Int.mul_le_mul_of_nonneg_left h2 (by omega)
 omega
theorem W_nil : W []:=fun _ h=>by cases h
theorem W_cons {x : Int} {l : List Int} : W (x :: l)↔(0≤x∧x < 4294967296)∧W l:=by
 constructor
 ·exact fun h=>⟨h x (List.mem_cons_self ..),fun y hy=>h y (List.mem_cons_of_mem _ hy)⟩
 ·rintro ⟨h1,h2⟩ y hy
  rcases List.mem_cons.1 hy with rfl|hy
  ·exact h1
  ·exact h2 y hy
theorem W_append {l m : List Int} (h : W l) (k : W m) : W (l++m):=fun x hx=>by
 rcases List.mem_append.1 hx with hx|hx
 ·exact h x hx
 ·exact k x hx
theorem W_one {x : Int} (h0 : 0≤x) (h1 : x < 4294967296) : W [x]:=W_cons.2 ⟨⟨h0,h1⟩,W_nil⟩
theorem W_take {l : List Int} (h : W l) (n : Nat) : W (l.take n):=fun x hx=>h x (List.mem_of_mem_take hx)
theorem W_drop {l : List Int} (h : W l) (n : Nat) : W (l.drop n):=fun x hx=>h x (List.mem_of_mem_drop hx)
theorem W_set {l : List Int} (h : W l) (i : Nat) {x : Int} (h0 : 0≤x) (h1 : x < 4294967296) : W (l.set i x):=fun y hy=>by
 rcases List.mem_or_eq_of_mem_set hy with hy|rfl
 ·exact h y hy
 ·exact ⟨h0,h1⟩
theorem W_replicate (n : Nat) : W (List.replicate n 0):=fun x hx=>by
 have:=List.eq_of_mem_replicate hx
 omega
theorem W_rd {l : List Int} (h : W l) (i : Int) : 0≤rd l i∧rd l i < 4294967296:=by
 unfold rd
 by_cases hi : i.toNat < l.length
 ·have e : l.getD i.toNat 0=l[i.toNat]:=by simp [List.getD_eq_getElem?_getD,hi]
  rw [e]
  exact h _ (List.getElem_mem hi)
 ·have e : l.getD i.toNat 0=0:=by simp [List.getD_eq_getElem?_getD,List.getElem?_eq_none (Nat.le_of_not_lt hi)]
  omega
theorem V_nil : V []=0:=rfl
theorem V_cons (x : Int) (l : List Int) : V (x :: l)=x+4294967296 * V l:=rfl
theorem V_one (x : Int) : V [x]=x:=by simp [V]
theorem V_nonneg {l : List Int} (h : W l) : 0≤V l:=by
 induction l with
|nil=>exact Int.le_refl _
|cons x l ih =>
  obtain ⟨h1,h2⟩:=W_cons.1 h
  have:=ih h2
  rw [V_cons]
  omega
theorem V_lt {l : List Int} (h : W l) : V l < P l.length:=by
 induction l with
|nil=>decide
|cons x l ih =>
  obtain ⟨h1,h2⟩:=W_cons.1 h
  have:=ih h2
  rw [V_cons,List.length_cons,P_succ]
  omega
theorem V_append (l m : List Int) : V (l++m)=V l+P l.length * V m:=by
 induction l with
|nil=>simp [V,P]
|cons x l ih =>
  rw [List.cons_append,V_cons,V_cons,ih,List.length_cons,P_succ]
  grind
theorem V_snoc (l : List Int) (x : Int) : V (l++[x])=V l+P l.length * x:=by rw [V_append,V_one]
theorem V_replicate (n : Nat) : V (List.replicate n 0)=0:=by
 induction n with
|zero=>rfl
|succ n ih=>rw [List.replicate_succ,V_cons,ih];rfl
theorem take_succ_rd (l : List Int) (i : Nat) (h : i < l.length) : l.take (i+1)=l.take i++[rd l (i : Int)]:=by
 rw [List.take_succ_eq_append_getElem h]
 simp [rd,List.getD_eq_getElem?_getD,h]
theorem V_take_succ (l : List Int) (i : Nat) (h : i < l.length) : V (l.take (i+1))=V (l.take i)+P i * rd l (i : Int):=by
 rw [take_succ_rd l i h,V_snoc,List.length_take,Nat.min_eq_left (by omega)]
theorem rd_beyond (l : List Int) (i : Int) (h : l.length≤i.toNat) : rd l i=0:=by
 simp [rd,List.getD_eq_getElem?_getD,List.getElem?_eq_none h]
theorem V_take_succ' (l : List Int) (i : Nat) : V (l.take (i+1))=V (l.take i)+P i * rd l (i : Int):=by
 by_cases h : i < l.length
 ·exact V_take_succ l i h
 ·rw [rd_beyond l i (by simpa using h),List.take_of_length_le (by omega),List.take_of_length_le (by omega)]
  simp
theorem V_take_all (l : List Int) (n : Nat) (h : l.length≤n) : V (l.take n)=V l:=by rw [List.take_of_length_le h]
theorem V_split (l : List Int) (n : Nat) (h : n≤l.length) : V l=V (l.take n)+P n * V (l.drop n):=by
 have h1:=V_append (l.take n) (l.drop n)
 rw [List.take_append_drop,List.length_take,Nat.min_eq_left h] at h1
 exact h1
theorem V_split' (l : List Int) (n : Nat) : V l=V (l.take n)+P n * V (l.drop n):=by
 by_cases h : n≤l.length
 ·exact V_split l n h
 ·rw [List.take_of_length_le (by omega),List.drop_of_length_le (by omega),V_nil]
  simp
theorem V_set (l : List Int) (i : Nat) (x : Int) (h : i < l.length) : V (l.set i x)=V l+P i * (x - rd l (i : Int)):=by
 induction l generalizing i with
|nil=>cases h
|cons y l ih =>
  cases i with
 |zero=>simp [V,rd,P];omega
 |succ i =>
   rw [List.set_cons_succ,V_cons,V_cons,ih i (by simpa using h),P_succ]
   have e : rd (y :: l) ((i+1 : Nat) : Int)=rd l (i : Int):=by simp only [rd,Int.toNat_natCast,List.getD_cons_succ]
   rw [e]
   grind
theorem rd_set_eq (l : List Int) (i : Nat) (x : Int) (h : i < l.length) : rd (l.set i x) (i : Int)=x:=by
 simp [rd,List.getD_eq_getElem?_getD,h]
theorem rd_set_ne (l : List Int) (i : Nat) (x : Int) (j : Int) (h : j.toNat≠i) : rd (l.set i x) j=rd l j:=by
 simp only [rd,List.getD_eq_getElem?_getD]
 rw [List.getElem?_set_ne (by omega)]
theorem rd_replicate (n : Nat) (i : Int) : rd (List.replicate n 0) i=0:=by
 simp only [rd,List.getD_eq_getElem?_getD,List.getElem?_replicate]
 split <;> rfl
def L (n : Int) : List Int:=if h : 0 < n then n % 4294967296 :: L (n / 4294967296) else []
termination_by n.toNat
decreasing_by omega
theorem L_zero : L 0=[]:=by unfold L;rfl
theorem L_pos {n : Int} (h : 0 < n) : L n=n % 4294967296 :: L (n / 4294967296):=by
 conv=>lhs;unfold L
 rw [dif_pos h]
theorem L_neg {n : Int} (h : n≤0) : L n=[]:=by
 unfold L
 rw [dif_neg (by omega)]
theorem V_L : ∀ {n : Int},0≤n→V (L n)=n:=by
 have H : ∀ (k : Nat) (n : Int),n.toNat≤k→0≤n→V (L n)=n:=by
  intro k
  induction k with
 |zero=>intro n h h0;rw [show n=0 by omega,L_zero];rfl
 |succ k ih =>
   intro n h h0
   rcases Int.lt_or_eq_of_le h0 with hp|rfl
   ·rw [L_pos hp,V_cons,ih (n / 4294967296) (by omega) (by omega)]
    omega
   ·rw [L_zero];rfl
 exact fun {n} h=>H n.toNat n (Nat.le_refl _) h
theorem W_L : ∀ (n : Int),W (L n):=by
 have H : ∀ (k : Nat) (n : Int),n.toNat≤k→W (L n):=by
  intro k
  induction k with
 |zero=>intro n h;rw [L_neg (by omega)];exact W_nil
 |succ k ih =>
   intro n h
   by_cases hp : 0 < n
   ·rw [L_pos hp]
    exact W_cons.2 ⟨by omega,ih _ (by omega)⟩
   ·rw [L_neg (by omega)];exact W_nil
 exact fun n=>H n.toNat n (Nat.le_refl _)
theorem L_length_le : ∀ (m : Nat) {n : Int},n < P m→(L n).length≤m:=by
 intro m
 induction m with
|zero =>
  intro n h
  rw [P_zero] at h
  rw [L_neg (by omega)]
  exact Nat.le_refl _
|succ m ih =>
  intro n h
  rw [P_succ] at h
  by_cases hp : 0 < n
  ·rw [L_pos hp,List.length_cons]
   have:=ih (n:=n / 4294967296) (by omega)
   omega
  ·rw [L_neg (by omega)]
   exact Nat.zero_le _
theorem L_length_lt {m : Nat} {n : Int} (h : P m≤n) : m < (L n).length:=by
 rcases Nat.lt_or_ge m (L n).length with hlt|hge
 ·exact hlt
 ·have h0 : 0≤n:=by have:=P_pos m;omega
  have h1:=V_lt (W_L n)
  rw [V_L h0] at h1
  have:=P_le hge
  omega
theorem L_nil_iff {n : Int} (h : 0≤n) : L n=[]↔n=0:=by
 constructor
 ·intro e
  have:=V_L h
  rw [e] at this
  exact this.symm
 ·rintro rfl
  exact L_zero
theorem L_inj {m n : Int} (hm : 0≤m) (hn : 0≤n) (h : L m=L n) : m=n:=by rw [← V_L hm,← V_L hn,h]
theorem L_V : ∀ {l : List Int},W l→(∀ h : l≠[],l.getLast h≠0)→L (V l)=l:=by
 intro l
 induction l with
|nil=>intro _ _;exact L_zero
|cons x l ih =>
  intro hw hl
  obtain ⟨h1,h2⟩:=W_cons.1 hw
  have hv:=V_nonneg h2
  have hih : L (V l)=l:=ih h2 (fun hne=>by
   have:=hl (by simp)
   rwa [List.getLast_cons hne] at this)
  have hp : 0 < V (x :: l):=by
   rw [V_cons]
   by_cases hne : l=[]
   ·subst hne
    have:=hl (by simp)
    simp at this
    simp [V]
    omega
   ·have : V l≠0:=fun e=>hne (by rw [← hih,e,L_zero])
    omega
  rw [L_pos hp,V_cons,show (x+4294967296 * V l) % 4294967296=x by omega,show (x+4294967296 * V l) / 4294967296=V l by omega,hih]
theorem L_last {n : Int} : ∀ h : L n≠[],(L n).getLast h≠0:=by
 have H : ∀ (k : Nat) (n : Int),n.toNat≤k → ∀ h : L n≠[],(L n).getLast h≠0:=by
  intro k
  induction k with
 |zero=>intro n h hne;exact absurd (L_neg (by omega)) hne
 |succ k ih =>
   intro n h hne
   by_cases hp : 0 < n
   ·have e:=L_pos hp
    by_cases hz : L (n / 4294967296)=[]
    ·have hz0:=(L_nil_iff (show 0≤n / 4294967296 by omega)).1 hz
     have : (L n).getLast hne=n % 4294967296:=by
      simp only [e,hz,List.getLast_singleton]
     rw [this]
     omega
    ·have:=ih (n / 4294967296) (by omega) hz
     have e2 : (L n).getLast hne=(L (n / 4294967296)).getLast hz:=by
      simp only [e,List.getLast_cons hz]
     rw [e2]
     exact this
   ·exact absurd (L_neg (by omega)) hne
 exact H n.toNat n (Nat.le_refl _)
theorem V_take_lt {a : List Int} (h : W a) (i : Nat) : V (a.take i) < P i:=by
 have h1:=V_lt (W_take h i)
 have h2 : (a.take i).length≤i:=List.length_take_le _ _
 have:=P_le h2
 omega
theorem P_mul_lt {i : Nat} {x y p q : Int} (hp0 : 0≤p) (hp : p < P i) (hq0 : 0≤q) (h : x < y) : p+P i * x < q+P i * y:=by
 have h1 : P i * (x+1)≤P i * y:=Int.mul_le_mul_of_nonneg_left (by omega) (by have:=P_pos i;omega)
 rw [Int.mul_add] at h1
 omega
theorem wrap_u64_of {x : Int} (h0 : 0≤x) (h1 : x < 18446744073709551616) : IntKind.u64.wrap x=x:=by
 simp only [IntKind.wrap,IntKind.bits,IntKind.signed]
 simp
 omega
attribute [irreducible] P V
end Go.Proofs.Ytjiaobcoeegioaa.N
end
section
namespace Go.Proofs.Ytjiaobcoeegioaa.N
set_option linter.unusedVariables false
set_option linter.unusedSimpArgs false
open Go.RowKit Go.Proofs.YtjiaobcoeegioaaW.PrintWords Go.Proofs.YtjiaobcoeegioaaW.PrintLast Go.Proofs.Ytjiaobcoeegioaa.Pq
theorem Ev_pos {α : Type} {c : Prop} [Decidable c] {f g : Nat→Option α} {r : α} (hc : c) (h : Ev f r) : Ev (fun k=>if c then f k else g k) r:=Ev.congr (fun k=>if_pos hc) h
theorem Ev_neg {α : Type} {c : Prop} [Decidable c] {f g : Nat→Option α} {r : α} (hc : ¬ c) (h : Ev g r) : Ev (fun k=>if c then f k else g k) r:=Ev.congr (fun k=>if_neg hc) h
theorem Ev_some {α β : Type} {o : Option α} {f : Nat→α→Option β} {a : α} {r : β} (h : o=some a) (k : Ev (fun n=>f n a) r) : Ev (fun n=>o.bind (f n)) r:=by
 subst h
 exact k
theorem Ev_now {α : Type} {o : Option α} {r : α} (h : o=some r) : Ev (fun _=>o) r:=⟨0,fun _ _=>h⟩
theorem Ev_eq {α : Type} {f : Nat→Option α} {r s : α} (h : Ev f r) (e : r=s) : Ev f s:=e ▸ h
theorem Ev_up {α : Type} {f : Nat→Option α} {r : α} (h : Ev (fun k=>f (k+1)) r) : Ev f r:=Ev.step (fun k=>rfl) h
theorem n_take {l : List Int} (hw : W l) : ∀ m,m≤l.length→l.take (nat_trim.n l m)=L (V (l.take m))
|0,_=>by
  show l.take 0=_
  rw [List.take_zero,V_nil,L_zero]
|m+1,h=>by
  have hv:=V_take_succ l m (by omega)
  show l.take (if l.getD m 0=0 then nat_trim.n l m else m+1)=_
  have hrd : rd l (m : Int)=l.getD m 0:=rfl
  by_cases hz : l.getD m 0=0
  ·rw [if_pos hz,n_take hw m (by omega),hv,hrd,hz]
   simp
  ·rw [if_neg hz]
   refine (L_V (W_take hw _) (fun hne=>?_)).symm
   have e:=take_succ_rd l m (by omega)
   have : (l.take (m+1)).getLast hne=rd l (m : Int):=by
    simp only [e,List.getLast_append,List.getLast_singleton]
    simp
   rw [this,hrd]
   exact hz
theorem trim_f {l : List Int} (hw : W l) : nat_trim.f l=some (L (V l)):=by
 unfold nat_trim.f
 rw [n_take hw l.length (Nat.le_refl _),List.take_length]
theorem L_len_le {l : List Int} (hw : W l) : (L (V l)).length≤l.length:=L_length_le _ (V_lt hw)
abbrev Sm (l : List Int) : Prop:=l.length < 35184372087809
theorem Sm_L {l : List Int} (hw : W l) (h : Sm l) : Sm (L (V l)):=Nat.lt_of_le_of_lt (L_len_le hw) h
theorem clone_f {l : List Int} (h : l.length < 35184372088832) : slices_Clone_uint32_uint32.f l=some l:=if_pos h
theorem norm_f {l : List Int} (hw : W l) (h : Sm l) : nat_Norm.f l=some (L (V l)):=by
 have hl:=Sm_L hw h
 unfold nat_Norm.f
 rw [trim_f hw,Option.bind_some,clone_f (by unfold Sm at hl;omega),Option.bind_some]
theorem same_l (a : List Int) (h : a.length < 4611686018427387904) : ∀ (d m : Nat),a.length - m=d→m≤a.length→Ev (fun k=>penumbraref01_Same.l0 k a a (m : Int)) true
|0,m,hd,hm=>by
  refine Ev.step (fun k=>rfl) ?_
  refine Ev_neg (by omega) ?_
  exact Ev.now _
|d+1,m,hd,hm=>by
  have w1 : wrap64 ((m : Int)+1)=((m+1 : Nat) : Int):=by unfold wrap64;omega
  refine Ev.step (fun k=>rfl) ?_
  refine Ev_pos (by omega) ?_
  refine Ev_pos (by omega) ?_
  refine Ev_pos (by omega) ?_
  refine Ev_pos rfl ?_
  rw [w1]
  exact same_l a h d (m+1) (by omega) (by omega)
theorem same_f {a : List Int} (h : a.length < 4611686018427387904) : Ev (fun k=>penumbraref01_Same.f k a a) true:=by
 refine Ev_pos rfl ?_
 exact same_l a h a.length 0 (by omega) (by omega)
theorem add32_f {a b c : Int} (ha : 0≤a∧a < 4294967296) (hb : 0≤b∧b < 4294967296) (hc : 0≤c∧c≤1) : bits_Add32.f a b c=some ((a+b+c) % 4294967296,(a+b+c) / 4294967296):=by
 unfold bits_Add32.f
 rw [wrap_u64_of ha.1 (by omega),wrap_u64_of hb.1 (by omega),wrap_u64_of hc.1 (by omega),wrap_u64_of (x:=a+b) (by omega) (by omega),wrap_u64_of (x:=a+b+c) (by omega) (by omega)]
 rw [show ((a+b+c) / 4294967296) % 4294967296=(a+b+c) / 4294967296 by omega]
theorem sub32_f {a b c : Int} (ha : 0≤a∧a < 4294967296) (hb : 0≤b∧b < 4294967296) (hc : 0≤c∧c≤1) : bits_Sub32.f a b c=some ((a - b - c) % 4294967296,bits_Sub32.b a b c):=by
 unfold bits_Sub32.f
 rw [if_pos ⟨ha,hb,hc⟩]
theorem sub32_b (a b c : Int) : (a < b+c→bits_Sub32.b a b c=1)∧(b+c≤a→bits_Sub32.b a b c=0):=by
 unfold bits_Sub32.b
 constructor
 ·intro h;rw [if_pos h]
 ·intro h;rw [if_neg (by omega)]
def cm (x y : Int) : Int:=if x < y then -1 else if y < x then 1 else 0
theorem cmp_step (a b : List Int) (i : Nat) (ha : W a) (hb : W b) : cm (V (a.take (i+1))) (V (b.take (i+1)))=if rd a (i : Int) < rd b (i : Int) then -1 else if rd a (i : Int) > rd b (i : Int) then 1 else cm (V (a.take i)) (V (b.take i)):=by
 rw [V_take_succ',V_take_succ']
 have a1:=V_nonneg (W_take ha i)
 have a2:=V_take_lt ha i
 have b1:=V_nonneg (W_take hb i)
 have b2:=V_take_lt hb i
 rcases Int.lt_trichotomy (rd a (i : Int)) (rd b (i : Int)) with h|h|h
 ·rw [if_pos h]
  unfold cm
  rw [if_pos (P_mul_lt a1 a2 b1 h)]
 ·rw [if_neg (by omega),if_neg (by omega),h]
  unfold cm
  generalize P i * rd b (i : Int)=z
  by_cases h1 : V (a.take i) < V (b.take i)
  ·rw [if_pos h1,if_pos (by omega)]
  ·rw [if_neg h1,if_neg (by omega)]
   by_cases h2 : V (b.take i) < V (a.take i)
   ·rw [if_pos h2,if_pos (by omega)]
   ·rw [if_neg h2,if_neg (by omega)]
 ·have:=P_mul_lt b1 b2 a1 h
  rw [if_neg (by omega),if_pos h]
  unfold cm
  rw [if_neg (by omega),if_pos this]
theorem ncmp_l {a b : List Int} (ha : W a) (hb : W b) (hl : a.length=b.length) (hs : a.length < 35184372087809) : ∀ (m : Nat),m≤a.length→Ev (fun k=>nat_Cmp.l0 k a b ((m : Int) - 1)) (cm (V (a.take m)) (V (b.take m)))
|0,_=>by
  refine Ev.step (fun k=>rfl) ?_
  refine Ev_neg (by omega) ?_
  exact Ev_now (by simp [cm])
|m+1,h=>by
  have e : ((m+1 : Nat) : Int) - 1=(m : Int):=by omega
  have w1 : wrap64 ((m : Int) - 1)=(m : Int) - 1:=by unfold wrap64;omega
  rw [e,cmp_step a b m ha hb]
  refine Ev.step (fun k=>rfl) ?_
  refine Ev_pos (by omega) ?_
  refine Ev_pos (by omega) ?_
  refine Ev_pos (by omega) ?_
  refine Ev_pos (by omega) ?_
  by_cases h1 : rd a (m : Int) < rd b (m : Int)
  ·rw [if_pos h1]
   refine Ev_pos h1 ?_
   exact Ev.now _
  ·rw [if_neg h1]
   refine Ev_neg h1 ?_
   by_cases h2 : rd a (m : Int) > rd b (m : Int)
   ·rw [if_pos h2]
    refine Ev_pos h2 ?_
    exact Ev.now _
   ·rw [if_neg h2,w1]
    refine Ev_neg h2 ?_
    exact ncmp_l ha hb hl hs m (by omega)
theorem ncmp_f {a b : List Int} (ha : W a) (hb : W b) (sa : Sm a) (sb : Sm b) : Ev (fun k=>nat_Cmp.f k a b) (cm (V a) (V b)):=by
 have hla:=Sm_L ha sa
 have hlb:=Sm_L hb sb
 unfold Sm at hla hlb
 have va:=V_nonneg ha
 have vb:=V_nonneg hb
 have A:=V_lt (W_L (V a))
 have Bv:=V_lt (W_L (V b))
 rw [V_L va] at A
 rw [V_L vb] at Bv
 refine Ev_some (trim_f ha) ?_
 refine Ev_some (trim_f hb) ?_
 rcases Nat.lt_trichotomy (L (V a)).length (L (V b)).length with h|h|h
 ·refine Ev_neg (by omega) ?_
  refine Ev_pos (by omega) ?_
  refine Ev_now ?_
  have : V a < V b:=by
   by_cases h1 : V a < V b
   ·exact h1
   ·have:=L_length_le (L (V a)).length (n:=V b) (by omega)
    omega
  unfold cm
  rw [if_pos this]
 ·refine Ev_pos (by omega) ?_
  have w1 : wrap64 (((L (V a)).length : Int) - 1)=((L (V a)).length : Int) - 1:=by unfold wrap64;omega
  rw [w1]
  refine Ev_eq (ncmp_l (W_L _) (W_L _) h hla _ (Nat.le_refl _)) ?_
  rw [List.take_length,h,List.take_length,V_L va,V_L vb]
 ·refine Ev_neg (by omega) ?_
  refine Ev_neg (by omega) ?_
  refine Ev_now ?_
  have : V b < V a:=by
   by_cases h1 : V b < V a
   ·exact h1
   ·have:=L_length_le (L (V b)).length (n:=V a) (by omega)
    omega
  unfold cm
  rw [if_neg (by omega),if_pos this]
theorem nadd_l0 {a b : List Int} (ha : W a) (hb : W b) (hl : b.length≤a.length) (sa : Sm a) : ∀ (d i : Nat) (p : List Int) (c : Int),a.length - i=d→i≤a.length→W p→p.length=i→0≤c∧c≤1 →
  V p+P i * c=V (a.take i)+V (b.take i)→Ev (fun k=>nat_Add.l0 k b p c a (a.length : Int) (i : Int)) (L (V a+V b)):=by
 intro d
 induction d with
|zero =>
  intro i p c hd hi hp hpl hc hv
  have sa' : a.length < 35184372087809:=sa
  obtain rfl : i=a.length:=by omega
  refine Ev.step (fun k=>rfl) ?_
  refine Ev_neg (by omega) ?_
  refine Ev_pos (by omega) ?_
  refine Ev_some (trim_f (W_append hp (W_one hc.1 (by omega)))) ?_
  refine Ev_now ?_
  rw [V_snoc,hpl,hv,List.take_length,V_take_all b _ hl]
|succ d ih =>
  intro i p c hd hi hp hpl hc hv
  have HV:=Aside0.mk hv
  clear hv
  have sa' : a.length < 35184372087809:=sa
  have w1 : wrap64 ((i : Int)+1)=((i+1 : Nat) : Int):=by unfold wrap64;omega
  have ra:=W_rd ha (i : Int)
  have rb:=W_rd hb (i : Int)
  have key : Aside0 (V (p++[(rd a (i : Int)+rd b (i : Int)+c) % 4294967296])+P (i+1) * ((rd a (i : Int)+rd b (i : Int)+c) / 4294967296)=V (a.take (i+1))+V (b.take (i+1))):=⟨by
   have hv:=HV.out
   rw [V_snoc,hpl,V_take_succ' a i,V_take_succ' b i,P_succ]
   have:=Int.emod_add_mul_ediv (rd a (i : Int)+rd b (i : Int)+c) 4294967296
   grind⟩
  have hrec:=ih (i+1) (p++[(rd a (i : Int)+rd b (i : Int)+c) % 4294967296]) ((rd a (i : Int)+rd b (i : Int)+c) / 4294967296) (by omega) (by omega) (W_append hp (W_one (by omega) (by omega))) (by simp [hpl]) (by omega) key.out
  refine Ev.step (fun k=>rfl) ?_
  refine Ev_pos (by omega) ?_
  refine Ev_pos (by omega) ?_
  refine Ev_pos (by omega) ?_
  by_cases hib : (i : Int) < (b.length : Int)
  ·refine Ev_pos hib ?_
   refine Ev_some (add32_f ra rb hc) ?_
   refine Ev_pos (by omega) ?_
   rw [w1]
   exact hrec
  ·have hz : rd b (i : Int)=0:=rd_beyond b _ (by omega)
   rw [hz] at hrec rb
   refine Ev_neg hib ?_
   refine Ev_some (add32_f ra rb hc) ?_
   refine Ev_pos (by omega) ?_
   rw [w1]
   exact hrec
theorem nadd_l100 {a b : List Int} (ha : W a) (hb : W b) (hl : b.length≤a.length) (sa : Sm a) : ∀ (d i : Nat) (p : List Int) (c : Int),a.length - i=d→i≤a.length→W p→p.length=i→0≤c∧c≤1 →
  V p+P i * c=V (a.take i)+V (b.take i)→Ev (fun k=>nat_Add.l100 k b p c a (a.length : Int) (i : Int)) (L (V a+V b)):=by
 intro d
 induction d with
|zero =>
  intro i p c hd hi hp hpl hc hv
  have sa' : a.length < 35184372087809:=sa
  obtain rfl : i=a.length:=by omega
  refine Ev.step (fun k=>rfl) ?_
  refine Ev_neg (by omega) ?_
  refine Ev_pos (by omega) ?_
  refine Ev_some (trim_f (W_append hp (W_one hc.1 (by omega)))) ?_
  refine Ev_now ?_
  rw [V_snoc,hpl,hv,List.take_length,V_take_all b _ hl]
|succ d ih =>
  intro i p c hd hi hp hpl hc hv
  have HV:=Aside0.mk hv
  clear hv
  have sa' : a.length < 35184372087809:=sa
  have w1 : wrap64 ((i : Int)+1)=((i+1 : Nat) : Int):=by unfold wrap64;omega
  have ra:=W_rd ha (i : Int)
  have rb:=W_rd hb (i : Int)
  have key : Aside0 (V (p++[(rd a (i : Int)+rd b (i : Int)+c) % 4294967296])+P (i+1) * ((rd a (i : Int)+rd b (i : Int)+c) / 4294967296)=V (a.take (i+1))+V (b.take (i+1))):=⟨by
   have hv:=HV.out
   rw [V_snoc,hpl,V_take_succ' a i,V_take_succ' b i,P_succ]
   have:=Int.emod_add_mul_ediv (rd a (i : Int)+rd b (i : Int)+c) 4294967296
   grind⟩
  have hrec:=ih (i+1) (p++[(rd a (i : Int)+rd b (i : Int)+c) % 4294967296]) ((rd a (i : Int)+rd b (i : Int)+c) / 4294967296) (by omega) (by omega) (W_append hp (W_one (by omega) (by omega))) (by simp [hpl]) (by omega) key.out
  refine Ev.step (fun k=>rfl) ?_
  refine Ev_pos (by omega) ?_
  refine Ev_pos (by omega) ?_
  refine Ev_pos (by omega) ?_
  by_cases hib : (i : Int) < (b.length : Int)
  ·refine Ev_pos hib ?_
   refine Ev_some (add32_f ra rb hc) ?_
   refine Ev_pos (by omega) ?_
   rw [w1]
   exact hrec
  ·have hz : rd b (i : Int)=0:=rd_beyond b _ (by omega)
   rw [hz] at hrec rb
   refine Ev_neg hib ?_
   refine Ev_some (add32_f ra rb hc) ?_
   refine Ev_pos (by omega) ?_
   rw [w1]
   exact hrec
theorem nadd_f {a b : List Int} (ha : W a) (hb : W b) (sa : Sm a) (sb : Sm b) : Ev (fun k=>nat_Add.f k a b) (L (V a+V b)):=by
 have hla:=Sm_L ha sa
 have hlb:=Sm_L hb sb
 have va:=V_nonneg ha
 have vb:=V_nonneg hb
 have hla':=hla
 have hlb':=hlb
 unfold Sm at hla' hlb'
 refine Ev_some (trim_f ha) ?_
 refine Ev_some (trim_f hb) ?_
 by_cases h : ((L (V a)).length : Int) < ((L (V b)).length : Int)
 ·have w1 : wrap64 (((L (V b)).length : Int)+1)=((L (V b)).length : Int)+1:=by unfold wrap64;omega
  refine Ev_pos h ?_
  rw [w1]
  refine Ev_pos (by omega) ?_
  refine Ev_pos (by omega) ?_
  refine Ev_eq (nadd_l0 (W_L _) (W_L _) (by omega) hlb _ 0 [] 0 rfl (Nat.zero_le _) W_nil rfl (by omega) (by simp [V])) ?_
  rw [V_L va,V_L vb,Int.add_comm]
 ·have w1 : wrap64 (((L (V a)).length : Int)+1)=((L (V a)).length : Int)+1:=by unfold wrap64;omega
  refine Ev_neg h ?_
  rw [w1]
  refine Ev_pos (by omega) ?_
  refine Ev_pos (by omega) ?_
  refine Ev_eq (nadd_l100 (W_L _) (W_L _) (by omega) hla _ 0 [] 0 rfl (Nat.zero_le _) W_nil rfl (by omega) (by simp [V])) ?_
  rw [V_L va,V_L vb]
theorem nsub_l {a b : List Int} (ha : W a) (hb : W b) (hl : b.length≤a.length) (sa : Sm a) (hle : V b≤V a) : ∀ (d i : Nat) (p : List Int) (c : Int),a.length - i=d→i≤a.length→W p→p.length=i→0≤c∧c≤1 →
  V p - P i * c=V (a.take i) - V (b.take i)→Ev (fun k=>nat_Sub.l0 k b p c a (a.length : Int) (i : Int)) (L (V a - V b),true):=by
 intro d
 induction d with
|zero =>
  intro i p c hd hi hp hpl hc hv
  have sa' : a.length < 35184372087809:=sa
  obtain rfl : i=a.length:=by omega
  refine Ev.step (fun k=>rfl) ?_
  refine Ev_neg (by omega) ?_
  refine Ev_some (trim_f hp) ?_
  refine Ev_now ?_
  rw [List.take_length,V_take_all b _ hl] at hv
  have h1:=V_lt hp
  rw [hpl] at h1
  have h2:=P_pos a.length
  have hc0 : c=0:=by
   rcases (show c=0∨c=1 by omega) with h|h
   ·exact h
   ·rw [h] at hv;omega
  rw [hc0] at hv
  rw [show V p=V a - V b by simpa using hv]
|succ d ih =>
  intro i p c hd hi hp hpl hc hv
  have HV:=Aside0.mk hv
  clear hv
  have sa' : a.length < 35184372087809:=sa
  have w1 : wrap64 ((i : Int)+1)=((i+1 : Nat) : Int):=by unfold wrap64;omega
  have ra:=W_rd ha (i : Int)
  have rb:=W_rd hb (i : Int)
  have hbb:=sub32_b (rd a (i : Int)) (rd b (i : Int)) c
  have hb01 : bits_Sub32.b (rd a (i : Int)) (rd b (i : Int)) c=0∨bits_Sub32.b (rd a (i : Int)) (rd b (i : Int)) c=1:=by
   rcases Int.lt_or_le (rd a (i : Int)) (rd b (i : Int)+c) with h|h
   ·exact .inr (hbb.1 h)
   ·exact .inl (hbb.2 h)
  have hlim : (rd a (i : Int) - rd b (i : Int) - c) % 4294967296 - 4294967296 * bits_Sub32.b (rd a (i : Int)) (rd b (i : Int)) c=rd a (i : Int) - rd b (i : Int) - c:=by
   rcases Int.lt_or_le (rd a (i : Int)) (rd b (i : Int)+c) with h|h
   ·rw [hbb.1 h];omega
   ·rw [hbb.2 h];omega
  have key : Aside0 (V (p++[(rd a (i : Int) - rd b (i : Int) - c) % 4294967296]) - P (i+1) * (bits_Sub32.b (rd a (i : Int)) (rd b (i : Int)) c)=V (a.take (i+1)) - V (b.take (i+1))):=⟨by
   have hv:=HV.out
   rw [V_snoc,hpl,V_take_succ' a i,V_take_succ' b i,P_succ]
   grind⟩
  have hrec:=ih (i+1) (p++[(rd a (i : Int) - rd b (i : Int) - c) % 4294967296]) (bits_Sub32.b (rd a (i : Int)) (rd b (i : Int)) c) (by omega) (by omega) (W_append hp (W_one (by omega) (by omega))) (by simp [hpl]) (by omega) key.out
  refine Ev.step (fun k=>rfl) ?_
  refine Ev_pos (by omega) ?_
  refine Ev_pos (by omega) ?_
  refine Ev_pos (by omega) ?_
  by_cases hib : (i : Int) < (b.length : Int)
  ·refine Ev_pos hib ?_
   refine Ev_some (sub32_f ra rb hc) ?_
   refine Ev_pos (by omega) ?_
   rw [w1]
   exact hrec
  ·have hz : rd b (i : Int)=0:=rd_beyond b _ (by omega)
   rw [hz] at hrec rb
   refine Ev_neg hib ?_
   refine Ev_some (sub32_f ra rb hc) ?_
   refine Ev_pos (by omega) ?_
   rw [w1]
   exact hrec
def subS (x y : Int) : List Int × Bool:=if x < y then ([],false) else (L (x - y),true)
theorem cm_neg {x y : Int} : cm x y < 0↔x < y:=by
 unfold cm
 split
 ·simp [*]
 ·split <;> simp [*]
theorem nsub_f {a b : List Int} (ha : W a) (hb : W b) (sa : Sm a) (sb : Sm b) : Ev (fun k=>nat_Sub.f k a b) (subS (V a) (V b)):=by
 have hla:=Sm_L ha sa
 have hlb:=Sm_L hb sb
 have va:=V_nonneg ha
 have vb:=V_nonneg hb
 have hla':=hla
 have hlb':=hlb
 unfold Sm at hla' hlb'
 refine Ev.bind (ncmp_f ha hb sa sb) ?_
 unfold subS
 by_cases h : V a < V b
 ·rw [if_pos h]
  refine Ev_pos (cm_neg.2 h) ?_
  exact Ev.now _
 ·rw [if_neg h]
  refine Ev_neg (fun e=>h (cm_neg.1 e)) ?_
  refine Ev_some (trim_f ha) ?_
  refine Ev_some (trim_f hb) ?_
  refine Ev_pos (by omega) ?_
  refine Ev_pos (by omega) ?_
  have hle : (L (V b)).length≤(L (V a)).length:=by
   apply L_length_le
   have h1:=V_lt (W_L (V a))
   rw [V_L va] at h1
   omega
  refine Ev_eq (nsub_l (W_L _) (W_L _) hle hla (by rw [V_L va,V_L vb];omega) _ 0 [] 0 rfl (Nat.zero_le _) W_nil rfl (by omega) (by simp [V])) ?_
  rw [V_L va,V_L vb]
theorem two_limbs {n : Int} (h0 : 0≤n) (h1 : n < 18446744073709551616) : W [n % 4294967296,(n / 4294967296) % 4294967296]∧V [n % 4294967296,(n / 4294967296) % 4294967296]=n :=
 ⟨W_cons.2 ⟨by omega,W_one (by omega) (by omega)⟩,by simp [V];omega⟩
theorem nof_f {n : Int} (h0 : 0≤n) (h1 : n < 18446744073709551616) : nat_Of.f n=some (L n):=by
 obtain ⟨hw,hv⟩:=two_limbs h0 h1
 unfold nat_Of.f
 rw [norm_f hw (by unfold Sm;simp),hv,Option.bind_some]
end Go.Proofs.Ytjiaobcoeegioaa.N
end
section
namespace Go.Proofs.Ytjiaobcoeegioaa.N
set_option linter.unusedVariables false
set_option linter.unusedSimpArgs false
open Go.RowKit Go.Proofs.YtjiaobcoeegioaaW.PrintWords Go.Proofs.YtjiaobcoeegioaaW.PrintLast Go.Proofs.Ytjiaobcoeegioaa.Pq
def bl (n : Int) : Int:=if 0 < n then (Nat.log2 n.toNat : Int)+1 else 0
theorem bl_zero : bl 0=0:=by decide +kernel
theorem bl_nonneg (n : Int) : 0≤bl n:=by unfold bl;split <;> omega
theorem bl_pos {n : Int} (h : 0 < n) : 0 < bl n:=by unfold bl;rw [if_pos h];omega
theorem bl_half {x : Int} (h : 0 < x) : bl x=bl (x / 2)+1:=by
 unfold bl
 rw [if_pos h,Nat.log2_def]
 by_cases h2 : x.toNat ≥ 2
 ·rw [if_pos h2,if_pos (by omega),show (x / 2).toNat=x.toNat / 2 by omega]
  omega
 ·rw [if_neg h2,if_neg (by omega)]
  rfl
theorem bl_log {n : Int} (h : 0 < n) : (2 : Int) ^ (n.toNat.log2)≤n∧n < (2 : Int) ^ (n.toNat.log2+1):=by
 have hne : n.toNat≠0:=by omega
 have h1:=Nat.log2_self_le hne
 have h2:=(Nat.log2_lt (k:=n.toNat.log2+1) hne).1 (Nat.lt_succ_self _)
 have e : n=(n.toNat : Int):=by omega
 constructor
 ·rw [e];exact_mod_cast h1
 ·rw [e];exact_mod_cast h2
theorem bl_of {n : Int} {m : Nat} (h1 : (2 : Int) ^ m≤n) (h2 : n < (2 : Int) ^ (m+1)) : bl n=(m : Int)+1:=by
 have hp : (0 : Int) < 2 ^ m:=Int.pow_pos (by decide)
 have hn : 0 < n:=by omega
 obtain ⟨k,rfl⟩ : ∃ k : Nat,n=(k : Int):=⟨n.toNat,by omega⟩
 have g1 : 2 ^ m≤k:=by exact_mod_cast h1
 have g2 : k < 2 ^ (m+1):=by exact_mod_cast h2
 have hk : k≠0:=by omega
 have e1:=(Nat.le_log2 (k:=m) hk).2 g1
 have e2:=(Nat.log2_lt (k:=m+1) hk).2 g2
 unfold bl
 rw [if_pos hn,Int.toNat_natCast]
 omega
theorem bl_le {m n : Int} (h : m≤n) : bl m≤bl n:=by
 by_cases hm : 0 < m
 ·unfold bl
  rw [if_pos hm,if_pos (by omega)]
  have hn0 : n.toNat≠0:=by omega
  have h1:=Nat.log2_self_le (n:=m.toNat) (by omega)
  have:=(Nat.le_log2 (k:=m.toNat.log2) hn0).2 (by omega)
  omega
 ·have:=bl_nonneg n
  have e : bl m=0:=by unfold bl;rw [if_neg hm]
  omega
theorem P_pow (i : Nat) : P i=(2 : Int) ^ (32 * i):=by
 induction i with
|zero=>exact P_zero
|succ i ih=>rw [P_succ,ih,show 32 * (i+1)=32 * i+32 by omega,Int.pow_add];omega
theorem bl_V {l : List Int} (hw : W l) (i : Nat) (hi : l.length=i+1) (hp : 0 < rd l (i : Int)) : bl (V l)=32 * (i : Int)+bl (rd l (i : Int)):=by
 have h:=bl_log hp
 have hv:=V_take_succ' l i
 rw [List.take_of_length_le (by omega)] at hv
 have h0:=V_nonneg (W_take hw i)
 have h1:=V_take_lt hw i
 have hP:=P_pos i
 have k1 : P i * (2 : Int) ^ ((rd l (i : Int)).toNat.log2)≤P i * rd l (i : Int):=Int.mul_le_mul_of_nonneg_left h.1 (by omega)
 have k2 : P i * (rd l (i : Int)+1)≤P i * (2 : Int) ^ ((rd l (i : Int)).toNat.log2+1):=Int.mul_le_mul_of_nonneg_left (by omega) (by omega)
 rw [Int.mul_add] at k2
 have e1 : (2 : Int) ^ (32 * i+(rd l (i : Int)).toNat.log2)=P i * (2 : Int) ^ ((rd l (i : Int)).toNat.log2):=by rw [Int.pow_add,P_pow]
 have e2 : (2 : Int) ^ (32 * i+(rd l (i : Int)).toNat.log2+1)=P i * (2 : Int) ^ ((rd l (i : Int)).toNat.log2+1):=by rw [Nat.add_assoc,Int.pow_add,P_pow]
 rw [bl_of (m:=32 * i+(rd l (i : Int)).toNat.log2) (by rw [e1];omega) (by rw [e2];omega)]
 unfold bl
 rw [if_pos hp]
 omega
theorem rd_last {n : Int} (h : 0 < n) : ∃ i,(L n).length=i+1∧0 < rd (L n) (i : Int):=by
 have hne : L n≠[]:=fun e=>by
  have:=(L_nil_iff (by omega)).1 e
  omega
 have hl:=List.length_pos_iff.2 hne
 refine ⟨(L n).length - 1,by omega,?_⟩
 have h1:=L_last hne
 have h2:=W_rd (W_L n) (((L n).length - 1 : Nat) : Int)
 have e : rd (L n) (((L n).length - 1 : Nat) : Int)=(L n).getLast hne:=by
  rw [List.getLast_eq_getElem]
  simp only [rd,Int.toNat_natCast,List.getD_eq_getElem?_getD]
  rw [List.getElem?_eq_getElem (by omega),Option.getD_some]
 omega
attribute [irreducible] bl
theorem tab_bl' : ∀ y : Fin 256,bt (⟨#[0,1,2,2,3,3,3,3,4,4,4,4,4,4,4,4,5,5,5,5,5,5,5,5,5,5,5,5,5,5,5,5,6,6,6,6,6,6,6,6,6,6,6,6,6,6,6,6,6,6,6,6,6,6,6,6,6,6,6,6,6,6,6,6,7,7,7,7,7,7,7,7,7,7,7,7,7,7,7,7,7,7,7,7,7,7,7,7,7,7,7,7,7,7,7,7,7,7,7,7,7,7,7,7,7,7,7,7,7,7,7,7,7,7,7,7,7,7,7,7,7,7,7,7,7,7,7,7,8,8,8,8,8,8,8,8,8,8,8,8,8,8,8,8,8,8,8,8,8,8,8,8,8,8,8,8,8,8,8,8,8,8,8,8,8,8,8,8,8,8,8,8,8,8,8,8,8,8,8,8,8,8,8,8,8,8,8,8,8,8,8,8,8,8,8,8,8,8,8,8,8,8,8,8,8,8,8,8,8,8,8,8,8,8,8,8,8,8,8,8,8,8,8,8,8,8,8,8,8,8,8,8,8,8,8,8,8,8,8,8,8,8,8,8,8,8,8,8,8,8,8,8,8,8,8,8]⟩ : ByteArray) (y.val : Int)=bl (y.val : Int):=by decide +kernel
set_option maxRecDepth 20000 in
theorem tab_bl {y : Int} (h0 : 0≤y) (h1 : y < 256) : bt (⟨#[0,1,2,2,3,3,3,3,4,4,4,4,4,4,4,4,5,5,5,5,5,5,5,5,5,5,5,5,5,5,5,5,6,6,6,6,6,6,6,6,6,6,6,6,6,6,6,6,6,6,6,6,6,6,6,6,6,6,6,6,6,6,6,6,7,7,7,7,7,7,7,7,7,7,7,7,7,7,7,7,7,7,7,7,7,7,7,7,7,7,7,7,7,7,7,7,7,7,7,7,7,7,7,7,7,7,7,7,7,7,7,7,7,7,7,7,7,7,7,7,7,7,7,7,7,7,7,7,8,8,8,8,8,8,8,8,8,8,8,8,8,8,8,8,8,8,8,8,8,8,8,8,8,8,8,8,8,8,8,8,8,8,8,8,8,8,8,8,8,8,8,8,8,8,8,8,8,8,8,8,8,8,8,8,8,8,8,8,8,8,8,8,8,8,8,8,8,8,8,8,8,8,8,8,8,8,8,8,8,8,8,8,8,8,8,8,8,8,8,8,8,8,8,8,8,8,8,8,8,8,8,8,8,8,8,8,8,8,8,8,8,8,8,8,8,8,8,8,8,8,8,8,8,8,8,8]⟩ : ByteArray) y=bl y:=by
 have h : bt (⟨#[0,1,2,2,3,3,3,3,4,4,4,4,4,4,4,4,5,5,5,5,5,5,5,5,5,5,5,5,5,5,5,5,6,6,6,6,6,6,6,6,6,6,6,6,6,6,6,6,6,6,6,6,6,6,6,6,6,6,6,6,6,6,6,6,7,7,7,7,7,7,7,7,7,7,7,7,7,7,7,7,7,7,7,7,7,7,7,7,7,7,7,7,7,7,7,7,7,7,7,7,7,7,7,7,7,7,7,7,7,7,7,7,7,7,7,7,7,7,7,7,7,7,7,7,7,7,7,7,8,8,8,8,8,8,8,8,8,8,8,8,8,8,8,8,8,8,8,8,8,8,8,8,8,8,8,8,8,8,8,8,8,8,8,8,8,8,8,8,8,8,8,8,8,8,8,8,8,8,8,8,8,8,8,8,8,8,8,8,8,8,8,8,8,8,8,8,8,8,8,8,8,8,8,8,8,8,8,8,8,8,8,8,8,8,8,8,8,8,8,8,8,8,8,8,8,8,8,8,8,8,8,8,8,8,8,8,8,8,8,8,8,8,8,8,8,8,8,8,8,8,8,8,8,8,8,8]⟩ : ByteArray) (y.toNat : Int)=bl (y.toNat : Int):=tab_bl' ⟨y.toNat,by omega⟩
 rw [show ((y.toNat : Nat) : Int)=y by omega] at h
 exact h
theorem bl_shift8 {x : Int} (h : 256≤x) : bl x=bl (x / 256)+8:=by
 rw [bl_half (x:=x) (by omega),bl_half (x:=x / 2) (by omega),bl_half (x:=x / 2 / 2) (by omega),bl_half (x:=x / 2 / 2 / 2) (by omega),bl_half (x:=x / 2 / 2 / 2 / 2) (by omega),
  bl_half (x:=x / 2 / 2 / 2 / 2 / 2) (by omega),bl_half (x:=x / 2 / 2 / 2 / 2 / 2 / 2) (by omega),bl_half (x:=x / 2 / 2 / 2 / 2 / 2 / 2 / 2) (by omega),show x / 2 / 2 / 2 / 2 / 2 / 2 / 2 / 2=x / 256 by omega]
 omega
theorem bl_small {x : Int} (h0 : 0≤x) (h1 : x < 256) : 0≤bl x∧bl x≤8:=by
 refine ⟨bl_nonneg x,?_⟩
 have:=bl_le (show x≤255 by omega)
 have e : bl 255=8:=by decide +kernel
 omega
set_option maxRecDepth 20000 in
theorem len32_f {x : Int} (h0 : 0≤x) (h1 : x < 4294967296) : bits_Len32.f x=some (bl x):=by
 unfold bits_Len32.f
 by_cases c1 : x ≥ 65536
 ·rw [if_pos c1]
  by_cases c2 : x / 65536 ≥ 256
  ·rw [if_pos c2,if_pos (by omega),if_pos (by omega),show x / 65536 / 256 % 256=x / 65536 / 256 by omega,tab_bl (by omega) (by omega)]
   have:=bl_small (x:=x / 65536 / 256) (by omega) (by omega)
   rw [bl_shift8 (x:=x) (by omega),bl_shift8 (x:=x / 256) (by omega),bl_shift8 (x:=x / 256 / 256) (by omega),show x / 256 / 256 / 256=x / 65536 / 256 by omega]
   unfold wrap64
   refine congrArg some ?_
   omega
  ·rw [if_neg c2,if_pos (by omega),if_pos (by omega),show x / 65536 % 256=x / 65536 by omega,tab_bl (by omega) (by omega)]
   have:=bl_small (x:=x / 65536) (by omega) (by omega)
   rw [bl_shift8 (x:=x) (by omega),bl_shift8 (x:=x / 256) (by omega),show x / 256 / 256=x / 65536 by omega]
   unfold wrap64
   refine congrArg some ?_
   omega
 ·rw [if_neg c1]
  by_cases c2 : x ≥ 256
  ·rw [if_pos c2,if_pos (by omega),if_pos (by omega),show x / 256 % 256=x / 256 by omega,tab_bl (by omega) (by omega)]
   have:=bl_small (x:=x / 256) (by omega) (by omega)
   rw [bl_shift8 (x:=x) (by omega)]
   unfold wrap64
   refine congrArg some ?_
   omega
  ·rw [if_neg c2,if_pos (by omega),if_pos (by omega),show x % 256=x by omega,tab_bl (by omega) (by omega)]
   have:=bl_small (x:=x) (by omega) (by omega)
   unfold wrap64
   refine congrArg some ?_
   omega
theorem bl_32 {x : Int} (h1 : x < 4294967296) : bl x≤32:=by
 have:=bl_le (show x≤4294967295 by omega)
 have e : bl 4294967295=32:=by decide +kernel
 omega
theorem bits_arith {n i t : Int} (h : n=i+1) (hi : 0≤i) (hn : n < 35184372087809) (h0 : 0≤t) (h1 : t≤32) : wrap64 (wrap64 (32 * n) - wrap64 (32 - t))=32 * i+t:=by
 unfold wrap64
 omega
theorem nbits_f {a : List Int} (ha : W a) (sa : Sm a) : nat_Bits.f a=some (bl (V a)):=by
 have va:=V_nonneg ha
 have la:=L_len_le ha
 have sa' : a.length < 35184372087809:=sa
 unfold nat_Bits.f
 rw [trim_f ha,Option.bind_some]
 by_cases hz : V a=0
 ·rw [hz,L_zero,bl_zero]
  exact if_pos rfl
 ·obtain ⟨i,hi,hp⟩:=rd_last (n:=V a) (by omega)
  have w1 : wrap64 (((L (V a)).length : Int) - 1)=(i : Int):=by unfold wrap64;omega
  have hb:=bl_V (W_L (V a)) i hi hp
  rw [V_L va] at hb
  have hr:=W_rd (W_L (V a)) (i : Int)
  have h32:=bl_32 hr.2
  have h32':=bl_nonneg (rd (L (V a)) (i : Int))
  rw [if_neg (by omega),w1,if_pos (by omega),if_pos (by omega)]
  unfold bits_LeadingZeros32.f
  rw [len32_f hr.1 hr.2,Option.bind_some,Option.bind_some,hb]
  exact congrArg some (bits_arith (by omega) (by omega) (by omega) h32' h32)
end Go.Proofs.Ytjiaobcoeegioaa.N
end
section
namespace Go.Proofs.Ytjiaobcoeegioaa.N
set_option linter.unusedVariables false
set_option linter.unusedSimpArgs false
open Go.RowKit Go.Proofs.YtjiaobcoeegioaaW.PrintWords Go.Proofs.YtjiaobcoeegioaaW.PrintLast Go.Proofs.Ytjiaobcoeegioaa.Pq
theorem limb_mul {x y o c : Int} (hx : 0≤x∧x < 4294967296) (hy : 0≤y∧y < 4294967296) (ho : 0≤o∧o < 4294967296) (hc : 0≤c∧c < 4294967296) :
  0≤x * y∧x * y≤18446744065119617025:=by
 constructor
 ·exact Int.mul_nonneg hx.1 hy.1
 ·have h1 : x * y≤4294967295 * y:=Int.mul_le_mul_of_nonneg_right (by omega) hy.1
  omega
theorem mul_wrap {x y o c : Int} (hx : 0≤x∧x < 4294967296) (hy : 0≤y∧y < 4294967296) (ho : 0≤o∧o < 4294967296) (hc : 0≤c∧c < 4294967296) :
  IntKind.u64.wrap (IntKind.u64.wrap (IntKind.u64.wrap (IntKind.u64.wrap x * IntKind.u64.wrap y)+IntKind.u64.wrap o)+c)=x * y+o+c:=by
 have h:=limb_mul hx hy ho hc
 rw [wrap_u64_of (x:=x) (by omega) (by omega),wrap_u64_of (x:=y) (by omega) (by omega),wrap_u64_of (x:=o) (by omega) (by omega),wrap_u64_of (x:=x * y) (by omega) (by omega),wrap_u64_of (x:=x * y+o) (by omega) (by omega),wrap_u64_of (by omega) (by omega)]
theorem mul_step {o : List Int} (n : Nat) (h : n < o.length) (x y c : Int) :
  V (o.set n ((x * y+rd o (n : Int)+c) % 4294967296))+P (n+1) * ((x * y+rd o (n : Int)+c) / 4294967296)=V o+P n * (x * y+c):=by
 rw [V_set o n _ h,P_succ]
 have:=Int.emod_add_mul_ediv (x * y+rd o (n : Int)+c) 4294967296
 grind
structure MulI (a b o : List Int) (n i : Nat) : Prop where
 w : W o
 len : o.length=n
 val : V o=V (a.take i) * V b
 zero : ∀ j : Nat,i+b.length≤j→rd o (j : Int)=0
structure MulJ (a b o : List Int) (n i j : Nat) (c : Int) : Prop where
 w : W o
 len : o.length=n
 c0 : 0≤c∧c < 4294967296
 val : V o+P (i+j) * c=V (a.take i) * V b+P i * (rd a (i : Int) * V (b.take j))
 zero : ∀ m : Nat,i+b.length≤m→rd o (m : Int)=0
theorem MulI.start (a b : List Int) (n : Nat) : MulI a b (List.replicate n 0) n 0 :=
 ⟨W_replicate n,by simp,by simp [V_replicate,V_nil],fun j _=>rd_replicate n j⟩
theorem MulI.inner {a b o : List Int} {n i : Nat} (h : MulI a b o n i) : MulJ a b o n i 0 0 :=
 ⟨h.w,h.len,by omega,by rw [h.val];simp [V_nil],h.zero⟩
theorem MulJ.step {a b o : List Int} {n i j : Nat} {c : Int} (h : MulJ a b o n i j c) (hb : W b) (ha : W a) (hj : j < b.length) (hn : i+b.length < n) :
  MulJ a b (o.set (i+j) ((rd a (i : Int) * rd b (j : Int)+rd o ((i+j : Nat) : Int)+c) % 4294967296)) n i (j+1) ((rd a (i : Int) * rd b (j : Int)+rd o ((i+j : Nat) : Int)+c) / 4294967296):=by
 have hlt : i+j < o.length:=by rw [h.len];omega
 have ra:=W_rd ha (i : Int)
 have rb:=W_rd hb (j : Int)
 have ro:=W_rd h.w ((i+j : Nat) : Int)
 have hm:=limb_mul ra rb ro h.c0
 have hc:=h.c0
 refine ⟨W_set h.w _ (by omega) (by omega),by rw [List.length_set,h.len],by omega,?_,?_⟩
 ·have e:=mul_step (i+j) hlt (rd a (i : Int)) (rd b (j : Int)) c
  have hv:=h.val
  have ep:=P_add i j
  rw [V_take_succ' b j,show i+(j+1)=i+j+1 by omega]
  clear hm hc ro rb ra
  grind
 ·intro m hm
  rw [rd_set_ne _ _ _ _ (by omega)]
  exact h.zero m hm
theorem MulJ.done {a b o : List Int} {n i : Nat} {c : Int} (h : MulJ a b o n i b.length c) (hn : i+b.length < n) : MulI a b (o.set (i+b.length) (c % 4294967296)) n (i+1):=by
 have hc:=h.c0
 rw [Int.emod_eq_of_lt hc.1 hc.2]
 refine ⟨W_set h.w _ hc.1 hc.2,by rw [List.length_set,h.len],?_,?_⟩
 ·rw [V_set _ _ _ (by rw [h.len];omega),h.zero (i+b.length) (Nat.le_refl _),V_take_succ' a i]
  have hv:=h.val
  rw [List.take_length] at hv
  grind
 ·intro m hm
  rw [rd_set_ne _ _ _ _ (by omega)]
  exact h.zero m (by omega)
theorem nmul_l1 {a b : List Int} (ha : W a) (hb : W b) (hl : a.length+b.length≤70368744177664) {i : Nat} (hi : i < a.length) (R : List Int)
  (hnext : ∀ o,MulI a b o (a.length+b.length) (i+1)→Ev (fun k=>nat_Mul.l0 k b o a (a.length : Int) ((i+1 : Nat) : Int)) R) :
  ∀ (d j : Nat) (o : List Int) (c : Int),b.length - j=d→j≤b.length→MulJ a b o (a.length+b.length) i j c →
   Ev (fun k=>nat_Mul.l1 k b o (i : Int) (rd a (i : Int)) c a (a.length : Int) (i : Int) b (b.length : Int) (j : Int)) R:=by
 intro d
 induction d with
|zero =>
  intro j o c hd hj h
  obtain rfl : j=b.length:=by omega
  have hlen:=h.len
  have w1 : wrap64 ((i : Int)+(b.length : Int))=((i+b.length : Nat) : Int):=by unfold wrap64;omega
  have w2 : wrap64 ((i : Int)+1)=((i+1 : Nat) : Int):=by unfold wrap64;omega
  refine Ev_up ?_
  unfold nat_Mul.l1
  refine Ev_neg (by omega) ?_
  rw [w1,w2,Int.toNat_natCast]
  refine Ev_pos (by omega) ?_
  refine Ev_pos (by omega) ?_
  exact hnext _ (h.done (by omega))
|succ d ih =>
  intro j o c hd hj h
  have hlen:=h.len
  have w1 : wrap64 ((i : Int)+(j : Int))=((i+j : Nat) : Int):=by unfold wrap64;omega
  have w2 : wrap64 ((j : Int)+1)=((j+1 : Nat) : Int):=by unfold wrap64;omega
  refine Ev_up ?_
  unfold nat_Mul.l1
  refine Ev_pos (by omega) ?_
  refine Ev_pos (by omega) ?_
  refine Ev_pos (by omega) ?_
  rw [w1,w2,Int.toNat_natCast]
  refine Ev_pos (by omega) ?_
  refine Ev_pos (by omega) ?_
  rw [mul_wrap (W_rd ha _) (W_rd hb _) (W_rd h.w _) h.c0]
  exact ih (j+1) _ _ (by omega) (by omega) (h.step hb ha (by omega) (by omega))
theorem nmul_l0 {a b : List Int} (ha : W a) (hb : W b) (hl : a.length+b.length≤70368744177664) : ∀ (d i : Nat) (o : List Int),a.length - i=d→i≤a.length→MulI a b o (a.length+b.length) i →
  Ev (fun k=>nat_Mul.l0 k b o a (a.length : Int) (i : Int)) (L (V a * V b)):=by
 intro d
 induction d with
|zero =>
  intro i o hd hi h
  obtain rfl : i=a.length:=by omega
  refine Ev_up ?_
  unfold nat_Mul.l0
  refine Ev_neg (by omega) ?_
  refine Ev_some (trim_f h.w) ?_
  refine Ev_now ?_
  rw [h.val,List.take_length]
|succ d ih =>
  intro i o hd hi h
  refine Ev_up ?_
  unfold nat_Mul.l0
  refine Ev_pos (by omega) ?_
  refine Ev_pos (by omega) ?_
  refine Ev_pos (by omega) ?_
  exact nmul_l1 ha hb hl (by omega) _ (fun o' h'=>ih (i+1) o' (by omega) (by omega) h') _ 0 o 0 rfl (Nat.zero_le _) h.inner
theorem nmul_f {a b : List Int} (ha : W a) (hb : W b) (hl : a.length+b.length≤70368744177664) : Ev (fun k=>nat_Mul.f k a b) (L (V a * V b)):=by
 have la:=L_len_le ha
 have lb:=L_len_le hb
 have va:=V_nonneg ha
 have vb:=V_nonneg hb
 refine Ev_some (trim_f ha) ?_
 refine Ev_some (trim_f hb) ?_
 have w1 : wrap64 (((L (V a)).length : Int)+((L (V b)).length : Int))=(((L (V a)).length+(L (V b)).length : Nat) : Int):=by unfold wrap64;omega
 rw [w1,Int.toNat_natCast]
 refine Ev_pos (by omega) ?_
 refine Ev_pos (by omega) ?_
 have:=nmul_l0 (W_L (V a)) (W_L (V b)) (by omega) _ 0 _ rfl (Nat.zero_le _) (MulI.start _ _ _)
 rw [V_L va,V_L vb] at this
 exact this
end Go.Proofs.Ytjiaobcoeegioaa.N
end
section
namespace Go.Proofs.Ytjiaobcoeegioaa.N
set_option linter.unusedVariables false
set_option linter.unusedSimpArgs false
open Go.RowKit Go.Proofs.YtjiaobcoeegioaaW.PrintWords Go.Proofs.YtjiaobcoeegioaaW.PrintLast Go.Proofs.Ytjiaobcoeegioaa.Pq
structure Nm (l : List Int) (n : Nat) (x : Int) : Prop where
 w : W l
 v : V l=x
 le : l.length≤n
theorem Nm.pos {l : List Int} {n : Nat} {x : Int} (h : Nm l n x) : 0≤x:=h.v ▸ V_nonneg h.w
theorem Nm.lt {l : List Int} {n : Nat} {x : Int} (h : Nm l n x) : x < P n:=by
 have h1:=V_lt h.w
 have h2:=P_le h.le
 have h3:=h.v
 omega
theorem Nm.L {n : Nat} {x : Int} (h0 : 0≤x) (h1 : x < P n) : Nm (L x) n x:=⟨W_L x,V_L h0,L_length_le n h1⟩
theorem Nm.nil : Nm [] 0 0:=⟨W_nil,V_nil,Nat.le_refl _⟩
theorem Nm.one : Nm [1] 1 1:=⟨W_one (by decide) (by decide),V_one 1,Nat.le_refl _⟩
theorem Nm.up {l : List Int} {m n : Nat} {x : Int} (h : Nm l m x) (hmn : m≤n) : Nm l n x:=⟨h.w,h.v,Nat.le_trans h.le hmn⟩
theorem Nm.norm {l : List Int} {n : Nat} {x : Int} (h : Nm l n x) : Nm (N.L x) n x:=Nm.L h.pos h.lt
theorem Nm.sumL {a b : List Int} {m n : Nat} {x y : Int} (h : Nm a m x) (k : Nm b n y) : Nm (N.L (x+y)) (m+n+1) (x+y):=by
 have h1:=h.lt
 have h2:=k.lt
 have h3:=h.pos
 have h4:=k.pos
 have h5:=P_le (show m≤m+n by omega)
 have h6:=P_le (show n≤m+n by omega)
 refine Nm.L (by omega) ?_
 rw [P_succ]
 omega
theorem Nm.mulL {a b : List Int} {m n : Nat} {x y : Int} (h : Nm a m x) (k : Nm b n y) : Nm (N.L (x * y)) (m+n) (x * y):=by
 refine Nm.L (Int.mul_nonneg h.pos k.pos) ?_
 rw [P_add]
 have h1 : x * y≤x * (P n - 1):=Int.mul_le_mul_of_nonneg_left (by have:=k.lt;omega) h.pos
 have h2 : x * P n < P m * P n:=Int.mul_lt_mul_of_pos_right h.lt (P_pos n)
 have h3:=h.pos
 rw [Int.mul_sub] at h1
 omega
theorem Nm.add {a b : List Int} {m n : Nat} {x y : Int} (h : Nm a m x) (k : Nm b n y) (hm : m < 35184372087809) (hn : n < 35184372087809) : Ev (fun r=>nat_Add.f r a b) (N.L (x+y)):=by
 have h1:=h.le
 have h2:=k.le
 have e:=nadd_f h.w k.w (by unfold Sm;omega) (by unfold Sm;omega)
 rwa [h.v,k.v] at e
theorem Nm.sub {a b : List Int} {m n : Nat} {x y : Int} (h : Nm a m x) (k : Nm b n y) (hm : m < 35184372087809) (hn : n < 35184372087809) : Ev (fun r=>nat_Sub.f r a b) (subS x y):=by
 have h1:=h.le
 have h2:=k.le
 have e:=nsub_f h.w k.w (by unfold Sm;omega) (by unfold Sm;omega)
 rwa [h.v,k.v] at e
theorem Nm.mul {a b : List Int} {m n : Nat} {x y : Int} (h : Nm a m x) (k : Nm b n y) (hm : m < 35184372087809) (hn : n < 35184372087809) : Ev (fun r=>nat_Mul.f r a b) (N.L (x * y)):=by
 have h1:=h.le
 have h2:=k.le
 have e:=nmul_f h.w k.w (by omega)
 rwa [h.v,k.v] at e
theorem Nm.nrm {a : List Int} {m : Nat} {x : Int} (h : Nm a m x) (hm : m < 35184372087809) : nat_Norm.f a=some (N.L x):=by
 have h1:=h.le
 have e:=norm_f h.w (by unfold Sm;omega)
 rwa [h.v] at e
end Go.Proofs.Ytjiaobcoeegioaa.N
end
section
namespace Go.Proofs.Ytjiaobcoeegioaa.N
set_option linter.unusedVariables false
set_option linter.unusedSimpArgs false
open Go Go.RowKit Go.Proofs.YtjiaobcoeegioaaW.PrintWords Go.Proofs.YtjiaobcoeegioaaW.PrintLast Go.Proofs.YtjiaobcoeegioaaW.PrintMore Go.Proofs.Ytjiaobcoeegioaa.Pq
def shS (x s : Int) : List Int × Bool:=if s < 0 then ([],false) else if s > 65536 then ([],false) else (L (x * 2 ^ s.toNat),true)
theorem u32_wrap (x : Int) : IntKind.u32.wrap x=x % 4294967296:=by
 simp only [IntKind.wrap,IntKind.bits,IntKind.signed]
 simp
theorem shl_limb {r : Nat} (hr : r < 32) {x c : Int} (hx : 0≤x∧x < 4294967296) (hc : 0≤c∧c < 2 ^ r) :
  Go.bits .or .u32 (shl .u32 x (r : Int)) c=x * 2 ^ r % 4294967296+c∧shr .u64 (IntKind.u64.wrap x) (32 - (r : Int)) % 4294967296=x * 2 ^ r / 4294967296 ∧
   0≤x * 2 ^ r % 4294967296+c∧x * 2 ^ r % 4294967296+c < 4294967296∧0≤x * 2 ^ r / 4294967296∧x * 2 ^ r / 4294967296 < 2 ^ r:=by
 have hT : (0 : Int) < 2 ^ r:=Int.pow_pos (by decide)
 have hU : (0 : Int) < 2 ^ (32 - r):=Int.pow_pos (by decide)
 have hTU : (2 : Int) ^ r * 2 ^ (32 - r)=4294967296:=by rw [← Int.pow_add,show r+(32 - r)=32 by omega];rfl
 have e1 : shl .u32 x (r : Int)=x * 2 ^ r % 4294967296:=by
  unfold shl
  rw [u32_wrap,Int.toNat_natCast,Nat.min_eq_left (show r≤IntKind.u32.bits by show r≤32;omega)]
 have e2 : shr .u64 (IntKind.u64.wrap x) (32 - (r : Int))=x / 2 ^ (32 - r):=by
  unfold shr
  rw [wrap_u64_of hx.1 (by omega),show (32 - (r : Int)).toNat=32 - r by omega,Nat.min_eq_left (show 32 - r≤IntKind.u64.bits by show 32 - r≤64;omega)]
 have key : x * 2 ^ r % 4294967296 % 2 ^ r=0:=by
  rw [← hTU,Int.emod_emod_of_dvd _ (Int.dvd_mul_right _ _)]
  exact Int.mul_emod_left _ _
 have hTle : (2 : Int) ^ r≤4294967296:=by
  have : (2 : Int) ^ r * 1≤2 ^ r * 2 ^ (32 - r):=Int.mul_le_mul_of_nonneg_left (by omega) (by omega)
  rw [hTU] at this
  omega
 have jo : ∀ y : Int,0≤y→y % 2 ^ r=0→y < 4294967296→Go.bits .or .u32 y c=y+c:=fun y h0 h1 h2 =>
  bits_join .u32 32 (Nat.le_refl _) (fun n h0 h1=>by rw [u32_wrap];omega) r y c h0 h1 (by omega) hc.1 hc.2 (by omega)
 rw [e1,e2,jo _ (by omega) key (by omega)]
 clear jo e1 e2
 generalize (2 : Int) ^ r=T at *
 generalize (2 : Int) ^ (32 - r)=U at *
 have m1 : x * T % 4294967296=T * (x % U):=by rw [← hTU,Int.mul_comm x T,Int.mul_emod_mul_of_pos _ _ hT]
 have d1 : x * T / 4294967296=x / U:=by rw [← hTU,Int.mul_comm x T,Int.mul_ediv_mul_of_pos _ _ hT]
 have xu0:=Int.emod_nonneg x (show U≠0 by omega)
 have xu1:=Int.emod_lt_of_pos x hU
 have xd0 : 0≤x / U:=Int.ediv_nonneg hx.1 (by omega)
 have xd1 : x / U < T:=Int.ediv_lt_of_lt_mul hU (by rw [hTU];exact hx.2)
 have p0 : 0≤T * (x % U):=Int.mul_nonneg (by omega) xu0
 have p1 : T * (x % U+1)≤T * U:=Int.mul_le_mul_of_nonneg_left (by omega) (by omega)
 rw [Int.mul_add,hTU] at p1
 rw [m1,d1]
 clear m1 d1 key
 refine ⟨rfl,?_,by omega,by omega,xd0,xd1⟩
 rw [Int.emod_eq_of_lt xd0 (by omega)]
theorem shl_step {r : Nat} (hr : r < 32) {x c : Int} (hx : 0≤x∧x < 4294967296) (hc : 0≤c∧c < 2 ^ r) :
  ∃ dg cy,Go.bits .or .u32 (shl .u32 x (r : Int)) c=dg∧shr .u64 (IntKind.u64.wrap x) (32 - (r : Int)) % 4294967296=cy∧0≤dg∧dg < 4294967296∧0≤cy∧cy < 2 ^ r∧dg+4294967296 * cy=x * 2 ^ r+c:=by
 obtain ⟨e1,e2,b1,b2,b3,b4⟩:=shl_limb hr hx hc
 have e:=Int.emod_add_mul_ediv (x * 2 ^ r) 4294967296
 refine ⟨_,_,e1,e2,b1,b2,b3,b4,?_⟩
 clear e1 e2 b1 b2 b3 b4 hc hx
 generalize x * 2 ^ r=X at *
 omega
theorem two_pow_le' : ∀ r : Fin 32,(2 : Int) ^ r.val≤4294967296:=by decide +kernel
theorem two_pow_le {r : Nat} (hr : r < 32) : (2 : Int) ^ r≤4294967296:=two_pow_le' ⟨r,hr⟩
theorem nshl_l {t : List Int} (ht : W t) {s : Int} {q r : Nat} {T : Int} (hTB : T≤4294967296) (hr : r < 32) (hs : Aside0 (Int.tmod s 32=(r : Int))) (hl : q+t.length < 35184372088832)
  (step : ∀ x c : Int,0≤x∧x < 4294967296→0≤c∧c < T → ∃ dg cy,Go.bits .or .u32 (shl .u32 x (r : Int)) c=dg∧shr .u64 (IntKind.u64.wrap x) (32 - (r : Int)) % 4294967296=cy∧0≤dg∧dg < 4294967296∧0≤cy∧cy < T∧dg+4294967296 * cy=x * T+c) :
  ∀ (d i : Nat) (o : List Int) (c : Int),t.length - i=d→i≤t.length→W o→o.length=q+i→0≤c∧c < T →
   Aside0 (V o+P (q+i) * c=P q * (T * V (t.take i)))→Ev (fun k=>nat_Shl.l0 k s o c t (t.length : Int) (i : Int)) (L (P q * (T * V t)),true):=by
 intro d
 induction d with
|zero =>
  intro i o c hd hi hw ho hc HV
  obtain rfl : i=t.length:=by omega
  refine Ev_up ?_
  unfold nat_Shl.l0
  refine Ev_neg (by omega) ?_
  refine Ev_pos (by omega) ?_
  refine Ev_some (trim_f (W_append hw (W_one hc.1 (by omega)))) ?_
  refine Ev_now ?_
  have hv:=HV.out
  rw [List.take_length] at hv
  rw [V_snoc,ho,hv]
|succ d ih =>
  intro i o c hd hi hw ho hc HV
  have w1 : wrap64 ((i : Int)+1)=((i+1 : Nat) : Int):=by unfold wrap64;omega
  have w2 : wrap64 (32 - (r : Int))=32 - (r : Int):=by unfold wrap64;omega
  have rt:=W_rd ht (i : Int)
  obtain ⟨dg,cy,e1,e2,b1,b2,b3,b4,hs0⟩:=step _ c rt hc
  have HS:=Aside0.mk hs0
  clear hs0
  have key : Aside0 (V (o++[dg])+P (q+(i+1)) * cy=P q * (T * V (t.take (i+1)))):=⟨by
   have hv:=HV.out
   have hs1:=HS.out
   rw [V_snoc,ho,V_take_succ' t i,show q+(i+1)=q+i+1 by omega,P_succ,P_add]
   rw [P_add] at hv
   clear e1 e2 ih
   grind⟩
  have hrec:=ih (i+1) (o++[dg]) cy (by omega) (by omega) (W_append hw (W_one b1 b2)) (by simp [ho];omega) ⟨b3,b4⟩ key
  refine Ev_up ?_
  unfold nat_Shl.l0
  refine Ev_pos (by omega) ?_
  refine Ev_pos (by omega) ?_
  refine Ev_pos (by omega) ?_
  rw [hs.out,w1,w2,e1,e2]
  refine Ev_pos (by omega) ?_
  refine Ev_pos (by omega) ?_
  refine Ev_pos (by omega) ?_
  exact hrec
theorem two_pow_split {s : Int} {q r : Nat} (h : s=32 * (q : Int)+(r : Int)) : (2 : Int) ^ s.toNat=P q * 2 ^ r:=by
 rw [show s.toNat=32 * q+r by omega,Int.pow_add,P_pow]
theorem nshl_f {a : List Int} (ha : W a) (sa : a.length < 35184370000000) (s : Int) : Ev (fun k=>nat_Shl.f k a s) (shS (V a) s):=by
 have la:=L_len_le ha
 have va:=V_nonneg ha
 unfold shS
 by_cases h0 : s < 0
 ·rw [if_pos h0]
  refine Ev_pos h0 ?_
  refine Ev_up ?_
  unfold nat_Shl.j0
  refine Ev_pos rfl ?_
  exact Ev.now _
 ·rw [if_neg h0]
  refine Ev_neg h0 ?_
  refine Ev_up ?_
  unfold nat_Shl.j0
  by_cases h1 : s > 65536
  ·rw [if_pos h1,decide_eq_true h1]
   refine Ev_pos rfl ?_
   exact Ev.now _
  ·rw [if_neg h1,decide_eq_false h1]
   refine Ev_neg (by decide) ?_
   have e1 : Int.tdiv s 32=s / 32:=Int.tdiv_eq_ediv_of_nonneg (by omega)
   have e2 : Aside0 (Int.tmod s 32=((s % 32).toNat : Int)):=⟨by rw [Int.tmod_eq_emod_of_nonneg (by omega)];omega⟩
   have w1 : wrap64 (Int.tdiv s 32)=((s / 32).toNat : Int):=by rw [e1];clear e1;unfold wrap64;omega
   clear e1
   rw [w1,Int.toNat_natCast]
   refine Ev_pos (by omega) ?_
   refine Ev_pos (by omega) ?_
   refine Ev_some (trim_f ha) ?_
   have h:=nshl_l (W_L (V a)) (s:=s) (q:=(s / 32).toNat) (r:=(s % 32).toNat) (two_pow_le (by omega)) (by omega) e2 (by omega) (fun x c hx hc=>shl_step (by omega) hx hc) _ 0 (List.replicate (s / 32).toNat 0) 0 rfl (Nat.zero_le _) (W_replicate _) (by simp) ⟨by omega,Int.pow_pos (by decide)⟩ ⟨by simp [V_replicate,V_nil]⟩
   refine Ev_eq h ?_
   rw [V_L va,two_pow_split (s:=s) (q:=(s / 32).toNat) (r:=(s % 32).toNat) (by omega),Int.mul_comm (V a),Int.mul_assoc]
end Go.Proofs.Ytjiaobcoeegioaa.N
end
section
namespace Go.Proofs.Ytjiaobcoeegioaa.N
set_option linter.unusedVariables false
set_option linter.unusedSimpArgs false
open Go.RowKit Go.Proofs.YtjiaobcoeegioaaW.PrintWords Go.Proofs.YtjiaobcoeegioaaW.PrintLast Go.Proofs.Ytjiaobcoeegioaa.Pq
theorem two_pow_mono {m n : Nat} (h : m≤n) : (2 : Int) ^ m≤2 ^ n:=by
 obtain ⟨d,rfl⟩:=Nat.exists_eq_add_of_le h
 rw [Int.pow_add]
 have h1 : (0 : Int) < 2 ^ m:=Int.pow_pos (by decide)
 have h2 : (0 : Int) < 2 ^ d:=Int.pow_pos (by decide)
 have h3 : (2 : Int) ^ m * 1≤2 ^ m * 2 ^ d:=Int.mul_le_mul_of_nonneg_left (by omega) (by omega)
 omega
theorem shS_ok {x s : Int} (h0 : 0≤s) (h1 : s≤65536) : shS x s=(L (x * 2 ^ s.toNat),true):=by
 unfold shS
 rw [if_neg (by omega),if_neg (by omega)]
theorem Nm.shl {a : List Int} {n : Nat} {x : Int} (h : Nm a n x) (hn : n < 35184360000000) (s : Int) : Ev (fun k=>nat_Shl.f k a s) (shS x s):=by
 have h1:=h.le
 have e:=nshl_f h.w (by omega) s
 rwa [h.v] at e
theorem Nm.bits {a : List Int} {n : Nat} {x : Int} (h : Nm a n x) (hn : n < 35184360000000) : nat_Bits.f a=some (bl x):=by
 have h1:=h.le
 have e:=nbits_f h.w (by unfold Sm;omega)
 rwa [h.v] at e
theorem bl_shift {x : Int} (h : 0 < x) (n : Nat) : bl (x * 2 ^ n)=bl x+(n : Int):=by
 have h1:=bl_log h
 have hT : (0 : Int) < 2 ^ n:=Int.pow_pos (by decide)
 have k1 : (2 : Int) ^ x.toNat.log2 * 2 ^ n≤x * 2 ^ n:=Int.mul_le_mul_of_nonneg_right h1.1 (by omega)
 have k2 : x * 2 ^ n < (2 : Int) ^ (x.toNat.log2+1) * 2 ^ n:=Int.mul_lt_mul_of_pos_right h1.2 hT
 rw [← Int.pow_add] at k1 k2
 rw [bl_of (m:=x.toNat.log2+n) k1 (by rw [show x.toNat.log2+n+1=x.toNat.log2+1+n by omega];exact k2)]
 have e : bl x=(x.toNat.log2 : Int)+1:=bl_of h1.1 h1.2
 omega
theorem Nm.bl_le {l : List Int} {n : Nat} {x : Int} (h : Nm l n x) : bl x≤32 * (n : Int):=by
 by_cases hp : 0 < x
 ·obtain ⟨i,hi,hr⟩:=rd_last hp
  have h1:=bl_V (W_L x) i hi hr
  rw [V_L h.pos] at h1
  have h2:=bl_32 (W_rd (W_L x) (i : Int)).2
  have h3:=h.norm.le
  omega
 ·have:=h.pos
  obtain rfl : x=0:=by omega
  rw [bl_zero]
  omega
end Go.Proofs.Ytjiaobcoeegioaa.N
end
section
namespace Go.Proofs.Ytjiaobcoeegioaa.N
set_option linter.unusedVariables false
set_option linter.unusedSimpArgs false
open Go Go.RowKit Go.Proofs.YtjiaobcoeegioaaW.PrintWords Go.Proofs.YtjiaobcoeegioaaW.PrintLast Go.Proofs.YtjiaobcoeegioaaW.PrintMore Go.Proofs.Ytjiaobcoeegioaa.Pq
theorem div32_f {a b d : Int} (ha : 0≤a∧a < d) (hb : 0≤b∧b < 4294967296) (hd : d < 4294967296) : bits_Div32.f a b d=some ((a * 4294967296+b) / d,(a * 4294967296+b) % d):=if_pos ⟨ha,hb,hd⟩
theorem small_l {x : List Int} (hx : W x) {dv : Int} (hd : 0 < dv∧dv < 4294967296) (hl : x.length < 35184372087809) : ∀ (i : Nat) (o : List Int) (r : Int),i≤x.length→W o→o.length=x.length→0≤r∧r < dv →
  (∀ j : Nat,j < i→rd o (j : Int)=0)→Aside0 (P i * r+dv * V o+V (x.take i)=V x) →
  Ev (fun k=>nat_small.l0 k x dv o r ((i : Int) - 1)) (L (V x / dv),L (V x % dv)):=by
 intro i
 induction i with
|zero =>
  intro o r hi hw ho hr hz HV
  refine Ev_up ?_
  unfold nat_small.l0
  refine Ev_neg (by omega) ?_
  refine Ev_some (trim_f hw) ?_
  refine Ev_some (trim_f (W_one hr.1 (by omega))) ?_
  refine Ev_now ?_
  have hv:=HV.out
  rw [List.take_zero,V_nil,P_zero] at hv
  have h1 : V x / dv=V o:=by
   rw [← hv,show 1 * r+dv * V o+0=r+dv * V o by omega,Int.add_mul_ediv_left _ _ (by omega),Int.ediv_eq_zero_of_lt hr.1 hr.2]
   omega
  have h2 : V x % dv=r:=by
   rw [← hv,show 1 * r+dv * V o+0=r+dv * V o by omega,Int.add_mul_emod_self_left,Int.emod_eq_of_lt hr.1 hr.2]
  rw [h1,h2,V_one]
|succ i ih =>
  intro o r hi hw ho hr hz HV
  have rx:=W_rd hx (i : Int)
  have w1 : wrap64 (((i+1 : Nat) : Int) - 1 - 1)=(i : Int) - 1:=by unfold wrap64;omega
  have w0 : ((i+1 : Nat) : Int) - 1=(i : Int):=by omega
  have q0 : 0≤(r * 4294967296+rd x (i : Int)) / dv:=Int.ediv_nonneg (by omega) (by omega)
  have q1 : (r * 4294967296+rd x (i : Int)) / dv < 4294967296:=Int.ediv_lt_of_lt_mul hd.1 (by omega)
  have r0:=Int.emod_nonneg (r * 4294967296+rd x (i : Int)) (show dv≠0 by omega)
  have r1:=Int.emod_lt_of_pos (r * 4294967296+rd x (i : Int)) hd.1
  have key : Aside0 (P i * ((r * 4294967296+rd x (i : Int)) % dv)+dv * V (o.set i ((r * 4294967296+rd x (i : Int)) / dv))+V (x.take i)=V x):=⟨by
   have hv:=HV.out
   have e:=Int.emod_add_mul_ediv (r * 4294967296+rd x (i : Int)) dv
   rw [V_set o i _ (by omega),hz i (by omega)]
   rw [V_take_succ' x i,P_succ] at hv
   clear ih hz
   grind⟩
  have hrec:=ih (o.set i ((r * 4294967296+rd x (i : Int)) / dv)) ((r * 4294967296+rd x (i : Int)) % dv) (by omega) (W_set hw _ q0 q1) (by rw [List.length_set,ho]) ⟨r0,r1⟩
   (fun j hj=>by rw [rd_set_ne _ _ _ _ (by omega)];exact hz j (by omega)) key
  refine Ev_up ?_
  unfold nat_small.l0
  rw [w1,w0]
  refine Ev_pos (by omega) ?_
  refine Ev_pos (by omega) ?_
  refine Ev_pos (by omega) ?_
  refine Ev_some (div32_f hr rx hd.2) ?_
  rw [Int.toNat_natCast]
  refine Ev_pos (by omega) ?_
  exact hrec
theorem small_f {x : List Int} (hx : W x) {dv : Int} (hd : 0 < dv∧dv < 4294967296) (hl : x.length < 35184372087809) : Ev (fun k=>nat_small.f k x dv) (L (V x / dv),L (V x % dv)):=by
 have w1 : wrap64 ((x.length : Int) - 1)=(x.length : Int) - 1:=by unfold wrap64;omega
 unfold nat_small.f
 refine Ev_pos (by omega) ?_
 refine Ev_pos (by omega) ?_
 rw [w1,Int.toNat_natCast]
 exact small_l hx hd hl x.length _ 0 (Nat.le_refl _) (W_replicate _) (by simp) ⟨by omega,hd.1⟩ (fun j _=>rd_replicate _ _) ⟨by simp [V_replicate]⟩
theorem V_drop (l : List Int) (i : Nat) : V (l.drop i)=rd l (i : Int)+4294967296 * V (l.drop (i+1)):=by
 by_cases h : i < l.length
 ·rw [List.drop_eq_getElem_cons h,V_cons]
  simp [rd,List.getD_eq_getElem?_getD,h]
 ·rw [rd_beyond l i (by simpa using h),List.drop_of_length_le (by omega),List.drop_of_length_le (by omega),V_nil]
  rfl
theorem or64_f {h x : Int} (hh : 0≤h∧h < 4294967296) (hx : 0≤x∧x < 4294967296) : Go.bits .or .u64 (h * 4294967296) x=h * 4294967296+x :=
 bits_join .u64 64 (Nat.le_refl _) (fun n h0 h1=>wrap_u64_of h0 h1) 32 _ _ (by omega) (by omega) (by omega) hx.1 hx.2 (by omega)
theorem or64_w {h x : Int} (hh : 0≤h∧h < 4294967296) (hx : 0≤x∧x < 4294967296) : Go.bits .or .u64 (IntKind.u64.wrap (IntKind.u64.wrap h * 4294967296)) (IntKind.u64.wrap x)=h * 4294967296+x:=by
 rw [wrap_u64_of hh.1 (by omega),wrap_u64_of (x:=h * 4294967296) (by omega) (by omega),wrap_u64_of hx.1 (by omega),or64_f hh hx]
theorem or64_z {x : Int} (hx : 0≤x∧x < 4294967296) : Go.bits .or .u64 0 (IntKind.u64.wrap x)=0 * 4294967296+x:=by
 rw [wrap_u64_of hx.1 (by omega)]
 exact or64_f (h:=0) (by omega) hx
theorem shr_limb {T U lo Y hi Z : Int} (hT : 0 < T) (hTU : T * U=4294967296) (hlo : 0≤lo∧lo < 4294967296) (hY : Y=hi+4294967296 * Z) :
  (lo+4294967296 * Y) / T=(hi * 4294967296+lo) / T % 4294967296+4294967296 * (Y / T):=by
 have eY:=Int.emod_add_mul_ediv Y T
 have eh:=Int.emod_add_mul_ediv hi T
 have y0:=Int.emod_nonneg Y (show T≠0 by omega)
 have y1:=Int.emod_lt_of_pos Y hT
 have em : hi % T=Y % T:=by
  rw [hY,← hTU,Int.mul_assoc,Int.add_mul_emod_self_left]
 have a1 : (lo+4294967296 * Y) / T=(lo+4294967296 * (Y % T)) / T+4294967296 * (Y / T):=by
  rw [show lo+4294967296 * Y=lo+4294967296 * (Y % T)+T * (4294967296 * (Y / T)) by grind,Int.add_mul_ediv_left _ _ (by omega)]
 have a2 : (hi * 4294967296+lo) / T=(lo+4294967296 * (Y % T)) / T+4294967296 * (hi / T):=by
  rw [show hi * 4294967296+lo=lo+4294967296 * (Y % T)+T * (4294967296 * (hi / T)) by grind,Int.add_mul_ediv_left _ _ (by omega)]
 have b0 : 0≤(lo+4294967296 * (Y % T)) / T:=Int.ediv_nonneg (by omega) (by omega)
 have b1 : (lo+4294967296 * (Y % T)) / T < 4294967296:=Int.ediv_lt_of_lt_mul hT (by omega)
 rw [a1,a2]
 generalize (lo+4294967296 * (Y % T)) / T=d at *
 generalize hi / T=h2 at *
 omega
theorem shr_w {r : Nat} (hr : r < 32) (x : Int) : shr .u64 x (r : Int)=x / 2 ^ r:=by
 unfold shr
 rw [Int.toNat_natCast,Nat.min_eq_left (show r≤IntKind.u64.bits by show r≤64;omega)]
theorem nshr_l {l : List Int} (hl : W l) (hn : l.length < 35184372087809) {r : Nat} (hr : r < 32) : ∀ (d i : Nat) (o : List Int),l.length - i=d→i≤l.length→W o→o.length=l.length →
  Aside0 (V (o.take i)+P i * (V (l.drop i) / 2 ^ r)=V l / 2 ^ r)→Ev (fun k=>nat_shr.l0 k l (r : Int) o l (l.length : Int) (i : Int)) (L (V l / 2 ^ r)):=by
 have hT : (0 : Int) < 2 ^ r:=Int.pow_pos (by decide)
 have HTU : Aside0 ((2 : Int) ^ r * 2 ^ (32 - r)=4294967296):=⟨by rw [← Int.pow_add,show r+(32 - r)=32 by omega];rfl⟩
 have hT':=Aside0.mk hT
 clear hT
 intro d
 induction d with
|zero =>
  intro i o hd hi hw ho HV
  obtain rfl : i=l.length:=by omega
  refine Ev_up ?_
  unfold nat_shr.l0
  refine Ev_neg (by omega) ?_
  refine Ev_some (trim_f hw) ?_
  refine Ev_now ?_
  have hv:=HV.out
  rw [List.drop_length,V_nil,V_take_all o _ (by omega),Int.zero_ediv,Int.mul_zero,Int.add_zero] at hv
  rw [hv]
|succ d ih =>
  intro i o hd hi hw ho HV
  have w1 : wrap64 ((i : Int)+1)=((i+1 : Nat) : Int):=by unfold wrap64;omega
  have rl:=W_rd hl (i : Int)
  have rh:=W_rd hl ((i+1 : Nat) : Int)
  have SL:=Aside0.mk (shr_limb hT'.out HTU.out rl (V_drop l (i+1)))
  have D0:=Aside0.mk (V_drop l i)
  have hq0 : 0≤(rd l ((i+1 : Nat) : Int) * 4294967296+rd l (i : Int)) / 2 ^ r % 4294967296:=Int.emod_nonneg _ (by decide)
  have hq1 : (rd l ((i+1 : Nat) : Int) * 4294967296+rd l (i : Int)) / 2 ^ r % 4294967296 < 4294967296:=Int.emod_lt_of_pos _ (by decide)
  have hrec:=ih (i+1) (o.set i ((rd l ((i+1 : Nat) : Int) * 4294967296+rd l (i : Int)) / 2 ^ r % 4294967296)) (by omega) (by omega) (W_set hw _ hq0 hq1) (by rw [List.length_set,ho]) ⟨by
   have hv:=HV.out
   rw [D0.out,SL.out] at hv
   rw [V_take_succ' _ i,rd_set_eq _ _ _ (by omega),P_succ,show (o.set i ((rd l ((i+1 : Nat) : Int) * 4294967296+rd l (i : Int)) / 2 ^ r % 4294967296)).take i=o.take i by rw [List.take_set_of_le (Nat.le_refl _)]]
   clear ih
   grind⟩
  refine Ev_up ?_
  unfold nat_shr.l0
  rw [w1,Int.toNat_natCast]
  refine Ev_pos (by omega) ?_
  refine Ev_pos (by omega) ?_
  refine Ev_pos (by omega) ?_
  by_cases hh : ((i+1 : Nat) : Int) < (l.length : Int)
  ·refine Ev_pos hh ?_
   refine Ev_pos (by omega) ?_
   refine Ev_pos (by omega) ?_
   refine Ev_pos (by omega) ?_
   rw [or64_w rh rl,shr_w hr]
   exact hrec
  ·rw [rd_beyond l ((i+1 : Nat) : Int) (by omega)] at hrec
   refine Ev_neg hh ?_
   refine Ev_pos (by omega) ?_
   refine Ev_pos (by omega) ?_
   rw [or64_z rl,shr_w hr]
   exact hrec
theorem nshr_f {l : List Int} (hl : W l) (hn : l.length < 35184372087809) {r : Nat} (hr : r < 32) : Ev (fun k=>nat_shr.f k l (r : Int)) (L (V l / 2 ^ r)):=by
 unfold nat_shr.f
 refine Ev_pos (by omega) ?_
 refine Ev_pos (by omega) ?_
 rw [Int.toNat_natCast]
 exact nshr_l hl hn hr _ 0 _ rfl (Nat.zero_le _) (W_replicate _) (by simp) ⟨by simp [V_nil,P_zero]⟩
end Go.Proofs.Ytjiaobcoeegioaa.N
end
section
namespace Go.Proofs.Ytjiaobcoeegioaa.N
set_option linter.unusedVariables false
set_option linter.unusedSimpArgs false
open Go Go.RowKit Go.Proofs.YtjiaobcoeegioaaW.PrintWords Go.Proofs.YtjiaobcoeegioaaW.PrintLast Go.Proofs.YtjiaobcoeegioaaW.PrintMore Go.Proofs.Ytjiaobcoeegioaa.Pq
theorem b01 (x y c : Int) : bits_Sub32.b x y c=0∨bits_Sub32.b x y c=1:=by
 unfold bits_Sub32.b
 split
 ·exact .inr rfl
 ·exact .inl rfl
theorem sub_limb {x y c : Int} (hx : 0≤x∧x < 4294967296) (hy : 0≤y∧y < 4294967296) (hc : 0≤c∧c≤1) :
  (x - y - c) % 4294967296=x - y - c+4294967296 * bits_Sub32.b x y c:=by
 unfold bits_Sub32.b
 split <;> omega
theorem less_at {u v : List Int} (hu : W u) (hv : W v) (j : Nat) {g : Int} (hg : 0≤g∧g < 4294967296) : ∀ (i : Nat),i≤v.length→j+v.length≤u.length →
  ∃ u' c b,nat_less.at u v j g i=some (u',c,b)∧W u'∧u'.length=u.length∧0≤c∧c < 4294967296∧(b=0∨b=1)∧(∀ m : Nat,j+i≤m→rd u' (m : Int)=rd u (m : Int)) ∧
   Aside0 (V u'=V u - P j * (g * V (v.take i))+P (j+i) * (c+b)):=by
 intro i
 induction i with
|zero =>
  intro _ _
  exact ⟨u,0,0,rfl,hu,rfl,by omega,by omega,.inl rfl,fun _ _=>rfl,⟨by simp [V_nil]⟩⟩
|succ i ih =>
  intro hi hl
  obtain ⟨u',c,b,e,hw,hlen,c0,c1,hb,hrd,HV⟩:=ih (by omega) hl
  have rv:=W_rd hv (i : Int)
  have ru:=W_rd hw ((j+i : Nat) : Int)
  have hm:=limb_mul hg rv (o:=0) (c:=0) (by omega) (by omega)
  have t0 : 0≤(g * rd v (i : Int)+c) % 4294967296:=by omega
  have t1 : (g * rd v (i : Int)+c) % 4294967296 < 4294967296:=by omega
  have hs:=sub_limb ru ⟨t0,t1⟩ (show 0≤b∧b≤1 by omega)
  have s0 : 0≤(rd u' ((j+i : Nat) : Int) - (g * rd v (i : Int)+c) % 4294967296 - b) % 4294967296:=by omega
  have s1 : (rd u' ((j+i : Nat) : Int) - (g * rd v (i : Int)+c) % 4294967296 - b) % 4294967296 < 4294967296:=by omega
  refine ⟨u'.set (j+i) ((rd u' ((j+i : Nat) : Int) - (g * rd v (i : Int)+c) % 4294967296 - b) % 4294967296),(g * rd v (i : Int)+c) / 4294967296,bits_Sub32.b (rd u' ((j+i : Nat) : Int)) ((g * rd v (i : Int)+c) % 4294967296) b,?_,W_set hw _ s0 s1,by rw [List.length_set,hlen],by omega,by omega,b01 _ _ _,?_,⟨?_⟩⟩
  ·show (nat_less.at u v j g i).bind _=_
   rw [e,Option.bind_some]
   dsimp only
   rw [if_pos ⟨⟨hg.1,by omega⟩,rv,c0,hm.1,by omega⟩,sub32_f ru ⟨t0,t1⟩ (by omega),Option.bind_some]
  ·intro m hm'
   rw [rd_set_ne _ _ _ _ (by omega)]
   exact hrd m (by omega)
  ·have hv':=HV.out
   have ed:=Int.emod_add_mul_ediv (g * rd v (i : Int)+c) 4294967296
   rw [V_set _ _ _ (by omega),hv',V_take_succ' v i,show j+(i+1)=j+i+1 by omega,P_succ,P_add j i,hs]
   clear ih hs s0 s1 t0 t1 hm
   grind
theorem less_f {u v : List Int} (hu : W u) (hv : W v) (j : Nat) {g : Int} (hg : 0≤g∧g < 4294967296) (hl : j+v.length < u.length) :
  ∃ u' b,nat_less.f u j v g=some (decide (b=1),u')∧W u'∧u'.length=u.length∧(b=0∨b=1)∧(∀ m : Nat,j+v.length < m→rd u' (m : Int)=rd u (m : Int)) ∧
   Aside0 (V u'=V u - P j * (g * V v)+P (j+v.length+1) * b):=by
 obtain ⟨u1,c,b,e,hw,hlen,c0,c1,hb,hrd,HV⟩:=less_at hu hv j hg v.length (Nat.le_refl _) (by omega)
 have ru:=W_rd hw ((j+v.length : Nat) : Int)
 have hs:=sub_limb ru ⟨c0,c1⟩ (show 0≤b∧b≤1 by omega)
 have ec : c % 4294967296=c:=by omega
 refine ⟨u1.set (j+v.length) ((rd u1 ((j+v.length : Nat) : Int) - c - b) % 4294967296),bits_Sub32.b (rd u1 ((j+v.length : Nat) : Int)) c b,?_,W_set hw _ (by omega) (by omega),by rw [List.length_set,hlen],b01 _ _ _,?_,⟨?_⟩⟩
 ·unfold nat_less.f
  rw [e,Option.bind_some]
  dsimp only
  rw [if_pos ⟨c0,by omega⟩,ec,sub32_f ru ⟨c0,c1⟩ (by omega),Option.bind_some]
  rcases b01 (rd u1 ((j+v.length : Nat) : Int)) c b with h|h <;> rw [h] <;> rfl
 ·intro m hm
  rw [rd_set_ne _ _ _ _ (by omega)]
  exact hrd m (by omega)
 ·have hv':=HV.out
  rw [List.take_length] at hv'
  rw [V_set _ _ _ (by omega),hv',P_succ,hs]
  grind
theorem back_at {u v : List Int} (hu : W u) (hv : W v) (j : Nat) : ∀ (i : Nat),i≤v.length→j+v.length≤u.length →
  ∃ u' c,nat_back.at u v j i=some (u',c)∧W u'∧u'.length=u.length∧0≤c∧c≤1∧(∀ m : Nat,j+i≤m→rd u' (m : Int)=rd u (m : Int)) ∧
   Aside0 (V u'+P (j+i) * c=V u+P j * V (v.take i)):=by
 intro i
 induction i with
|zero =>
  intro _ _
  exact ⟨u,0,rfl,hu,rfl,by omega,by omega,fun _ _=>rfl,⟨by simp [V_nil]⟩⟩
|succ i ih =>
  intro hi hl
  obtain ⟨u',c,e,hw,hlen,c0,c1,hrd,HV⟩:=ih (by omega) hl
  have rv:=W_rd hv (i : Int)
  have ru:=W_rd hw ((j+i : Nat) : Int)
  refine ⟨u'.set (j+i) ((rd u' ((j+i : Nat) : Int)+rd v (i : Int)+c) % 4294967296),(rd u' ((j+i : Nat) : Int)+rd v (i : Int)+c) / 4294967296,?_,W_set hw _ (by omega) (by omega),by rw [List.length_set,hlen],by omega,by omega,?_,⟨?_⟩⟩
  ·show (nat_back.at u v j i).bind _=_
   rw [e,Option.bind_some]
   dsimp only
   rw [add32_f ru rv ⟨c0,c1⟩,Option.bind_some]
  ·intro m hm'
   rw [rd_set_ne _ _ _ _ (by omega)]
   exact hrd m (by omega)
  ·have hv':=HV.out
   have ed:=Int.emod_add_mul_ediv (rd u' ((j+i : Nat) : Int)+rd v (i : Int)+c) 4294967296
   rw [V_set _ _ _ (by omega),V_take_succ' v i,show j+(i+1)=j+i+1 by omega,P_succ]
   rw [P_add j i] at *
   clear ih
   grind
theorem back_f {u v : List Int} (hu : W u) (hv : W v) (j : Nat) (hl : j+v.length < u.length) :
  ∃ u' b,nat_back.f u j v=some u'∧W u'∧u'.length=u.length∧(b=0∨b=1)∧(∀ m : Nat,j+v.length < m→rd u' (m : Int)=rd u (m : Int)) ∧
   Aside0 (V u'=V u+P j * V v - P (j+v.length+1) * b):=by
 obtain ⟨u1,c,e,hw,hlen,c0,c1,hrd,HV⟩:=back_at hu hv j v.length (Nat.le_refl _) (by omega)
 have ru:=W_rd hw ((j+v.length : Nat) : Int)
 refine ⟨u1.set (j+v.length) ((rd u1 ((j+v.length : Nat) : Int)+c) % 4294967296),(rd u1 ((j+v.length : Nat) : Int)+c) / 4294967296,?_,W_set hw _ (by omega) (by omega),by rw [List.length_set,hlen],by omega,?_,⟨?_⟩⟩
 ·unfold nat_back.f
  rw [e,Option.bind_some]
 ·intro m hm
  rw [rd_set_ne _ _ _ _ (by omega)]
  exact hrd m (by omega)
 ·have hv':=HV.out
  have ed:=Int.emod_add_mul_ediv (rd u1 ((j+v.length : Nat) : Int)+c) 4294967296
  rw [List.take_length] at hv'
  rw [V_set _ _ _ (by omega),P_succ]
  grind
end Go.Proofs.Ytjiaobcoeegioaa.N
end
section
namespace Go.Proofs.Ytjiaobcoeegioaa.N
set_option linter.unusedVariables false
set_option linter.unusedSimpArgs false
open Go Go.RowKit Go.Proofs.YtjiaobcoeegioaaW.PrintWords Go.Proofs.YtjiaobcoeegioaaW.PrintLast Go.Proofs.YtjiaobcoeegioaaW.PrintMore Go.Proofs.Ytjiaobcoeegioaa.Pq
structure Two (X D top u2 v1 v2 Q xl dl : Int) : Prop where
 q : 0 < Q
 x : X=(top * 4294967296+u2) * Q+xl
 d : D=(v1 * 4294967296+v2) * Q+dl
 xl : 0≤xl∧xl < Q
 dl : 0≤dl∧dl < Q
 u2 : 0≤u2∧u2 < 4294967296
 v2 : 0≤v2∧v2 < 4294967296
 v1 : 0 < v1∧v1 < 4294967296
 top : 0≤top∧top < 18446744073709551616
 lt : X < 4294967296 * D
theorem Two.x0 {X D top u2 v1 v2 Q xl dl : Int} (h : Two X D top u2 v1 v2 Q xl dl) : 0≤X:=by
 have h1 : 0≤(top * 4294967296+u2) * Q:=Int.mul_nonneg (by have:=h.top;have:=h.u2;omega) (by have:=h.q;omega)
 have:=h.x
 have:=h.xl
 omega
theorem Two.d0 {X D top u2 v1 v2 Q xl dl : Int} (h : Two X D top u2 v1 v2 Q xl dl) : 4294967296 * Q≤D:=by
 have h1 : 4294967296 * Q≤(v1 * 4294967296+v2) * Q:=Int.mul_le_mul_of_nonneg_right (by have:=h.v1;have:=h.v2;omega) (by have:=h.q;omega)
 have:=h.d
 have:=h.dl
 omega
theorem Two.more {X D top u2 v1 v2 Q xl dl : Int} (h : Two X D top u2 v1 v2 Q xl dl) {g r : Int} (g0 : 0≤g) (e : g * v1+r=top) (hc : r * 4294967296+u2 < g * v2) : X < g * D:=by
 have h1 : (top * 4294967296+u2+1) * Q≤(g * (v1 * 4294967296+v2)) * Q:=Int.mul_le_mul_of_nonneg_right (by
  have : g * (v1 * 4294967296+v2)=(g * v1) * 4294967296+g * v2:=by grind
  rw [this]
  omega) (by have:=h.q;omega)
 have h2 : 0≤g * dl:=Int.mul_nonneg g0 h.dl.1
 have h3 : g * D=(g * (v1 * 4294967296+v2)) * Q+g * dl:=by rw [h.d];grind
 have h4 : (top * 4294967296+u2+1) * Q=(top * 4294967296+u2) * Q+Q:=by grind
 have:=h.x
 have:=h.xl
 omega
theorem Two.less {X D top u2 v1 v2 Q xl dl : Int} (h : Two X D top u2 v1 v2 Q xl dl) {g r : Int} (g0 : 0≤g) (g1 : g < 4294967296) (e : g * v1+r=top) (hc : g * v2≤r * 4294967296+u2) : (g - 1) * D≤X:=by
 have h1 : (g * (v1 * 4294967296+v2)) * Q≤(top * 4294967296+u2) * Q:=Int.mul_le_mul_of_nonneg_right (by
  have : g * (v1 * 4294967296+v2)=(g * v1) * 4294967296+g * v2:=by grind
  rw [this]
  omega) (by have:=h.q;omega)
 have h2 : g * dl≤4294967296 * dl:=Int.mul_le_mul_of_nonneg_right (by omega) h.dl.1
 have h3 : g * D=(g * (v1 * 4294967296+v2)) * Q+g * dl:=by rw [h.d];grind
 have h4 : (g - 1) * D=g * D - D:=by grind
 have:=h.x
 have:=h.xl
 have:=h.dl
 have:=h.d0
 omega
theorem Two.first {X D top u2 v1 v2 Q xl dl : Int} (h : Two X D top u2 v1 v2 Q xl dl) : X < (top / v1+1) * D:=by
 have e:=Int.emod_add_mul_ediv top v1
 have e1:=Int.emod_lt_of_pos top h.v1.1
 have h1 : (top+1)≤(top / v1+1) * v1:=by grind
 have q:=h.q
 have g0 : 0≤top / v1:=Int.ediv_nonneg h.top.1 (by have:=h.v1;omega)
 have h2 : (top+1) * (4294967296 * Q)≤(top / v1+1) * v1 * (4294967296 * Q):=Int.mul_le_mul_of_nonneg_right h1 (by omega)
 have h3 : v1 * (4294967296 * Q)≤D:=by
  rw [h.d]
  have : 0≤v2 * Q:=Int.mul_nonneg h.v2.1 (by omega)
  have:=h.dl
  grind
 have h4 : (top / v1+1) * (v1 * (4294967296 * Q))≤(top / v1+1) * D:=Int.mul_le_mul_of_nonneg_left h3 (by omega)
 have h5 : X < (top+1) * (4294967296 * Q):=by
  rw [h.x]
  have h6 : u2 * Q≤4294967295 * Q:=Int.mul_le_mul_of_nonneg_right (by have:=h.u2;omega) (by omega)
  have:=h.xl
  grind
 rw [← Int.mul_assoc] at h4
 omega
theorem Two.small {X D top u2 v1 v2 Q xl dl : Int} (h : Two X D top u2 v1 v2 Q xl dl) {g r : Int} (e : g * v1+r=top) (hr : 4294967296≤r) : g < 4294967296:=by
 have q:=h.q
 have h1 : top * 4294967296 * Q≤X:=by
  rw [h.x]
  have : 0≤u2 * Q:=Int.mul_nonneg h.u2.1 (by omega)
  have:=h.xl
  grind
 have h2 : D < (v1 * 4294967296+v2+1) * Q:=by
  rw [h.d]
  have:=h.dl
  grind
 have h3 : top < v1 * 4294967296+4294967296:=by
  rcases Int.lt_or_le top (v1 * 4294967296+4294967296) with k|k
  ·exact k
  ·exfalso
   have h4 : (v1 * 4294967296+v2+1) * Q≤top * Q:=Int.mul_le_mul_of_nonneg_right (by have:=h.v2;omega) (by omega)
   have:=h.lt
   have : top * 4294967296 * Q=4294967296 * (top * Q):=by grind
   omega
 have h5 : g * v1 < 4294967296 * v1:=by omega
 exact Int.lt_of_mul_lt_mul_right h5 (by have:=h.v1;omega)
structure Gs (X D top v1 g r : Int) : Prop where
 lt : X < (g+1) * D
 e : g * v1+r=top
 r : 0≤r∧r < 4294967296
 g : 0≤g∧g < 18446744073709551616
theorem Two.pos {X D top u2 v1 v2 Q xl dl : Int} (h : Two X D top u2 v1 v2 Q xl dl) {g : Int} (k : X < g * D) : 0 < g:=by
 rcases Int.lt_or_le 0 g with h1|h1
 ·exact h1
 ·exfalso
  have h2 : g * D≤0 * D:=Int.mul_le_mul_of_nonneg_right h1 (by have:=h.d0;have:=h.q;omega)
  have:=h.x0
  omega
end Go.Proofs.Ytjiaobcoeegioaa.N
end
section
namespace Go.Proofs.Ytjiaobcoeegioaa.N
set_option linter.unusedVariables false
set_option linter.unusedSimpArgs false
open Go Go.RowKit Go.Proofs.YtjiaobcoeegioaaW.PrintWords Go.Proofs.YtjiaobcoeegioaaW.PrintLast Go.Proofs.YtjiaobcoeegioaaW.PrintMore Go.Proofs.Ytjiaobcoeegioaa.Pq
theorem guess_l {u v q : List Int} {sh : Int} (hu : W u) (hv : W v) {j n : Nat} (hn : v.length=n+2) (hlen : j+n+2 < u.length) (hul : u.length < 35184372088832) {X D top u2 v1 v2 Q xl dl : Int}
  (h : Two X D top u2 v1 v2 Q xl dl) (e1 : v1=rd v ((n+1 : Nat) : Int)) (e2 : v2=rd v (n : Int)) (eu : u2=rd u ((j+n : Nat) : Int)) (R : List Int × List Int)
  (next : ∀ g,0≤g→g < 4294967296→(g - 1) * D≤X→X < (g+1) * D→Ev (fun k=>nat_long.j4 k sh v u ((n+2 : Nat) : Int) q (j : Int) g) R) :
  ∀ (m : Nat) (g r : Int),g.toNat≤m→Gs X D top v1 g r→Ev (fun k=>nat_long.l2 k sh v u ((n+2 : Nat) : Int) q (j : Int) g r) R:=by
 have b2 : (n : Int) < (v.length : Int):=by omega
 have b4 : ((j+n : Nat) : Int) < (u.length : Int):=by omega
 have w1 : wrap64 (((n+2 : Nat) : Int) - 1)=((n+1 : Nat) : Int):=by unfold wrap64;omega
 have w2 : wrap64 (((n+2 : Nat) : Int) - 2)=(n : Int):=by unfold wrap64;omega
 have w3 : wrap64 (wrap64 ((j : Int)+((n+2 : Nat) : Int)) - 2)=((j+n : Nat) : Int):=by
  rw [show wrap64 ((j : Int)+((n+2 : Nat) : Int))=((j+n+2 : Nat) : Int) by unfold wrap64;omega]
  unfold wrap64
  omega
 have dpos : 0 < D:=by have:=h.d0;have:=h.q;omega
 have hv1:=h.v1
 have hv2:=h.v2
 have hu2:=h.u2
 have e0 : IntKind.u64.wrap (rd v ((n+1 : Nat) : Int))=v1:=by rw [← e1,wrap_u64_of (by omega) (by omega)]
 -- the way down by one
 have down : ∀ (m : Nat),(∀ (g r : Int),g.toNat≤m→Gs X D top v1 g r→Ev (fun k=>nat_long.l2 k sh v u ((n+2 : Nat) : Int) q (j : Int) g r) R) →
   ∀ (g r : Int),g.toNat≤m+1→Gs X D top v1 g r→X < g * D→Ev (fun k=>nat_long.j3 k sh v u ((n+2 : Nat) : Int) q (j : Int) g r true) R:=by
  intro m ih g r hm hg hlt
  have gp:=h.pos hlt
  have hr:=hg.r
  have gb:=hg.g
  have e' : (g - 1) * v1+(r+v1)=top:=by rw [Int.sub_mul,Int.one_mul];have:=hg.e;omega
  have hlt' : X < (g - 1+1) * D:=by rw [show g - 1+1=g by omega];exact hlt
  refine Ev_up ?_
  unfold nat_long.j3
  refine Ev_pos rfl ?_
  rw [w1,e0,wrap_u64_of (x:=r+v1) (by omega) (by omega),wrap_u64_of (x:=g - 1) (by omega) (by omega)]
  refine Ev_pos (by omega) ?_
  refine Ev_pos (by omega) ?_
  by_cases hb : r+v1 ≥ 4294967296
  ·refine Ev_pos hb ?_
   have gs:=h.small e' hb
   have h3 : (g - 1) * v2≤4294967296 * v2:=Int.mul_le_mul_of_nonneg_right (by omega) hv2.1
   exact next (g - 1) (by omega) gs (h.less (by omega) gs e' (by omega)) hlt'
  ·refine Ev_neg hb ?_
   exact ih (g - 1) (r+v1) (by omega) ⟨hlt',e',by omega,by omega⟩
 intro m
 have go : ∀ (g r : Int),(X < g * D→Ev (fun k=>nat_long.j3 k sh v u ((n+2 : Nat) : Int) q (j : Int) g r true) R)→Gs X D top v1 g r→Ev (fun k=>nat_long.l2 k sh v u ((n+2 : Nat) : Int) q (j : Int) g r) R:=by
  intro g r hdown hg
  have hr:=hg.r
  have gb:=hg.g
  refine Ev_up ?_
  unfold nat_long.l2
  by_cases hb : g ≥ 4294967296
  ·refine Ev_pos hb ?_
   refine hdown ?_
   have h1 : 4294967296 * D≤g * D:=Int.mul_le_mul_of_nonneg_right hb (by omega)
   have:=h.lt
   omega
  ·refine Ev_neg hb ?_
   refine Ev_pos (by omega) ?_
   have hm:=limb_mul (x:=g) (y:=v2) (o:=0) (c:=0) ⟨gb.1,by omega⟩ hv2 (by omega) (by omega)
   have ew : IntKind.u64.wrap (g * IntKind.u64.wrap (rd v (n : Int)))=g * v2:=by
    rw [← e2,wrap_u64_of hv2.1 (by omega),wrap_u64_of hm.1 (by omega)]
   have eo : Go.bits .or .u64 (IntKind.u64.wrap (r * 4294967296)) (IntKind.u64.wrap (rd u ((j+n : Nat) : Int)))=r * 4294967296+u2:=by
    rw [← eu,wrap_u64_of (x:=r * 4294967296) (by omega) (by omega),wrap_u64_of hu2.1 (by omega),or64_f hr hu2]
   rw [w2,w3,ew,eo]
   refine Ev_pos (Int.natCast_nonneg _) ?_
   refine Ev_pos b2 ?_
   refine Ev_pos (Int.natCast_nonneg _) ?_
   refine Ev_pos b4 ?_
   by_cases hc : g * v2 > r * 4294967296+u2
   ·rw [decide_eq_true hc]
    exact hdown (h.more gb.1 hg.e hc)
   ·rw [decide_eq_false hc]
    refine Ev_up ?_
    unfold nat_long.j3
    refine Ev_neg (by decide) ?_
    exact next g gb.1 (by omega) (h.less gb.1 (by omega) hg.e (by omega)) hg.lt
 induction m with
|zero =>
  intro g r hm hg
  refine go g r (fun hlt=>?_) hg
  have:=h.pos hlt
  omega
|succ m ih =>
  intro g r hm hg
  exact go g r (fun hlt=>down m ih g r hm hg hlt) hg
end Go.Proofs.Ytjiaobcoeegioaa.N
end
section
namespace Go.Proofs.Ytjiaobcoeegioaa.N
set_option linter.unusedVariables false
set_option linter.unusedSimpArgs false
open Go Go.RowKit Go.Proofs.YtjiaobcoeegioaaW.PrintWords Go.Proofs.YtjiaobcoeegioaaW.PrintLast Go.Proofs.YtjiaobcoeegioaaW.PrintMore Go.Proofs.Ytjiaobcoeegioaa.Pq
theorem drop_eq {l m : List Int} {k : Nat} (hl : l.length=m.length) (h : ∀ i : Nat,k≤i→rd l (i : Int)=rd m (i : Int)) : l.drop k=m.drop k:=by
 apply List.ext_getElem (by simp [hl])
 intro i h1 h2
 have h3:=h (k+i) (by omega)
 simp only [List.length_drop] at h1 h2
 have e1 : rd l ((k+i : Nat) : Int)=l[k+i]:=by simp only [rd,Int.toNat_natCast,List.getD_eq_getElem?_getD,List.getElem?_eq_getElem (show k+i < l.length by omega),Option.getD_some]
 have e2 : rd m ((k+i : Nat) : Int)=m[k+i]:=by simp only [rd,Int.toNat_natCast,List.getD_eq_getElem?_getD,List.getElem?_eq_getElem (show k+i < m.length by omega),Option.getD_some]
 rw [e1,e2] at h3
 rw [List.getElem_drop,List.getElem_drop]
 exact h3
structure Dg (v : List Int) (A : Int) (N : Nat) (u q : List Int) (j : Nat) : Prop where
 wu : W u
 wq : W q
 lu : u.length=N
 lq : q.length+v.length=N
 lt : V u < P j * V v
 e : V u+V v * V q=A
 z : ∀ m : Nat,m < j→rd q (m : Int)=0
theorem Dg.top {v : List Int} {A : Int} {N : Nat} {u q : List Int} {j : Nat} (h : Dg v A N u q (j+1)) (hv : W v) : V (u.drop (j+v.length+1))=0:=by
 have h1:=V_split' u (j+v.length+1)
 have h2:=V_nonneg (W_take h.wu (j+v.length+1))
 have h3:=V_nonneg (W_drop h.wu (j+v.length+1))
 have h4 : P (j+1) * V v < P (j+1) * P v.length:=Int.mul_lt_mul_of_pos_left (V_lt hv) (P_pos _)
 rw [← P_add,show j+1+v.length=j+v.length+1 by omega] at h4
 have h5:=h.lt
 rcases (show V (u.drop (j+v.length+1))=0∨1≤V (u.drop (j+v.length+1)) by omega) with h6|h6
 ·exact h6
 ·have h7 : P (j+v.length+1) * 1≤P (j+v.length+1) * V (u.drop (j+v.length+1)):=Int.mul_le_mul_of_nonneg_left h6 (by have:=P_pos (j+v.length+1);omega)
  omega
theorem Dg.x {v : List Int} {A : Int} {N : Nat} {u q : List Int} {j : Nat} (h : Dg v A N u q (j+1)) : V (u.drop j) < 4294967296 * V v:=by
 have h1:=V_split' u j
 have h2:=V_nonneg (W_take h.wu j)
 have h3:=h.lt
 have h4 : P (j+1) * V v=P j * (4294967296 * V v):=by rw [P_succ];grind
 have h5 : P j * V (u.drop j) < P j * (4294967296 * V v):=by omega
 exact Int.lt_of_mul_lt_mul_left h5 (by have:=P_pos j;omega)
theorem Dg.next {v : List Int} {A : Int} {N : Nat} {u q u' : List Int} {j : Nat} (h : Dg v A N u q (j+1)) (hw : W u') (hl : u'.length=N) {t : Int} (ht : 0≤t∧t < 4294967296)
  (hV : V u'=V u - P j * (t * V v)) (h1 : V (u.drop j) < (t+1) * V v) (hj : j < q.length) : Dg v A N u' (q.set j t) j where
 wu:=hw
 wq:=W_set h.wq _ ht.1 ht.2
 lu:=hl
 lq:=by rw [List.length_set];exact h.lq
 lt:=by
  have h2:=V_split' u j
  have h3:=V_take_lt h.wu j
  have h4 : P j * (V (u.drop j)+1)≤P j * ((t+1) * V v):=Int.mul_le_mul_of_nonneg_left (by omega) (by have:=P_pos j;omega)
  have h5 : P j * ((t+1) * V v)=P j * (t * V v)+P j * V v:=by grind
  rw [Int.mul_add] at h4
  omega
 e:=by
  have h2:=h.e
  rw [V_set _ _ _ hj,h.z j (by omega),hV]
  grind
 z:=fun m hm=>by rw [rd_set_ne _ _ _ _ (by omega)];exact h.z m (by omega)
theorem V_lt_of_drop {l : List Int} (h : W l) {k : Nat} (hz : V (l.drop k)=0) : V l < P k:=by
 have h1:=V_split' l k
 have h2:=V_take_lt h k
 rw [hz,Int.mul_zero] at h1
 omega
theorem digit_b2 {U V1 V2 G D M T X b2 : Int} (hv1 : V1=U - G+M * 1) (hv2 : V2=V1+D - M * b2) (hb2 : b2=0∨b2=1) (k1 : G - D≤X) (hx : U=T+X) (T0 : 0≤T) (hlt : V2 < M) : b2=1:=by
 rcases hb2 with rfl|rfl
 ·exfalso
  omega
 ·rfl
theorem digit_lt {U V1 G M T X : Int} (hv1 : V1=U - G+M * 1) (hx : U=T+X) (T0 : 0≤T) (hlt : V1 < M) : X < G:=by omega
theorem digit_new {U V1 V2 G D M : Int} (hv1 : V1=U - G+M * 1) (hv2 : V2=V1+D - M * 1) : V2=U - (G - D):=by omega
theorem digit_steps {v : List Int} (hv : W v) {A : Int} {N : Nat} {u q : List Int} {j : Nat} (h : Dg v A N u q (j+1)) {g : Int} (hg : 0≤g∧g < 4294967296)
  (h0 : (g - 1) * V v≤V (u.drop j)) (h1 : V (u.drop j) < (g+1) * V v) (hj : j < q.length) :
  ∃ u1,W u1∧u1.length=N∧((nat_less.f u j v g=some (false,u1)∧Dg v A N u1 (q.set j g) j) ∨
   (nat_less.f u j v g=some (true,u1)∧0 < g ∧ ∃ u2,nat_back.f u1 j v=some u2∧Dg v A N u2 (q.set j (g - 1)) j)):=by
 have hlu:=h.lu
 have hlq:=h.lq
 have hjN : j+v.length < u.length:=by clear h0 h1;omega
 have htop:=h.top hv
 have X0:=Aside0.mk (V_split' u j)
 have XT:=Aside0.mk (V_nonneg (W_take h.wu j))
 have hPj:=Aside0.mk (P_pos j)
 have H0:=Aside0.mk h0
 have H1:=Aside0.mk h1
 clear h0 h1
 obtain ⟨u1,b,e1,hw1,hl1,hb,hrd1,HV1⟩:=less_f h.wu hv j hg hjN
 have hd1 : V (u1.drop (j+v.length+1))=0:=by rw [drop_eq hl1 (fun i hi=>hrd1 i (by omega)),htop]
 have hlt1:=Aside0.mk (V_lt_of_drop hw1 hd1)
 refine ⟨u1,hw1,by omega,?_⟩
 rcases hb with hb|hb
 ·subst hb
  refine .inl ⟨e1,h.next hw1 (by omega) hg ?_ H1.out hj⟩
  have hv1:=HV1.out
  rw [Int.mul_zero,Int.add_zero] at hv1
  exact hv1
 ·subst hb
  obtain ⟨u2,b2,e2,hw2,hl2,hb2,hrd2,HV2⟩:=back_f hw1 hv j (by omega)
  have hd2 : V (u2.drop (j+v.length+1))=0:=by rw [drop_eq hl2 (fun i hi=>hrd2 i (by omega)),hd1]
  have hlt2:=Aside0.mk (V_lt_of_drop hw2 hd2)
  have k2 : Aside0 (P j * ((g - 1) * V v)=P j * (g * V v) - P j * V v):=⟨by rw [Int.sub_mul,Int.one_mul,Int.mul_sub]⟩
  have k1 : Aside0 (P j * (g * V v) - P j * V v≤P j * V (u.drop j)):=⟨by
   rw [← k2.out]
   exact Int.mul_le_mul_of_nonneg_left H0.out (Int.le_of_lt hPj.out)⟩
  obtain rfl:=digit_b2 HV1.out HV2.out hb2 k1.out X0.out XT.out hlt2.out
  have k4 : Aside0 (V (u.drop j) < g * V v):=⟨Int.lt_of_mul_lt_mul_left (digit_lt HV1.out X0.out XT.out hlt1.out) (Int.le_of_lt hPj.out)⟩
  have gp : 0 < g:=by
   rcases Int.lt_or_le 0 g with h2|h2
   ·exact h2
   ·exfalso
    obtain rfl : g=0:=by omega
    have h3:=k4.out
    rw [Int.zero_mul] at h3
    have:=V_nonneg (W_drop h.wu j)
    omega
  refine .inr ⟨e1,gp,u2,e2,h.next hw2 (by omega) (by omega) ?_ ?_ hj⟩
  ·rw [k2.out]
   exact digit_new HV1.out HV2.out
  ·rw [Int.sub_add_cancel]
   exact k4.out
theorem digit {v : List Int} (hv : W v) {A : Int} {N : Nat} (hN : N < 35184372088832) {sh : Int} {u q : List Int} {j : Nat} (h : Dg v A N u q (j+1)) {g : Int} (hg : 0≤g∧g < 4294967296)
  (h0 : Aside0 ((g - 1) * V v≤V (u.drop j))) (h1 : Aside0 (V (u.drop j) < (g+1) * V v)) (hj : j < q.length) (R : List Int × List Int)
  (next : ∀ u' q',Dg v A N u' q' j→Ev (fun k=>nat_long.l1 k sh v u' (v.length : Int) q' ((j : Int) - 1)) R) :
  Ev (fun k=>nat_long.j4 k sh v u (v.length : Int) q (j : Int) g) R:=by
 have hlu:=h.lu
 have hlq:=h.lq
 have w1 : wrap64 (wrap64 ((j : Int)+(v.length : Int))+1)=((j+v.length+1 : Nat) : Int):=by
  rw [show wrap64 ((j : Int)+(v.length : Int))=((j+v.length : Nat) : Int) by unfold wrap64;omega]
  unfold wrap64
  omega
 have w2 : wrap64 ((j : Int) - 1)=(j : Int) - 1:=by unfold wrap64;omega
 have c2 : (j : Int) < ((j+v.length+1 : Nat) : Int):=by omega
 have c3 : ((j+v.length+1 : Nat) : Int)≤(u.length : Int):=by omega
 have c4 : (j : Int)+(v.length : Int) < ((j+v.length+1 : Nat) : Int):=by omega
 have c5 : (j : Int) < (q.length : Int):=by omega
 obtain ⟨u1,hw1,hl1,hs⟩:=digit_steps hv h hg h0.out h1.out hj
 refine Ev_up ?_
 unfold nat_long.j4
 rw [w1,w2,Int.toNat_natCast]
 refine Ev_pos (Int.natCast_nonneg _) ?_
 refine Ev_pos c2 ?_
 refine Ev_pos c3 ?_
 refine Ev_pos c4 ?_
 rcases hs with ⟨e1,hd⟩|⟨e1,gp,u2,e2,hd⟩
 ·refine Ev_some e1 ?_
  refine Ev_neg (by simp) ?_
  refine Ev_pos c5 ?_
  rw [show g % 4294967296=g by omega]
  exact next _ _ hd
 ·refine Ev_some e1 ?_
  refine Ev_pos rfl ?_
  refine Ev_some e2 ?_
  refine Ev_pos c5 ?_
  rw [wrap_u64_of (x:=g - 1) (by omega) (by omega),show (g - 1) % 4294967296=g - 1 by omega]
  exact next _ _ hd
theorem Dg.two {v : List Int} (hv : W v) {A : Int} {N n : Nat} {u q : List Int} {j : Nat} (h : Dg v A N u q (j+1)) (hn : v.length=n+2) (hp : 0 < rd v ((n+1 : Nat) : Int)) :
  Two (V (u.drop j)) (V v) (rd u ((j+n+2 : Nat) : Int) * 4294967296+rd u ((j+n+1 : Nat) : Int)) (rd u ((j+n : Nat) : Int)) (rd v ((n+1 : Nat) : Int)) (rd v (n : Int)) (P n) (V ((u.drop j).take n)) (V (v.take n)) where
 q:=P_pos n
 x:=by
  have h1:=V_split' (u.drop j) n
  rw [List.drop_drop,V_drop u (j+n),V_drop u (j+n+1),V_drop u (j+n+1+1)] at h1
  have h2:=h.top hv
  rw [hn] at h2
  rw [show j+n+1+1+1=j+(n+2)+1 by omega,h2,show j+n+1+1=j+n+2 by omega] at h1
  rw [h1]
  grind
 d:=by
  have h1:=V_split' v n
  rw [V_drop v n,V_drop v (n+1),List.drop_of_length_le (by omega),V_nil] at h1
  rw [h1]
  grind
 xl:=⟨V_nonneg (W_take (W_drop h.wu j) n),V_take_lt (W_drop h.wu j) n⟩
 dl:=⟨V_nonneg (W_take hv n),V_take_lt hv n⟩
 u2:=W_rd h.wu _
 v2:=W_rd hv _
 v1:=⟨hp,(W_rd hv _).2⟩
 top:=by
  have h1:=W_rd h.wu ((j+n+2 : Nat) : Int)
  have h2:=W_rd h.wu ((j+n+1 : Nat) : Int)
  omega
 lt:=h.x
theorem Two.start {X D top u2 v1 v2 Q xl dl : Int} (h : Two X D top u2 v1 v2 Q xl dl) : Gs X D top v1 (top / v1) (top % v1) where
 lt:=h.first
 e:=by
  have:=Int.emod_add_mul_ediv top v1
  rw [Int.mul_comm]
  omega
 r:=by
  have h1:=h.v1
  have h2:=Int.emod_nonneg top (show v1≠0 by omega)
  have h3:=Int.emod_lt_of_pos top h1.1
  omega
 g:=by
  have h1:=h.top
  have h2:=Int.ediv_nonneg h1.1 (Int.le_of_lt h.v1.1)
  have h3:=Int.ediv_le_self v1 h1.1
  omega
theorem v_pos {v : List Int} (hv : W v) {n : Nat} (hn : v.length=n+2) (hp : 0 < rd v ((n+1 : Nat) : Int)) : 0 < V v:=by
 have h1:=V_split' v (n+1)
 have h2:=V_nonneg (W_take hv (n+1))
 rw [V_drop v (n+1),List.drop_of_length_le (by omega),V_nil,Int.mul_zero,Int.add_zero] at h1
 have h4 : 0 < P (n+1) * rd v ((n+1 : Nat) : Int):=Int.mul_pos (P_pos (n+1)) hp
 omega
theorem Dg.done {v : List Int} (hv : W v) (hvp : 0 < V v) {A : Int} {N : Nat} {u q : List Int} (h : Dg v A N u q 0) : V q=A / V v∧V (u.take v.length)=A % V v:=by
 have hlt:=h.lt
 have hge:=V_nonneg h.wu
 rw [P_zero,Int.one_mul] at hlt
 have e:=h.e
 have h2 : V (u.take v.length)=V u:=by
  have h3:=V_split' u v.length
  have h4:=V_nonneg (W_drop h.wu v.length)
  have h5:=V_lt hv
  have h6:=V_nonneg (W_take h.wu v.length)
  rcases (show V (u.drop v.length)=0∨1≤V (u.drop v.length) by omega) with h7|h7
  ·rw [h7,Int.mul_zero] at h3
   omega
  ·have h8 : P v.length * 1≤P v.length * V (u.drop v.length):=Int.mul_le_mul_of_nonneg_left h7 (by have:=P_pos v.length;omega)
   omega
 have d1 : A / V v=V q:=by rw [← e,Int.add_mul_ediv_left _ _ (by omega),Int.ediv_eq_zero_of_lt hge hlt];omega
 have d2 : A % V v=V u:=by rw [← e,Int.add_mul_emod_self_left,Int.emod_eq_of_lt hge hlt]
 exact ⟨d1.symm,by rw [h2,d2]⟩
theorem long_l1 {v : List Int} (hv : W v) {n : Nat} (hn : v.length=n+2) (hp : 0 < rd v ((n+1 : Nat) : Int)) {A : Int} {N : Nat} (hN : N < 35184372087809) {r : Nat} (hr : r < 32) : ∀ (j : Nat) (u q : List Int),j≤q.length→Dg v A N u q j →
  Ev (fun k=>nat_long.l1 k (r : Int) v u (v.length : Int) q ((j : Int) - 1)) (L (A / V v),L (A % V v / 2 ^ r)):=by
 have hvp:=Aside0.mk (v_pos hv hn hp)
 intro j
 induction j with
|zero =>
  intro u q hj h
  have hlu:=h.lu
  have hlq:=h.lq
  have hd:=h.done hv hvp.out
  have c1 : ((v.length : Nat) : Int)≤(u.length : Int):=by omega
  have c2 : (u.take v.length).length < 35184372087809:=by rw [List.length_take];omega
  refine Ev_up ?_
  unfold nat_long.l1
  refine Ev_neg (by omega) ?_
  refine Ev_some (trim_f h.wq) ?_
  refine Ev_pos (Int.natCast_nonneg _) ?_
  refine Ev_pos c1 ?_
  rw [Int.toNat_natCast]
  refine Ev.bind (nshr_f (W_take h.wu _) c2 hr) ?_
  refine Ev_now ?_
  rw [hd.1,hd.2]
|succ j ih =>
  intro u q hj h
  have hlu:=h.lu
  have hlq:=h.lq
  have w0 : ((j+1 : Nat) : Int) - 1=(j : Int):=by omega
  have w1 : wrap64 ((j : Int)+(v.length : Int))=((j+n+2 : Nat) : Int):=by unfold wrap64;omega
  have w2 : wrap64 (((j+n+2 : Nat) : Int) - 1)=((j+n+1 : Nat) : Int):=by unfold wrap64;omega
  have w3 : wrap64 ((v.length : Int) - 1)=((n+1 : Nat) : Int):=by unfold wrap64;omega
  have c1 : ((j+n+2 : Nat) : Int) < (u.length : Int):=by omega
  have c2 : ((j+n+1 : Nat) : Int) < (u.length : Int):=by omega
  have c3 : ((n+1 : Nat) : Int) < (v.length : Int):=by omega
  have c4 : j+n+2 < u.length:=by omega
  have c5 : u.length < 35184372088832:=by omega
  have c6 : N < 35184372088832:=by omega
  have c7 : j < q.length:=by omega
  have c8 : ((v.length : Int))=((n+2 : Nat) : Int):=by omega
  have h2:=h.two hv hn hp
  have hs:=h2.start
  have r0:=W_rd h.wu ((j+n+2 : Nat) : Int)
  have r1:=W_rd h.wu ((j+n+1 : Nat) : Int)
  have rv:=W_rd hv ((n+1 : Nat) : Int)
  have htop:=h2.top
  have eo : Go.bits .or .u64 (IntKind.u64.wrap (IntKind.u64.wrap (rd u ((j+n+2 : Nat) : Int)) * 4294967296)) (IntKind.u64.wrap (rd u ((j+n+1 : Nat) : Int)))=rd u ((j+n+2 : Nat) : Int) * 4294967296+rd u ((j+n+1 : Nat) : Int):=by
   rw [wrap_u64_of (x:=rd u ((j+n+2 : Nat) : Int)) (by omega) (by omega),wrap_u64_of (x:=rd u ((j+n+2 : Nat) : Int) * 4294967296) (by omega) (by omega),wrap_u64_of (x:=rd u ((j+n+1 : Nat) : Int)) (by omega) (by omega),or64_f r0 r1]
  have ev : IntKind.u64.wrap (rd v ((n+1 : Nat) : Int))=rd v ((n+1 : Nat) : Int):=wrap_u64_of (by omega) (by omega)
  have wg:=wrap_u64_of hs.g.1 hs.g.2
  have np : ¬ rd v ((n+1 : Nat) : Int)=0:=by omega
  refine Ev_up ?_
  unfold nat_long.l1
  rw [w0,w1,w2,w3,eo,ev,Int.tdiv_eq_ediv_of_nonneg htop.1,Int.tmod_eq_emod_of_nonneg htop.1,wg]
  refine Ev_pos (Int.natCast_nonneg _) ?_
  refine Ev_pos (Int.natCast_nonneg _) ?_
  refine Ev_pos c1 ?_
  refine Ev_pos (Int.natCast_nonneg _) ?_
  refine Ev_pos c2 ?_
  refine Ev_pos (Int.natCast_nonneg _) ?_
  refine Ev_pos c3 ?_
  refine Ev_neg np ?_
  rw [c8]
  refine guess_l h.wu hv hn c4 c5 h2 rfl rfl rfl _ (fun g' ga gb gc gd=>?_) _ _ _ (Nat.le_refl _) hs
  rw [← c8]
  exact digit hv c6 h ⟨ga,gb⟩ ⟨gc⟩ ⟨gd⟩ c7 _ (fun u' q' hd=>ih u' q' (by have:=hd.lq;omega) hd)
end Go.Proofs.Ytjiaobcoeegioaa.N
end
section
namespace Go.Proofs.Ytjiaobcoeegioaa.N
set_option linter.unusedVariables false
set_option linter.unusedSimpArgs false
open Go Go.RowKit Go.Proofs.YtjiaobcoeegioaaW.PrintWords Go.Proofs.YtjiaobcoeegioaaW.PrintLast Go.Proofs.YtjiaobcoeegioaaW.PrintMore Go.Proofs.Ytjiaobcoeegioaa.Pq
theorem shifted_length {y : Int} (hy : 0 < y) {i r : Nat} (hi : (L y).length=i+1) (hr : (r : Int)=32 - bl (rd (L y) (i : Int))) (hp : 0 < rd (L y) (i : Int)) : (L (y * 2 ^ r)).length=i+1:=by
 have h1:=bl_V (W_L y) i hi hp
 rw [V_L (by omega)] at h1
 have h2:=bl_shift hy r
 have hpow : (0 : Int) < 2 ^ r:=Int.pow_pos (by decide)
 have hpos : 0 < y * 2 ^ r:=Int.mul_pos hy hpow
 have h3:=bl_log hpos
 have h4 : bl (y * 2 ^ r)=((y * 2 ^ r).toNat.log2 : Int)+1:=bl_of h3.1 h3.2
 have h5 : (y * 2 ^ r).toNat.log2+1=32 * (i+1):=by omega
 rw [h5,← P_pow] at h3
 have h6 : P i≤2 ^ (y * 2 ^ r).toNat.log2:=by
  rw [P_pow]
  exact two_pow_mono (by omega)
 have h7:=L_length_le (i+1) h3.2
 have h8:=L_length_lt (Int.le_trans h6 h3.1)
 omega
theorem L_le {x : Int} (h0 : 0≤x) : x < P (L x).length:=by
 have:=V_lt (W_L x)
 rwa [V_L h0] at this
theorem P_le_of_length {y : Int} (hy : 0≤y) {i : Nat} (hi : (L y).length=i+1) : P i≤y:=by
 rcases Int.lt_or_le y (P i) with h|h
 ·have:=L_length_le i h
  omega
 ·exact h
theorem long_l0 {a v : List Int} {A : Int} {r : Nat} {R : List Int × List Int} (ha : a.length < 35184372087800) {n : Nat} (hn : n≤a.length)
  (next : ∀ u,W u→u.length=a.length+1→Aside0 (V u=A)→Ev (fun k=>nat_long.l1 k (r : Int) v u (n : Int) (List.replicate (a.length+1 - n) 0) (((a.length+1 - n : Nat) : Int) - 1)) R) :
  ∀ (d : Nat) (u : List Int),a.length+1 - u.length=d→u.length≤a.length+1→W u→Aside0 (V u=A)→Ev (fun k=>nat_long.l0 k a (r : Int) v u (n : Int)) R:=by
 intro d
 induction d with
|zero =>
  intro u hd hl hw hv
  have hul : u.length=a.length+1:=by omega
  have w1 : wrap64 ((u.length : Int) - (n : Int))=((a.length+1 - n : Nat) : Int):=by unfold wrap64;omega
  have w2 : wrap64 (((a.length+1 - n : Nat) : Int) - 1)=((a.length+1 - n : Nat) : Int) - 1:=by unfold wrap64;omega
  refine Ev_up ?_
  unfold nat_long.l0
  rw [w1,w2,Int.toNat_natCast]
  refine Ev_neg (by omega) ?_
  refine Ev_pos (Int.natCast_nonneg _) ?_
  refine Ev_pos (by omega) ?_
  exact next u hw hul hv
|succ d ih =>
  intro u hd hl hw hv
  refine Ev_up ?_
  unfold nat_long.l0
  refine Ev_pos (by omega) ?_
  refine Ev_pos (by omega) ?_
  refine ih (u++[0]) (by simp;omega) (by simp;omega) (W_append hw (W_one (by decide) (by decide))) ⟨?_⟩
  rw [V_snoc,Int.mul_zero,Int.add_zero]
  exact hv.out
theorem dg_start {x y : Int} {v u : List Int} {i r la : Nat} (hx0 : 0≤x) (hxl : x < P la) (hyl : P i≤y) (hvv : V v=y * 2 ^ r) (hvl : v.length=i+1) (hila : i+1≤la)
  (hu : W u) (hul : u.length=la+1) (huv : V u=x * 2 ^ r) : Dg v (x * 2 ^ r) (la+1) u (List.replicate (la+1 - (i+1)) 0) (la+1 - (i+1)) where
 wu:=hu
 wq:=W_replicate _
 lu:=hul
 lq:=by rw [List.length_replicate];omega
 lt:=by
  have hpow : (0 : Int) < 2 ^ r:=Int.pow_pos (by decide)
  have h1 : P (la+1 - (i+1)) * P i≤P (la+1 - (i+1)) * y:=Int.mul_le_mul_of_nonneg_left hyl (Int.le_of_lt (P_pos _))
  rw [← P_add,show la+1 - (i+1)+i=la by omega] at h1
  have h2 : x * 2 ^ r < P (la+1 - (i+1)) * y * 2 ^ r:=Int.mul_lt_mul_of_pos_right (Int.lt_of_lt_of_le hxl h1) hpow
  rw [huv,hvv,← Int.mul_assoc]
  exact h2
 e:=by rw [V_replicate,Int.mul_zero,Int.add_zero,huv]
 z:=fun m _=>rd_replicate _ _
theorem lz_f {t : Int} (h0 : 0 < t) (h1 : t < 4294967296) : bits_LeadingZeros32.f t=some (32 - bl t):=by
 have h2:=bl_pos h0
 have h3:=bl_32 h1
 unfold bits_LeadingZeros32.f
 rw [len32_f (Int.le_of_lt h0) h1,Option.bind_some,show wrap64 (32 - bl t)=32 - bl t by unfold wrap64;omega]
theorem div_shift {x y : Int} (hy : 0 < y) (r : Nat) : x * 2 ^ r / (y * 2 ^ r)=x / y∧x * 2 ^ r % (y * 2 ^ r) / 2 ^ r=x % y:=by
 have hpow : (0 : Int) < 2 ^ r:=Int.pow_pos (by decide)
 constructor
 ·exact Int.mul_ediv_mul_of_pos_left x y hpow
 ·rw [Int.mul_comm x,Int.mul_comm y,Int.mul_emod_mul_of_pos _ _ hpow,Int.mul_comm]
  exact Int.mul_ediv_cancel _ (by omega)
theorem long_f {x y : Int} (hy : 0 < y) (hyx : y≤x) (h2 : 2≤(L y).length) (hl : (L x).length < 35184360000000) : Ev (fun k=>nat_long.f k (L x) (L y)) (L (x / y),L (x % y)):=by
 obtain ⟨i,hi,hp⟩:=rd_last hy
 have rt:=W_rd (W_L y) (i : Int)
 have hb1:=bl_pos hp
 have hb2:=bl_32 rt.2
 obtain ⟨r,hr⟩ : ∃ r : Nat,(r : Int)=32 - bl (rd (L y) (i : Int)):=⟨(32 - bl (rd (L y) (i : Int))).toNat,by omega⟩
 have hr32 : r < 32:=by omega
 have hr65 : (r : Int)≤65536:=by omega
 have hx0 : 0≤x:=by omega
 have hy0 : 0≤y:=by omega
 have hxl:=L_le hx0
 have hyl:=P_le_of_length hy0 hi
 have hvl:=shifted_length hy hi hr hp
 have hila : i+1≤(L x).length:=by
  have:=L_length_lt (Int.le_trans hyl hyx)
  omega
 have hpow : (0 : Int) < 2 ^ r:=Int.pow_pos (by decide)
 have hys : 0 < y * 2 ^ r:=Int.mul_pos hy hpow
 have hxs : 0≤x * 2 ^ r:=Int.mul_nonneg hx0 (by omega)
 have hvv : V (L (y * 2 ^ r))=y * 2 ^ r:=V_L (by omega)
 have huv : V (L (x * 2 ^ r))=x * 2 ^ r:=V_L hxs
 obtain ⟨n,rfl⟩ : ∃ n,i=n+1:=⟨i - 1,by omega⟩
 obtain ⟨i',hi',hp'⟩:=rd_last hys
 have hii : i'=n+1:=by omega
 subst hii
 have hul : (L (x * 2 ^ r)).length≤(L x).length+1:=by
  refine L_length_le _ ?_
  rw [P_succ,Int.mul_comm 4294967296]
  have h3:=two_pow_le hr32
  have h4 : x * 2 ^ r < P (L x).length * 2 ^ r:=Int.mul_lt_mul_of_pos_right hxl hpow
  have h5 : P (L x).length * 2 ^ r≤P (L x).length * 4294967296:=Int.mul_le_mul_of_nonneg_left h3 (Int.le_of_lt (P_pos _))
  omega
 have w1 : wrap64 (((L y).length : Int) - 1)=((n+1 : Nat) : Int):=by unfold wrap64;omega
 have c1 : ((n+1 : Nat) : Int) < ((L y).length : Int):=by omega
 have c2 : (L y).length < 35184370000000:=by omega
 have c3 : (L x).length < 35184370000000:=by omega
 have c4 : (L x).length < 35184372087800:=by omega
 have c5 : (L x).length+1 < 35184372087809:=by omega
 have c6 : (L (y * 2 ^ r)).length≤(L x).length:=by omega
 have s1:=nshl_f (W_L y) c2 (r : Int)
 have s2:=nshl_f (W_L x) c3 (r : Int)
 rw [V_L hy0,shS_ok (Int.natCast_nonneg _) hr65,Int.toNat_natCast] at s1
 rw [V_L hx0,shS_ok (Int.natCast_nonneg _) hr65,Int.toNat_natCast] at s2
 have hds:=div_shift (x:=x) hy r
 unfold nat_long.f
 rw [w1]
 refine Ev_pos (Int.natCast_nonneg _) ?_
 refine Ev_pos c1 ?_
 refine Ev_some (lz_f hp rt.2) ?_
 rw [← hr]
 refine Ev.bind s1 ?_
 refine Ev.bind s2 ?_
 refine long_l0 c4 c6 (A:=x * 2 ^ r) (fun u hu hul' huv'=>?_) _ _ rfl hul (W_L _) ⟨huv⟩
 have hdg:=dg_start hx0 hxl hyl hvv (by omega : (L (y * 2 ^ r)).length=n+1+1) hila hu hul' huv'.out
 have e:=long_l1 (W_L (y * 2 ^ r)) hi' hp' c5 hr32 _ u _ (by rw [List.length_replicate];exact Nat.le_refl _) hdg
 rw [hvv,hds.1,hds.2] at e
 rw [hvl]
 rw [hvl] at e
 exact e
def dmS (x y : Int) : List Int × List Int × Bool:=if y=0 then ([],[],false) else (L (x / y),L (x % y),true)
theorem ndm_f {a b : List Int} (ha : W a) (hb : W b) (sa : a.length < 35184360000000) (sb : b.length < 35184360000000) : Ev (fun k=>nat_DivMod.f k a b) (dmS (V a) (V b)):=by
 have va:=V_nonneg ha
 have vb:=V_nonneg hb
 have la:=L_len_le ha
 have lb:=L_len_le hb
 have hsa : Sm (L (V a)):=by unfold Sm;omega
 have hsb : Sm (L (V b)):=by unfold Sm;omega
 have sa' : (L (V a)).length < 35184372087809:=by omega
 have sa2 : (L (V a)).length < 35184360000000:=by omega
 refine Ev_some (trim_f ha) ?_
 refine Ev_some (trim_f hb) ?_
 generalize V a=x at *
 generalize V b=y at *
 unfold dmS
 by_cases hy : y=0
 ·subst hy
  rw [if_pos rfl,L_zero]
  refine Ev_pos rfl ?_
  exact Ev.now _
 ·rw [if_neg hy]
  have hne : (L y).length≠0:=fun e=>hy ((L_nil_iff vb).1 (List.eq_nil_of_length_eq_zero e))
  have hyp : 0 < y:=by omega
  have n1 : ¬ ((L y).length : Int)=0:=by omega
  have hc:=ncmp_f (W_L x) (W_L y) hsa hsb
  rw [V_L va,V_L vb] at hc
  refine Ev_neg n1 ?_
  refine Ev.bind hc ?_
  by_cases h : x < y
  ·refine Ev_pos (cm_neg.2 h) ?_
   have hn:=norm_f (W_L x) hsa
   rw [V_L va] at hn
   refine Ev_some hn ?_
   rw [Int.ediv_eq_zero_of_lt va h,Int.emod_eq_of_lt va h,L_zero]
   exact Ev.now _
  ·refine Ev_neg (fun e=>h (cm_neg.1 e)) ?_
   by_cases h1 : ((L y).length : Int)=1
   ·refine Ev_pos h1 ?_
    refine Ev_pos (by omega) ?_
    obtain ⟨z,hz⟩:=List.length_eq_one_iff.1 (show (L y).length=1 by omega)
    have hv:=V_L vb
    rw [hz,V_one] at hv
    subst hv
    have hw:=W_L z
    rw [hz] at hw
    have hzb:=hw z (List.mem_singleton.2 rfl)
    have hs:=small_f (W_L x) (dv:=z) ⟨hyp,hzb.2⟩ sa'
    rw [V_L va] at hs
    rw [hz]
    refine Ev.bind hs ?_
    exact Ev.now _
   ·refine Ev_neg h1 ?_
    refine Ev.bind (long_f hyp (by omega) (by omega) sa2) ?_
    exact Ev.now _
end Go.Proofs.Ytjiaobcoeegioaa.N
end
section
namespace Go.Proofs.Ytjiaobcoeegioaa.N
set_option linter.unusedVariables false
set_option linter.unusedSimpArgs false
open Go Go.RowKit Go.Proofs.YtjiaobcoeegioaaW.PrintWords Go.Proofs.YtjiaobcoeegioaaW.PrintLast Go.Proofs.YtjiaobcoeegioaaW.PrintMore Go.Proofs.Ytjiaobcoeegioaa.Pq
theorem Nm.zero : Nm (N.L 0) 0 0:=by rw [L_zero];exact Nm.nil
theorem Nm.dm {a b : List Int} {m n : Nat} {x y : Int} (h : Nm a m x) (k : Nm b n y) (hm : m < 35184360000000) (hn : n < 35184360000000) : Ev (fun r=>nat_DivMod.f r a b) (dmS x y):=by
 have h1:=h.le
 have h2:=k.le
 have e:=ndm_f h.w k.w (by omega) (by omega)
 rwa [h.v,k.v] at e
end Go.Proofs.Ytjiaobcoeegioaa.N
end
section
namespace Go.Proofs.Ytjiaobcoeegioaa.N
set_option linter.unusedVariables false
set_option linter.unusedSimpArgs false
open Go Go.RowKit Go.Proofs.YtjiaobcoeegioaaW.PrintWords Go.Proofs.YtjiaobcoeegioaaW.PrintLast Go.Proofs.YtjiaobcoeegioaaW.PrintMore Go.Proofs.Ytjiaobcoeegioaa.Pq
def gz (x y : Int) : Int:=(Int.gcd x y : Int)
theorem gz_nonneg (x y : Int) : 0≤gz x y:=Int.natCast_nonneg _
theorem gz_nat (m n : Nat) : gz (m : Int) (n : Int)=(Nat.gcd m n : Int):=by
 unfold gz
 rw [Int.gcd_natCast_natCast]
theorem gz_zero {x : Int} (h : 0≤x) : gz x 0=x:=by
 obtain ⟨m,rfl⟩:=Int.eq_ofNat_of_zero_le h
 have:=gz_nat m 0
 rw [Nat.gcd_zero_right] at this
 exact this
theorem gz_step {x y : Int} (hx : 0≤x) (hy : 0≤y) : gz y (x % y)=gz x y:=by
 obtain ⟨m,rfl⟩:=Int.eq_ofNat_of_zero_le hx
 obtain ⟨n,rfl⟩:=Int.eq_ofNat_of_zero_le hy
 have e : ((m : Int) % (n : Int))=((m % n : Nat) : Int):=rfl
 rw [e,gz_nat,gz_nat,Nat.gcd_comm n,← Nat.gcd_rec,Nat.gcd_comm]
theorem gz_comm (x y : Int) : gz x y=gz y x:=by unfold gz;rw [Int.gcd_comm]
theorem gz_dvd_left (x y : Int) : gz x y ∣ x:=Int.gcd_dvd_left ..
theorem gz_dvd_right (x y : Int) : gz x y ∣ y:=Int.gcd_dvd_right ..
theorem gz_lt {x y B : Int} (hx : 0≤x) (hy : 0≤y) (hxB : x < B) (hyB : y < B) : gz x y < B:=by
 rcases Int.lt_or_eq_of_le hx with h|h
 ·have:=Int.le_of_dvd h (gz_dvd_left x y)
  omega
 ·subst h
  rw [gz_comm,gz_zero hy]
  exact hyB
theorem L_len0 {x : Int} (h : 0≤x) : ((L x).length : Int)=0↔x=0:=by
 rw [← L_nil_iff h]
 constructor
 ·intro e;exact List.eq_nil_of_length_eq_zero (by omega)
 ·intro e;rw [e];rfl
theorem dmS_pos {x y : Int} (h : 0 < y) : dmS x y=(L (x / y),L (x % y),true):=if_neg (by omega)
theorem gcd_l0 {N : Nat} (hN : N < 35184360000000) : ∀ (M : Nat) (x y : Int),y.toNat < M→0≤x→0≤y→x < P N→y < P N→Ev (fun k=>root_Gcd.l0 k (L x) (L y)) (L (gz x y)):=by
 intro M
 induction M with
|zero=>intro x y h;omega
|succ M ih =>
  intro x y hM hx hy hxN hyN
  have hl:=L_len0 hy
  refine Ev_up ?_
  unfold root_Gcd.l0
  by_cases h0 : y=0
  ·have h1 : ¬ ((L y).length : Int) > 0:=by rw [hl.2 h0];decide
   refine Ev_neg h1 ?_
   refine Ev_now ?_
   rw [h0,gz_zero hx]
  ·have hp : 0 < y:=by omega
   have h1 : ((L y).length : Int) > 0:=by
    have : ((L y).length : Int)≠0:=fun e=>h0 (hl.1 e)
    omega
   have m0:=Int.emod_nonneg x h0
   have m1:=Int.emod_lt_of_pos x hp
   refine Ev_pos h1 ?_
   refine Ev.bind ((Nm.L hx hxN).dm (Nm.L hy hyN) hN hN) ?_
   rw [dmS_pos hp,← gz_step hx hy]
   exact ih y (x % y) (by omega) hy m0 hyN (by omega)
theorem Nm.gcd {a b : List Int} {m n : Nat} {x y : Int} (h : Nm a m x) (k : Nm b n y) (hm : m < 17592180000000) (hn : n < 17592180000000) : Ev (fun r=>root_Gcd.f r a b) (N.L (gz x y)):=by
 refine Ev_some (h.nrm (by omega)) ?_
 refine Ev_some (k.nrm (by omega)) ?_
 exact gcd_l0 (N:=m+n) (by omega) _ x y (Nat.lt_succ_self _) h.pos k.pos (Int.lt_of_lt_of_le h.lt (P_le (by omega))) (Int.lt_of_lt_of_le k.lt (P_le (by omega)))
theorem Nm.gcdL {a b : List Int} {m n : Nat} {x y : Int} (h : Nm a m x) (k : Nm b n y) : Nm (N.L (gz x y)) (m+n) (gz x y) :=
 Nm.L (gz_nonneg x y) (gz_lt h.pos k.pos (Int.lt_of_lt_of_le h.lt (P_le (by omega))) (Int.lt_of_lt_of_le k.lt (P_le (by omega))))
end Go.Proofs.Ytjiaobcoeegioaa.N
end
section
namespace Go.Proofs.Ytjiaobcoeegioaa.N
set_option linter.unusedVariables false
set_option linter.unusedSimpArgs false
open Go Go.RowKit Go.Proofs.YtjiaobcoeegioaaW.PrintWords Go.Proofs.YtjiaobcoeegioaaW.PrintLast Go.Proofs.YtjiaobcoeegioaaW.PrintMore Go.Proofs.Ytjiaobcoeegioaa.Pq
def ratS (neg : Bool) (x y : Int) : Bool × List Int × List Int:=if x=0∨y=0 then (false,[],[1]) else (neg,L (x / gz x y),L (y / gz x y))
theorem ratS_zero {neg : Bool} {x y : Int} (h : x=0∨y=0) : ratS neg x y=(false,[],[1]):=if_pos h
theorem ratS_pos {neg : Bool} {x y : Int} (h : ¬ (x=0∨y=0)) : ratS neg x y=(neg,L (x / gz x y),L (y / gz x y)):=if_neg h
theorem gz_pos {x y : Int} (h : ¬ (x=0∨y=0)) : 0 < gz x y:=by
 have h1:=gz_nonneg x y
 by_cases h2 : gz x y=0
 ·exfalso
  have h3:=gz_dvd_left x y
  rw [h2] at h3
  exact h (.inl (Int.zero_dvd.mp h3))
 ·omega
theorem gz_le {x y : Int} (hx : 0≤x) (h : ¬ (x=0∨y=0)) : gz x y≤x:=Int.le_of_dvd (by omega) (gz_dvd_left x y)
theorem made_f {a b : List Int} {m n : Nat} {x y : Int} (h : Nm a m x) (k : Nm b n y) (hm : m < 1000000000) (hn : n < 1000000000) (neg : Bool) : Ev (fun r=>rat_made.f r neg a b) (ratS neg x y):=by
 have hx:=h.pos
 have hy:=k.pos
 have jT : ∀ (l : List Int) (l' : List Int),Ev (fun r=>rat_made.j0 r neg l l' true) (false,[],[1]):=fun l l'=>by
  refine Ev_up ?_
  unfold rat_made.j0
  exact Ev_pos rfl (Ev.now _)
 unfold rat_made.f
 refine Ev_some (h.nrm (by omega)) ?_
 refine Ev_some (k.nrm (by omega)) ?_
 by_cases hx0 : x=0
 ·refine Ev_pos ((L_len0 hx).mpr hx0) ?_
  rw [ratS_zero (.inl hx0)]
  exact jT _ _
 ·refine Ev_neg (fun hh=>hx0 ((L_len0 hx).mp hh)) ?_
  by_cases hy0 : y=0
  ·rw [ratS_zero (.inr hy0),show (((N.L y).length : Int) == 0)=true from beq_iff_eq.mpr ((L_len0 hy).mpr hy0)]
   exact jT _ _
  ·have h0 : ¬ (x=0∨y=0):=by omega
   have hg:=gz_pos h0
   have hgx:=gz_le hx h0
   rw [ratS_pos h0,show (((N.L y).length : Int) == 0)=false from beq_eq_false_iff_ne.mpr (fun hh=>hy0 ((L_len0 hy).mp hh))]
   have jj : Ev (fun r=>rat_made.j1 r neg (L x) (L y) (L (gz x y)) true) (neg,L (x / gz x y),L (y / gz x y)):=by
    refine Ev_up ?_
    unfold rat_made.j1
    refine Ev_pos rfl ?_
    refine Ev.bind (h.norm.dm (h.norm.gcdL k.norm) (by omega) (by omega)) ?_
    refine Ev.bind (k.norm.dm (h.norm.gcdL k.norm) (by omega) (by omega)) ?_
    rw [dmS_pos hg,dmS_pos hg]
    exact Ev.now _
   refine Ev_up ?_
   simp only [rat_made.j0]
   refine Ev_neg (by simp) ?_
   refine Ev.bind (h.norm.gcd k.norm (by omega) (by omega)) ?_
   by_cases hl : ((L (gz x y)).length : Int) > 1
   ·exact Ev_pos hl jj
   ·have hl0 : 0 < (L (gz x y)).length:=L_length_lt (m:=0) (by rw [P_zero];omega)
    refine Ev_neg hl ?_
    refine Ev_pos (by omega) ?_
    by_cases h1 : rd (L (gz x y)) 0 > 1
    ·rw [decide_eq_true h1]
     exact jj
    ·rw [decide_eq_false h1]
     have hb : gz x y < 4294967296:=by
      have h9:=V_lt (W_L (gz x y))
      have e1 : (L (gz x y)).length=1:=by omega
      rw [V_L (Int.le_of_lt hg),e1,show P 1=4294967296 by decide +kernel] at h9
      exact h9
     have hgg : gz x y=1:=by
      rw [L_pos hg] at h1
      have e2 : rd (gz x y % 4294967296 :: L (gz x y / 4294967296)) 0=gz x y % 4294967296:=rfl
      rw [e2] at h1
      generalize gz x y=g at *
      omega
     refine Ev_up ?_
     simp only [rat_made.j1]
     refine Ev_neg (by simp) ?_
     rw [hgg,Int.ediv_one,Int.ediv_one]
     exact Ev.now _
theorem read_f {a b : List Int} {m n : Nat} {x y : Int} (h : Nm a m x) (k : Nm b n y) (hm : m < 1000000000) (hn : n < 1000000000) (neg : Bool) : Ev (fun r=>rat_Read.f r neg a b) (ratS neg x y):=by
 unfold rat_Read.f
 refine Ev.bind (made_f h k hm hn neg) ?_
 exact Ev.now _
theorem ratS_parts {m n : Nat} {x y : Int} (hx : 0≤x) (hy : 0≤y) (hxm : x < P m) (hyn : y < P n) (neg : Bool) :
  ∃ s p q,ratS neg x y=(s,L p,L q)∧Nm (L p) m p∧Nm (L q) (n+1) q∧0 < q:=by
 by_cases h : x=0∨y=0
 ·refine ⟨false,0,1,by rw [ratS_zero h,L_zero,show L 1=[1] by rw [L_pos (by decide),show (1 : Int) / 4294967296=0 from rfl,L_zero];rfl],?_,?_,by decide⟩
  ·exact Nm.zero.up (Nat.zero_le _)
  ·rw [show L 1=[1] by rw [L_pos (by decide),show (1 : Int) / 4294967296=0 from rfl,L_zero];rfl]
   exact Nm.one.up (by omega)
 ·have hg:=gz_pos h
  refine ⟨neg,x / gz x y,y / gz x y,ratS_pos h,?_,?_,?_⟩
  ·exact Nm.L (Int.ediv_nonneg hx (by omega)) (Int.lt_of_le_of_lt (Int.ediv_le_self _ hx) hxm)
  ·exact (Nm.L (n:=n) (Int.ediv_nonneg hy (by omega)) (Int.lt_of_le_of_lt (Int.ediv_le_self _ hy) hyn)).up (by omega)
  ·exact Int.ediv_pos_of_pos_of_dvd (by omega) (by omega) (gz_dvd_right x y)
end Go.Proofs.Ytjiaobcoeegioaa.N
end
section
namespace Go.Proofs.Ytjiaobcoeegioaa.N
set_option linter.unusedVariables false
set_option linter.unusedSimpArgs false
open Go Go.RowKit Go.Proofs.YtjiaobcoeegioaaW.PrintWords Go.Proofs.YtjiaobcoeegioaaW.PrintLast Go.Proofs.YtjiaobcoeegioaaW.PrintMore Go.Proofs.Ytjiaobcoeegioaa.Pq
def qv (neg : Bool) (x y : Int) : Rat:=if neg=true then Rat.divInt (-x) y else Rat.divInt x y
def cq (q : Rat) : Bool × List Int × List Int:=(decide (q.num < 0),L (q.num.natAbs : Int),L (q.den : Int))
theorem L_unit : L 1=[1]:=by rw [L_pos (by decide),show (1 : Int) / 4294967296=0 from rfl,L_zero];rfl
theorem cq_zero : cq 0=(false,[],[1]):=by unfold cq;rw [← L_unit,← L_zero];rfl
theorem qv_zero {neg : Bool} {x y : Int} (h : x=0∨y=0) : qv neg x y=0:=by
 unfold qv
 rcases h with rfl|rfl <;> cases neg <;> simp [Rat.divInt_zero,Rat.zero_divInt]
theorem cq_qv {neg : Bool} {x y : Int} (hx : 0≤x) (hy : 0≤y) : ratS neg x y=cq (qv neg x y):=by
 by_cases h : x=0∨y=0
 ·rw [ratS_zero h,qv_zero h,cq_zero]
 ·rw [ratS_pos h]
  have x0 : 0 < x:=by omega
  have y0 : 0 < y:=by omega
  have hg:=gz_pos h
  have g1 : ((y.gcd x : Nat) : Int)=gz x y:=by unfold gz;rw [Int.gcd_comm]
  have g2 : ((y.gcd (-x) : Nat) : Int)=gz x y:=by rw [Int.gcd_neg];exact g1
  have hd1 : 0 < x / gz x y:=Int.ediv_pos_of_pos_of_dvd x0 (by omega) (gz_dvd_left x y)
  have hd2 : 0≤y / gz x y:=Int.ediv_nonneg hy (by omega)
  have hden : ∀ z : Int,((y.gcd z : Nat) : Int)=gz x y→(((Rat.divInt z y).den : Nat) : Int)=y / gz x y:=by
   intro z hz
   rw [Rat.den_divInt,if_neg (by omega),Int.natCast_ediv,hz]
   rw [Int.natAbs_of_nonneg hy]
  unfold cq qv
  cases neg
  ·rw [if_neg (by simp)]
   have hn : (Rat.divInt x y).num=x / gz x y:=by
    rw [Rat.num_divInt,g1,Int.sign_eq_one_of_pos y0,Int.one_mul]
   rw [hn,hden x g1,Int.natAbs_of_nonneg (by omega),decide_eq_false (by omega)]
  ·rw [if_pos rfl]
   have hn : (Rat.divInt (-x) y).num = -(x / gz x y):=by
    rw [Rat.num_divInt,g2,Int.sign_eq_one_of_pos y0,Int.one_mul,Int.neg_ediv_of_dvd (gz_dvd_left x y)]
   rw [hn,hden (-x) g2,Int.natAbs_neg,Int.natAbs_of_nonneg (by omega),decide_eq_true (by omega)]
def Sz (q : Rat) (n : Nat) : Prop:=(q.num.natAbs : Int) < P n∧(q.den : Int) < P n
theorem Sz.nums {q : Rat} {n : Nat} (h : Sz q n) : Nm (L (q.num.natAbs : Int)) n (q.num.natAbs : Int)∧Nm (L (q.den : Int)) n (q.den : Int):=⟨Nm.L (Int.natCast_nonneg _) h.1,Nm.L (Int.natCast_nonneg _) h.2⟩
theorem qv_cq (q : Rat) : qv (decide (q.num < 0)) (q.num.natAbs : Int) (q.den : Int)=q:=by
 unfold qv
 by_cases h : q.num < 0
 ·rw [decide_eq_true h,if_pos rfl,show -((q.num.natAbs : Nat) : Int)=q.num by omega]
  exact Rat.num_divInt_den q
 ·rw [decide_eq_false h,if_neg (by simp),show ((q.num.natAbs : Nat) : Int)=q.num by omega]
  exact Rat.num_divInt_den q
theorem Sz.up {q : Rat} {m n : Nat} (h : Sz q m) (hmn : m≤n) : Sz q n:=⟨Int.lt_of_lt_of_le h.1 (P_le hmn),Int.lt_of_lt_of_le h.2 (P_le hmn)⟩
theorem Sz.qv {neg : Bool} {x y : Int} {m n : Nat} (hx : 0≤x) (hy : 0≤y) (hxm : x < P m) (hyn : y < P n) : Sz (qv neg x y) (m+n+1):=by
 obtain ⟨s,p,q,e,hp,hq,hq0⟩:=ratS_parts hx hy hxm hyn neg
 rw [cq_qv hx hy] at e
 obtain ⟨_,e⟩:=Prod.mk.inj e
 obtain ⟨e1,e2⟩:=Prod.mk.inj e
 have e1:=L_inj (Int.natCast_nonneg _) hp.pos e1
 have e2:=L_inj (Int.natCast_nonneg _) hq.pos e2
 exact ⟨by rw [e1];exact Int.lt_of_lt_of_le hp.lt (P_le (by omega)),by rw [e2];exact Int.lt_of_lt_of_le hq.lt (P_le (by omega))⟩
theorem divInt_qv (neg : Bool) (x y : Int) : qv neg x y=(if neg=true then -(x : Rat) else (x : Rat)) / (y : Rat):=by
 unfold qv
 cases neg <;> simp [Rat.divInt_eq_div,Rat.intCast_neg]
theorem Sz.add {q r : Rat} {m n : Nat} (h : Sz q m) (k : Sz r n) : Sz (q+r) (m+n+1):=by
 have pm:=P_pos m
 have pn:=P_pos n
 have e : P (m+n+1)=4294967296 * (P m * P n):=by rw [P_succ,P_add]
 obtain ⟨h1,h2⟩:=h
 obtain ⟨k1,k2⟩:=k
 have t1 : ((q.num.natAbs : Nat) : Int) * (r.den : Int)≤P m * P n:=Int.mul_le_mul (by omega) (by omega) (Int.natCast_nonneg _) (by omega)
 have t2 : ((r.num.natAbs : Nat) : Int) * (q.den : Int)≤P m * P n:=by rw [Int.mul_comm (P m)];exact Int.mul_le_mul (by omega) (by omega) (Int.natCast_nonneg _) (by omega)
 have t3 : ((q.den : Nat) : Int) * (r.den : Int)≤P m * P n:=Int.mul_le_mul (by omega) (by omega) (Int.natCast_nonneg _) (by omega)
 have t0 : 0 < P m * P n:=Int.mul_pos pm pn
 have u1 : (((q.num * (r.den : Int)).natAbs : Nat) : Int)=((q.num.natAbs : Nat) : Int) * (r.den : Int):=by rw [Int.natAbs_mul,Int.natCast_mul,Int.natAbs_natCast]
 have u2 : (((r.num * (q.den : Int)).natAbs : Nat) : Int)=((r.num.natAbs : Nat) : Int) * (q.den : Int):=by rw [Int.natAbs_mul,Int.natCast_mul,Int.natAbs_natCast]
 have d0 : q.den * r.den≠0:=Nat.mul_ne_zero q.den_nz r.den_nz
 rw [Rat.add_def']
 unfold Sz
 rw [Rat.num_mkRat,if_neg d0,Rat.den_mkRat,if_neg d0,e]
 constructor
 ·have z1 : ∀ (a : Int) (g : Nat),(((a / (g : Int)).natAbs : Nat) : Int)≤((a.natAbs : Nat) : Int):=fun a g=>Int.ofNat_le.mpr (Int.natAbs_ediv_le_natAbs a g)
  have z2:=z1 (q.num * ↑r.den+r.num * ↑q.den) ((q.den * r.den).gcd (q.num * ↑r.den+r.num * ↑q.den).natAbs)
  omega
 ·have z1:=Nat.div_le_self (q.den * r.den) ((q.den * r.den).gcd (q.num * ↑r.den+r.num * ↑q.den).natAbs)
  have z2 : ((q.den * r.den : Nat) : Int)=(q.den : Int) * (r.den : Int):=Int.natCast_mul _ _
  omega
theorem plus_val {n m : Bool} {x y u v : Int} (hy : y≠0) (hv : v≠0) : qv n x y+qv m u v =
  if n=m then qv n (x * v+u * y) (y * v) else if u * y≤x * v then qv n (x * v - u * y) (y * v) else qv m (u * y - x * v) (y * v):=by
 have hy' : (y : Rat)≠0:=by simpa using hy
 have hv' : (v : Rat)≠0:=by simpa using hv
 simp only [divInt_qv]
 cases n <;> cases m <;> simp only [Bool.false_eq_true,if_false,if_true,Rat.intCast_add,Rat.intCast_mul,Rat.intCast_sub,reduceCtorEq] <;> (try split) <;> grind
theorem bl_zero_iff {x : Int} (h : 0≤x) : bl x=0↔x=0:=by
 constructor
 ·intro hb
  by_cases h0 : x=0
  ·exact h0
  ·have:=bl_pos (n:=x) (by omega)
   omega
 ·intro hb
  rw [hb,bl_zero]
theorem whole_f {a b : List Int} {i j : Nat} {x y : Int} (ha : Nm a i x) (hb : Nm b j y) (hj : j < 100000000) (n : Bool) :
  ∃ m c d u v,rat_whole.f n a b=some (m,c,d)∧Nm c i u∧Nm d (j+1) v∧0 < v∧qv m u v=qv n x y:=by
 unfold rat_whole.f
 rw [hb.bits (by omega)]
 by_cases h : y=0
 ·subst h
  rw [Option.bind_some,if_pos bl_zero]
  exact ⟨false,[],[1],0,1,rfl,Nm.nil.up (Nat.zero_le _),Nm.one.up (by omega),by decide,by rw [qv_zero (.inl rfl),qv_zero (.inr rfl)]⟩
 ·rw [Option.bind_some,if_neg (fun hh=>h ((bl_zero_iff hb.pos).mp hh))]
  have:=hb.pos
  exact ⟨n,a,b,x,y,rfl,ha,hb.up (by omega),by omega,rfl⟩
theorem plus_f {a b c d : List Int} {i j k l : Nat} {x y u v : Int} (ha : Nm a i x) (hb : Nm b j y) (hc : Nm c k u) (hd : Nm d l v) (hi : i < 100000000) (hj : j < 100000000) (hk : k < 100000000) (hl : l < 100000000) (n m : Bool) :
  Ev (fun r=>rat_plus.f r n a b m c d) (cq (qv n x y+qv m u v)):=by
 obtain ⟨n',a',b',x',y',e1,ha',hb',y0,w1⟩:=whole_f ha hb hj n
 obtain ⟨m',c',d',u',v',e2,hc',hd',v0,w2⟩:=whole_f hc hd hl m
 rw [← w1,← w2,plus_val (by omega) (by omega)]
 have hx:=ha'.pos
 have hu:=hc'.pos
 have p1:=ha'.mulL hd'
 have p2:=hc'.mulL hb'
 have p3:=hb'.mulL hd'
 unfold rat_plus.f
 refine Ev_some e1 ?_
 refine Ev_some e2 ?_
 refine Ev.bind (ha'.mul hd' (by omega) (by omega)) ?_
 refine Ev.bind (hc'.mul hb' (by omega) (by omega)) ?_
 refine Ev.bind (hb'.mul hd' (by omega) (by omega)) ?_
 by_cases h : n'=m'
 ·refine Ev_pos (by simpa using h) ?_
  rw [if_pos h,← cq_qv (Int.add_nonneg p1.pos p2.pos) p3.pos]
  refine Ev.bind (p1.add p2 (by omega) (by omega)) ?_
  exact made_f (p1.sumL p2) p3 (by omega) (by omega) _
 ·refine Ev_neg (by simpa using h) ?_
  rw [if_neg h]
  refine Ev.bind (p1.sub p2 (by omega) (by omega)) ?_
  unfold subS
  by_cases hl : x' * v' < u' * y'
  ·rw [if_pos hl,if_neg (by omega)]
   refine Ev_neg (by simp) ?_
   refine Ev.bind (p2.sub p1 (by omega) (by omega)) ?_
   unfold subS
   rw [if_neg (by omega),← cq_qv (by omega) p3.pos]
   exact made_f (Nm.L (n:=k+(j+1)) (by omega) (by have:=p2.lt;have:=p1.pos;omega)) p3 (by omega) (by omega) _
  ·rw [if_neg hl,if_pos (by omega)]
   refine Ev_pos rfl ?_
   rw [← cq_qv (by omega) p3.pos]
   exact made_f (Nm.L (n:=i+(l+1)) (by omega) (by have:=p1.lt;have:=p2.pos;omega)) p3 (by omega) (by omega) _
end Go.Proofs.Ytjiaobcoeegioaa.N
end
section
namespace Go.Proofs.Ytjiaobcoeegioaa.N
set_option linter.unusedVariables false
set_option linter.unusedSimpArgs false
open Go Go.RowKit Go.Proofs.YtjiaobcoeegioaaW.PrintWords Go.Proofs.YtjiaobcoeegioaaW.PrintLast Go.Proofs.YtjiaobcoeegioaaW.PrintMore Go.Proofs.Ytjiaobcoeegioaa.Pq
abbrev RatS:=S63
structure Wf (n : Nat) (x : RatS) : Prop where
 a : Nm x.f1 n (V x.f1)
 b : Nm x.f2 n (V x.f2)
def qOf (x : RatS) : Rat:=qv x.f0 (V x.f1) (V x.f2)
def mkR (q : Rat) : RatS:=⟨(cq q).1,(cq q).2.1,(cq q).2.2⟩
def chk (x : RatS) : Bool:=(x.f0 == (cq (qOf x)).1) && (x.f1 == (cq (qOf x)).2.1) && (x.f2 == (cq (qOf x)).2.2)
theorem chk_iff {x : RatS} : chk x=true↔x=mkR (qOf x):=by
 obtain ⟨a,b,c⟩:=x
 unfold chk mkR
 simp only [Bool.and_eq_true,beq_iff_eq]
 constructor
 ·rintro ⟨⟨h1,h2⟩,h3⟩
  exact congr (congr (congrArg S63.mk h1) h2) h3
 ·intro h
  injection h with h1 h2 h3
  exact ⟨⟨h1,h2⟩,h3⟩
theorem Wf.up {m n : Nat} {x : RatS} (h : Wf m x) (hmn : m≤n) : Wf n x:=⟨h.a.up hmn,h.b.up hmn⟩
theorem Sz.wf {q : Rat} {n : Nat} (h : Sz q n) : Wf n (mkR q):=⟨by
 have:=h.nums.1
 unfold mkR cq
 dsimp only
 rw [V_L this.pos]
 exact this,by
 have:=h.nums.2
 unfold mkR cq
 dsimp only
 rw [V_L this.pos]
 exact this⟩
theorem qOf_mkR (q : Rat) : qOf (mkR q)=q:=by
 unfold qOf mkR
 have h1 : V (cq q).2.1=(q.num.natAbs : Int):=V_L (Int.natCast_nonneg _)
 have h2 : V (cq q).2.2=(q.den : Int):=V_L (Int.natCast_nonneg _)
 rw [h1,h2]
 exact qv_cq q
theorem chk_mkR (q : Rat) : chk (mkR q)=true:=chk_iff.mpr (by rw [qOf_mkR])
theorem Wf.sz {n : Nat} {x : RatS} (h : Wf n x) : Sz (qOf x) (n+n+1):=Sz.qv h.a.pos h.b.pos h.a.lt h.b.lt
theorem read_ev {n : Nat} {x : RatS} (h : Wf n x) (hn : n < 10000000) : Ev (fun k=>rat_Read.f k x.f0 x.f1 x.f2) (cq (qOf x)):=by
 have h2:=read_f h.a h.b (by omega) (by omega) x.f0
 rw [cq_qv h.a.pos h.b.pos] at h2
 exact h2
theorem equal_l0 {a b : List Int} (hl : a.length=b.length) (ha : a.length < 4611686018427387904) : ∀ (d i : Nat),a.length - i=d→i≤a.length→(∀ j,j < i→a.getD j 0=b.getD j 0) →
  Ev (fun k=>slices_Equal_uint32_uint32.l0 k a b (a.length : Int) (i : Int)) (a == b):=by
 intro d
 induction d with
|zero =>
  intro i hd hi hj
  obtain rfl : i=a.length:=by omega
  refine Ev_up ?_
  simp only [slices_Equal_uint32_uint32.l0]
  refine Ev_neg (by omega) ?_
  have e : a=b:=by
   apply List.ext_getElem hl
   intro j h1 h2
   have:=hj j h1
   rwa [List.getD_eq_getElem?_getD,List.getD_eq_getElem?_getD,List.getElem?_eq_getElem h1,List.getElem?_eq_getElem h2] at this
  rw [e,beq_self_eq_true]
  exact Ev.now _
|succ d ih =>
  intro i hd hi hj
  have h1 : i < a.length:=by omega
  have r1 : rd a (i : Int)=a.getD i 0:=by unfold rd;rw [Int.toNat_natCast]
  have r2 : rd b (i : Int)=b.getD i 0:=by unfold rd;rw [Int.toNat_natCast]
  have g1 : (i : Int) < (a.length : Int):=by omega
  have g2 : 0≤(i : Int):=by omega
  have g3 : (i : Int) < (b.length : Int):=by omega
  have hw : wrap64 ((i : Int)+1)=((i+1 : Nat) : Int):=by clear ih hj;unfold wrap64;omega
  refine Ev_up ?_
  simp only [slices_Equal_uint32_uint32.l0]
  refine Ev_pos g1 (Ev_pos g2 (Ev_pos g1 (Ev_pos g3 ?_)))
  rw [r1,r2,hw]
  by_cases he : a.getD i 0=b.getD i 0
  ·refine Ev_pos he ?_
   exact ih (i+1) (by omega) (by omega) (fun j hj'=>by
    rcases Nat.lt_or_ge j i with h|h
    ·exact hj j h
    ·obtain rfl : j=i:=by omega
     exact he)
  ·refine Ev_neg he ?_
   rw [show (a == b)=false from beq_eq_false_iff_ne.mpr (fun e=>he (by rw [e]))]
   exact Ev.now _
theorem equal_f {a b : List Int} (ha : a.length < 4611686018427387904) : Ev (fun k=>slices_Equal_uint32_uint32.f k a b) (a == b):=by
 unfold slices_Equal_uint32_uint32.f
 by_cases hl : a.length=b.length
 ·exact Ev_pos (by omega) (equal_l0 hl ha a.length 0 rfl (Nat.zero_le _) (fun j hj=>by omega))
 ·refine Ev_neg (by omega) ?_
  rw [show (a == b)=false from beq_eq_false_iff_ne.mpr (fun e=>hl (by rw [e]))]
  exact Ev.now _
theorem check_ev {n : Nat} {x : RatS} (h : Wf n x) (hn : n < 10000000) : Ev (fun k=>rat_Check.f k x.f0 x.f1 x.f2) (chk x):=by
 unfold rat_Check.f chk
 have hs:=h.sz.nums
 refine Ev.bind (read_ev h hn) ?_
 by_cases h1 : ((cq (qOf x)).1 == x.f0)=true
 ·refine Ev_pos h1 ?_
  rw [show (x.f0 == (cq (qOf x)).1)=true by rw [beq_iff_eq] at h1 ⊢;exact h1.symm,Bool.true_and]
  have l1 : (cq (qOf x)).2.1.length < 4611686018427387904:=Nat.lt_of_le_of_lt hs.1.le (by omega)
  have l2 : (cq (qOf x)).2.2.length < 4611686018427387904:=Nat.lt_of_le_of_lt hs.2.le (by omega)
  have c1 : ((cq (qOf x)).2.1 == x.f1)=(x.f1 == (cq (qOf x)).2.1):=by rw [Bool.eq_iff_iff,beq_iff_eq,beq_iff_eq];exact eq_comm
  have c2 : ((cq (qOf x)).2.2 == x.f2)=(x.f2 == (cq (qOf x)).2.2):=by rw [Bool.eq_iff_iff,beq_iff_eq,beq_iff_eq];exact eq_comm
  have e1:=equal_f (a:=(cq (qOf x)).2.1) (b:=x.f1) l1
  have e2:=equal_f (a:=(cq (qOf x)).2.2) (b:=x.f2) l2
  rw [c1] at e1
  rw [c2] at e2
  refine Ev.bind e1 ?_
  cases h3 : (x.f1 == (cq (qOf x)).2.1)
  ·exact Ev_neg (by simp) (by rw [Bool.false_and];exact Ev.now _)
  ·exact Ev_pos rfl (Ev.bind e2 (by rw [Bool.true_and];exact Ev.now _))
 ·refine Ev_neg h1 ?_
  rw [show (x.f0 == (cq (qOf x)).1)=false by rw [beq_eq_false_iff_ne];intro e;exact h1 (by rw [e];exact beq_self_eq_true _),Bool.false_and,Bool.false_and]
  exact Ev.now _
end Go.Proofs.Ytjiaobcoeegioaa.N
end
section
namespace Go.Proofs.Ytjiaobcoeegioaa.N
set_option linter.unusedVariables false
open Go Go.RowKit Go.Proofs.YtjiaobcoeegioaaW.PrintWords Go.Proofs.YtjiaobcoeegioaaW.PrintLast Go.Proofs.YtjiaobcoeegioaaW.PrintMore Go.Proofs.Ytjiaobcoeegioaa.Pq
def szs (w h b : Int) : Bool:=decide (1≤w) && decide (w≤16) && decide (1≤h) && decide (h≤16) && decide (1≤b) && decide (b≤8)
theorem sizes_f (w h b : Int) : film_sizes.f w h b=some (szs w h b):=by
 unfold film_sizes.f szs
 by_cases h1 : w ≥ 1 <;> by_cases h2 : w≤16 <;> by_cases h3 : h ≥ 1 <;> by_cases h4 : h≤16 <;> by_cases h5 : b ≥ 1 <;> simp [*] <;> omega
def chkF (F : S27) : Bool:=szs F.f0 F.f1 F.f2 && decide ((F.f3.length : Int)=F.f0 * F.f1 * F.f2) && decide ((F.f4.length : Int)=F.f0 * F.f1 * F.f2) && F.f3.all chk && F.f4.all chk
def WfF (n : Nat) (F : S27) : Prop:=(∀ x∈F.f3,Wf n x)∧(∀ x∈F.f4,Wf n x)
end Go.Proofs.Ytjiaobcoeegioaa.N
end
section
namespace Go.Proofs.Ytjiaobcoeegioaa.Pq
open Go.RowKit Go.Proofs.YtjiaobcoeegioaaW.PrintWords Go.Proofs.YtjiaobcoeegioaaW.PrintLast Go.Proofs.YtjiaobcoeegioaaW.PrintMore Go.Proofs.Ytjiaobcoeegioaa.N
set_option linter.unusedVariables false
set_option linter.unusedSimpArgs false
theorem szs_prod {w h b : Int} (hs : szs w h b=true) : 0≤w * h∧w * h≤256∧0≤w * h * b∧w * h * b≤2048:=by
 simp only [szs,Bool.and_eq_true,decide_eq_true_eq] at hs
 obtain ⟨⟨⟨⟨⟨h1,h2⟩,h3⟩,h4⟩,h5⟩,h6⟩:=hs
 have a1 : 0≤w * h:=Int.mul_nonneg (by omega) (by omega)
 have a2 : w * h≤16 * 16:=Int.mul_le_mul h2 h4 (by omega) (by omega)
 have a3 : 0≤w * h * b:=Int.mul_nonneg a1 (by omega)
 have a4 : w * h * b≤(16 * 16) * 8:=Int.mul_le_mul a2 h6 (by omega) (by omega)
 omega
theorem check_sem {n : Nat} {x : S63} {A1 : Option Addr} {c1 : Nat} {A2 : Option Addr} {c2 : Nat} {w : World} (hw : Wf n x) (hn : n < 10000000) (l1 : x.f1.length≤c1) (g1 : (Kd.int .u32).C w A1 x.f1.length x.f1) (l2 : x.f2.length≤c2) (g2 : (Kd.int .u32).C w A2 x.f2.length x.f2) :
  Calls Try.prog 31 #[.agg #[.bool x.f0,.slice A1 x.f1.length c1,.slice A2 x.f2.length c2]] w fun e w'=>e=.returned (.bool (chk x))∧Below w.heap.size w w':=by
 obtain ⟨k,hk⟩:=(check_ev hw hn).rounds
 exact rat_Check.calls k x.f0 _ _ x.f1 _ _ x.f2 _ w g1 l1 g2 l2 hk
theorem odd_sem {n : Nat} {x : S63} {A1 : Option Addr} {c1 : Nat} {A2 : Option Addr} {c2 : Nat} {w : World} (hw : Wf n x) (hn : n < 10000000) (l1 : x.f1.length≤c1) (g1 : (Kd.int .u32).C w A1 x.f1.length x.f1) (l2 : x.f2.length≤c2) (g2 : (Kd.int .u32).C w A2 x.f2.length x.f2) :
  Calls Try.prog 30 #[.agg #[.bool x.f0,.slice A1 x.f1.length c1,.slice A2 x.f2.length c2]] w fun e w'=>e=.returned (.bool (!chk x))∧Below w.heap.size w w':=by
 have H1:=Aside0.mk (And.intro l1 g1)
 have H2:=Aside0.mk (And.intro l2 g2)
 clear l1 g1 l2 g2
 go_enter Try.func30,Try.ntmps30
 go_wp2_with (first|(go_at_call 31;(with_reducible refine (check_sem hw hn H1.out.1 (Kd.C_alloc H1.out.2 _) H2.out.1 (Kd.C_alloc H2.out.2 _)).mono ?_);rintro e w1 ⟨rfl,hb⟩))
 go_ret
 exact ⟨rfl,below_step (below_alloc (Below.refl _ _) _) hb⟩
set_option maxHeartbeats 1000000 in
theorem index_sem {n : Nat} (hn : n < 10000000) (A0 : Option Addr) (c0 : Nat) (l : List S63) (w : World) (hr : Kd.C k63 w A0 l.length l) (hw : ∀ x∈l,Wf n x) :
  Calls Try.prog 47 #[.slice A0 l.length c0,.func (.func 30) #[] #[]] w fun e w'=>∃ i : Int,e=.returned (.int .i64 i)∧decide (0≤i) = !(l.all chk)∧Below w.heap.size w w':=by
 have HR:=Aside0.mk hr
 have HW:=Aside0.mk hw
 have hmax : l.length≤9223372036854775807:=Kd.C_max hr
 clear hr hw
 go_enter Try.func47,Try.ntmps47
 go_wp2
 go_loopw [8] (fun i wr=>∃ j : Nat,j≤l.length∧i=.int .i64 j∧Aside0 ((l.take j).all chk=true)∧Aside0 (Below w.heap.size w wr)) (fun i _=>l.length - (intOf i).toNat)
 case atStart=>exact ⟨0,Nat.zero_le _,rfl,⟨rfl⟩,⟨Below.refl _ _⟩⟩
 case round =>
  obtain ⟨j,hj,rfl,HA,HB⟩:=hrel
  by_cases hlt : j < l.length
  ·obtain ⟨ad,A5,c5,A6,c6,rfl,p0,p1,p2,l1,g1,l2,g2⟩:=at_T63 (Kd.C_below HR.out HB.out) (j : Int) (by omega) (by omega)
   rw [Int.toNat_natCast] at p0 p1 p2
   have hx : rd_T63 l (j : Int)=l[j]:=by unfold rd_T63;rw [Int.toNat_natCast,List.getD_eq_getElem?_getD,List.getElem?_eq_getElem hlt];rfl
   have ht : (l.take (j+1)).all chk=((l.take j).all chk && chk l[j]):=by rw [List.take_succ_eq_append_getElem hlt,List.all_append];simp
   have hwx:=HW.out l[j] (List.getElem_mem _)
   have hall : chk l[j]=false→l.all chk=false:=fun h=>by
    rw [List.all_eq_false]
    exact ⟨l[j],List.getElem_mem _,by simp [h]⟩
   rw [hx] at p0 p1 p2 l1 g1 l2 g2
   generalize l[j]=x at *
   have G1:=Aside0.mk (And.intro l1 g1)
   have G2:=Aside0.mk (And.intro l2 g2)
   have HT:=Aside0.mk ht
   have HX:=Aside0.mk hwx
   have HQ:=Aside0.mk hall
   clear l1 g1 l2 g2 ht hwx hall hx
   cases hc : chk x
   all_goals
    go_wp2_with (first|(go_at_call 30;(with_reducible refine (odd_sem HX.out hn G1.out.1 G1.out.2 G2.out.1 G2.out.2).mono ?_);rintro e w1 ⟨rfl,hb⟩))
   ·go_ret
    exact ⟨j,rfl,by simp [HQ.out hc],below_step HB.out hb⟩
   ·go_roundw
    case rel=>exact ⟨j+1,hlt,by go_num,⟨by rw [HT.out,HA.out,hc];rfl⟩,⟨below_step HB.out hb⟩⟩
    case measure=>simp [intOf];omega
  ·obtain rfl : j=l.length:=by omega
   go_wp2
   go_ret
   have h:=HA.out
   rw [List.take_length] at h
   exact ⟨-1,rfl,by rw [h];rfl,HB.out⟩
theorem contains_sem {n : Nat} (hn : n < 10000000) (A0 : Option Addr) (c0 : Nat) (l : List S63) (w : World) (hr : Kd.C k63 w A0 l.length l) (hw : ∀ x∈l,Wf n x) :
  Calls Try.prog 33 #[.slice A0 l.length c0,.func (.func 30) #[] #[]] w fun e w'=>e=.returned (.bool (!(l.all chk)))∧Below w.heap.size w w':=by
 have H:=Aside0.mk (And.intro hr hw)
 clear hr hw
 go_enter Try.func33,Try.ntmps33
 go_wp2_with (first|(go_at_call 47;(with_reducible refine (index_sem hn A0 c0 l _ H.out.1 H.out.2).mono ?_);rintro e w1 ⟨i,rfl,hi,hb⟩))
 go_ret
 exact ⟨by rw [← hi];rfl,hb⟩
set_option maxHeartbeats 2000000 in
theorem fcheck_sem {n : Nat} (hn : n < 10000000) (F : S27) (A3 : Option Addr) (c3 : Nat) (A4 : Option Addr) (c4 : Nat) (w : World) (h3 : Kd.C k63 w A3 F.f3.length F.f3) (h4 : Kd.C k63 w A4 F.f4.length F.f4) (hw : WfF n F) :
  Calls Try.prog 16 #[.agg #[.int .i64 F.f0,.int .i64 F.f1,.int .i64 F.f2,.slice A3 F.f3.length c3,.slice A4 F.f4.length c4]] w fun e w'=>e=.returned (.bool (chkF F))∧Below w.heap.size w w':=by
 obtain ⟨W,h,b,xs,ys⟩:=F
 have H:=Aside0.mk (show Kd.C k63 w A3 xs.length xs∧Kd.C k63 w A4 ys.length ys∧(∀ x∈xs,Wf n x)∧(∀ x∈ys,Wf n x) from ⟨h3,h4,hw.1,hw.2⟩)
 have HE:=Aside0.mk (sizes_f W h b)
 have hm3 : xs.length≤9223372036854775807:=Kd.C_max h3
 have hm4 : ys.length≤9223372036854775807:=Kd.C_max h4
 clear h3 h4 hw
 unfold chkF
 dsimp only
 cases hs : szs W h b
 ·rw [Bool.false_and,Bool.false_and,Bool.false_and,Bool.false_and]
  rw [hs] at HE
  go_enter Try.func16,Try.ntmps16
  go_wp2_with (first|(go_at_call 32;(with_reducible refine (film_sizes.calls W h b false _ HE.out).mono ?_);rintro e w1 ⟨rfl,⟨nd,rfl⟩⟩))
  go_ret
  exact ⟨rfl,by repeat (first|exact Below.refl _ _|apply below_alloc|apply pw_below_drewN)⟩
 ·rw [Bool.true_and]
  rw [hs] at HE
  have hp:=szs_prod hs
  obtain ⟨q0,q1,q2,q3⟩:=hp
  obtain ⟨b1,hb1⟩ : ∃ z,((xs.length : Int) == W * h * b)=z:=⟨_,rfl⟩
  obtain ⟨b2,hb2⟩ : ∃ z,((ys.length : Int) == W * h * b)=z:=⟨_,rfl⟩
  obtain ⟨b3,hb3⟩ : ∃ z,xs.all chk=z:=⟨_,rfl⟩
  obtain ⟨b4,hb4⟩ : ∃ z,ys.all chk=z:=⟨_,rfl⟩
  rw [show decide ((xs.length : Int)=W * h * b)=b1 from hb1,show decide ((ys.length : Int)=W * h * b)=b2 from hb2,hb3,hb4]
  have HB3:=Aside0.mk hb3
  have HB4:=Aside0.mk hb4
  clear hb3 hb4
  go_enter Try.func16,Try.ntmps16
  cases b1 <;> cases b2 <;> cases b3 <;> cases b4
  all_goals
   go_wp2_with (first
   |(go_at_call 32;(with_reducible refine (film_sizes.calls W h b true _ HE.out).mono ?_);rintro e w1 ⟨rfl,⟨nd,rfl⟩⟩)
   |((have gd:=HB3);go_at_call 33;(with_reducible refine (contains_sem hn A3 c3 xs _ (Kd.C_drewN (Kd.C_alloc H.out.1 _) _) H.out.2.2.1).mono ?_);rintro e w2 ⟨he,hb⟩;rw [HB3.out] at he;subst he;obtain ⟨hc,hf⟩:=bcell hb;clear HB3 gd)
   |(go_at_call 33;(with_reducible refine (contains_sem hn A4 c4 ys _ (Kd.C_below (Kd.C_drewN (Kd.C_alloc H.out.2.1 _) _) hb) H.out.2.2.2).mono ?_);rintro e w3 ⟨he,hb'⟩;rw [HB4.out] at he;subst he))
  all_goals
   go_ret
   refine ⟨?_,?_⟩
   ·first|rfl|(simp;done)
   ·repeat (first|exact Below.refl _ _|apply below_alloc|apply pw_below_drewN|(refine below_step ?_ hb')|(refine below_step ?_ hb))
end Go.Proofs.Ytjiaobcoeegioaa.Pq
end
section
namespace Go.Proofs.Ytjiaobcoeegioaa.Pq
open Go.RowKit Go.Proofs.YtjiaobcoeegioaaW.PrintWords Go.Proofs.YtjiaobcoeegioaaW.PrintLast Go.Proofs.YtjiaobcoeegioaaW.PrintMore
attribute [local go_sem] max2_int min2_int max_two min_two max_three min_three max_four min_four
set_option linter.unusedVariables false
set_option linter.unusedSimpArgs false
set_option maxHeartbeats 8000000
set_option maxRecDepth 100000
theorem nat_Add.calls (k : Nat) (A0 : Option Addr) (c0 : Nat) (l0 : List Int) (A1 : Option Addr) (c1 : Nat) (l1 : List Int) (r : List Int) (w : World) (hr0 : Kd.C (Kd.int .u32) w A0 l0.length l0) (hc0 : l0.length≤c0) (hr1 : Kd.C (Kd.int .u32) w A1 l1.length l1) (hc1 : l1.length≤c1) (h : nat_Add.f k l0 l1=some r) :
  Calls Try.prog 58 #[.slice A0 l0.length c0,.slice A1 l1.length c1] w fun e w'=>∃ v0_ : Value,e=.returned (v0_)∧Kd.R (Kd.int .u32) 82 w' w.heap.size (fun _=>True) v0_ r∧Below w.heap.size w w':=by
 have HR0:=Aside0.mk hr0
 have HC0:=Aside0.mk hc0
 clear hr0 hc0
 have HR1:=Aside0.mk hr1
 have HC1:=Aside0.mk hc1
 clear hr1 hc1
 have HB:=Aside0.mk (Below.refl w.heap.size w)
 have H : ((nat_trim.f l0).bind fun t364=>((nat_trim.f l1).bind fun t366=>(if (t364.length : Int) < (t366.length : Int) then (if 0≤(wrap64 ((t366.length : Int)+1)) then (if (wrap64 ((t366.length : Int)+1) : Int).toNat≤70368744177664 then (nat_Add.l0 k t364 (([] : List Int)) 0 t366 (t366.length : Int) 0) else (none)) else (none)) else (if 0≤(wrap64 ((t364.length : Int)+1)) then (if (wrap64 ((t364.length : Int)+1) : Int).toNat≤70368744177664 then (nat_Add.l100 k t366 (([] : List Int)) 0 t364 (t364.length : Int) 0) else (none)) else (none)))))=some r:=h
 clear h
 replace H:=Option.bind_eq_some_iff.mp H
 obtain ⟨t364,A30,H⟩:=H
 replace H : ((nat_trim.f l1).bind fun t366=>(if (t364.length : Int) < (t366.length : Int) then (if 0≤(wrap64 ((t366.length : Int)+1)) then (if (wrap64 ((t366.length : Int)+1) : Int).toNat≤70368744177664 then (nat_Add.l0 k t364 (([] : List Int)) 0 t366 (t366.length : Int) 0) else (none)) else (none)) else (if 0≤(wrap64 ((t364.length : Int)+1)) then (if (wrap64 ((t364.length : Int)+1) : Int).toNat≤70368744177664 then (nat_Add.l100 k t366 (([] : List Int)) 0 t364 (t364.length : Int) 0) else (none)) else (none))))=some r:=H
 have A3:=Aside0.mk A30
 clear A30
 replace H:=Option.bind_eq_some_iff.mp H
 obtain ⟨t366,A40,H⟩:=H
 replace H : (if (t364.length : Int) < (t366.length : Int) then (if 0≤(wrap64 ((t366.length : Int)+1)) then (if (wrap64 ((t366.length : Int)+1) : Int).toNat≤70368744177664 then (nat_Add.l0 k t364 (([] : List Int)) 0 t366 (t366.length : Int) 0) else (none)) else (none)) else (if 0≤(wrap64 ((t364.length : Int)+1)) then (if (wrap64 ((t364.length : Int)+1) : Int).toNat≤70368744177664 then (nat_Add.l100 k t366 (([] : List Int)) 0 t364 (t364.length : Int) 0) else (none)) else (none)))=some r:=H
 have A4:=Aside0.mk A40
 clear A40
 by_cases c5 : (t364.length : Int) < (t366.length : Int)
 ·rw [if_pos c5] at H
  have c5b0 : decide ((t364.length : Int) < (t366.length : Int))=true:=decide_eq_true c5
  have c5b1 : decide (t364.length < t366.length)=true:=decide_eq_true (Int.ofNat_lt.mp c5)
  clear c5
  obtain ⟨ji6,hji6⟩ : ∃ j_ : Int,(wrap64 ((t366.length : Int)+1))=j_:=⟨_,rfl⟩
  replace H : (if 0≤(ji6) then (if (ji6 : Int).toNat≤70368744177664 then (nat_Add.l0 k t364 (([] : List Int)) 0 t366 (t366.length : Int) 0) else (none)) else (none))=some r:=by first|(rw [hji6] at H;exact H)|(simp only [hji6] at H ⊢;exact H)
  (try rw [hji6] at A3)
  (try rw [hji6] at A4)
  have hji6w : (IntKind.i64.wrap ((t366.length : Int)+1))=ji6:=(i64_w _).trans hji6
  by_cases c7 : 0≤(ji6)
  ·rw [if_pos c7] at H
   have c7b0:=eq_true c7
   have c7b1 : decide (0≤(ji6))=true:=decide_eq_true c7
   clear c7
   by_cases c8 : (ji6 : Int).toNat≤70368744177664
   ·rw [if_pos c8] at H
    have c8b0:=eq_true c8
    have c8b1 : decide ((ji6 : Int).toNat≤70368744177664)=true:=decide_eq_true c8
    clear c8
    obtain ⟨y368,hy368⟩ : ∃ y_ : List Int,y_=(([] : List Int)):=⟨_,rfl⟩
    replace H : (nat_Add.l0 k t364 y368 0 t366 (t366.length : Int) 0)=some r:=by first|(rw [hy368];with_reducible exact H)|(have H2_:=(Option.bind_some _ _).symm.trans H;rw [hy368];with_reducible exact H2_)|(have H2_:=(Option.bind_some _ _).symm.trans H;with_reducible exact H2_)|with_reducible exact H|(rw [hy368];exact H)|exact H
    have Ny368:=Aside0.mk hy368
    clear hy368
    have H':=Aside0.mk H
    clear H
    go_enter Try.func58,Try.ntmps58
    go_wp2_with (first|((with_reducible refine gate_callee (f:=70) rfl ?_);refine goesL_ (some 12) rfl rfl Try.func70 (by kernel_rfl) rfl #[.slice A0 l0.length c0] rfl (by (try simp only [List.map_toArray,List.map_cons,List.map_nil]);first|done|rfl|(simp only [List.length_drop,List.length_take];rfl)) ?_;(with_reducible refine (nat_trim.calls _ _ l0 t364 _ ?side1 ?side2 A3.out).mono ?_);(case side1=>repeat (first|exact HR0.out|(with_reducible refine Kd.C_alloc ?_ _)|(with_reducible refine Kd.C_drewN ?_ _)|(with_reducible refine Kd.C_drew ?_)));(case side2=>exact HC0.out);rintro e w' ⟨rfl,⟨nd,rfl⟩⟩;refine ⟨_,rfl,?_⟩;have HR365:=Aside0.mk (nat_trim.C HR0.out A3.out);have HC365:=Aside0.mk (Nat.le_refl t364.length))|((with_reducible refine gate_callee (f:=70) rfl ?_);refine goesL_ (some 14) rfl rfl Try.func70 (by kernel_rfl) rfl #[.slice A1 l1.length c1] rfl (by (try simp only [List.map_toArray,List.map_cons,List.map_nil]);first|done|rfl|(simp only [List.length_drop,List.length_take];rfl)) ?_;(with_reducible refine (nat_trim.calls _ _ l1 t366 _ ?side1 ?side2 A4.out).mono ?_);(case side1=>repeat (first|exact HR1.out|(with_reducible refine Kd.C_alloc ?_ _)|(with_reducible refine Kd.C_drewN ?_ _)|(with_reducible refine Kd.C_drew ?_)));(case side2=>exact HC1.out);rintro e w' ⟨rfl,⟨nd,rfl⟩⟩;refine ⟨_,rfl,?_⟩;have HR367:=Aside0.mk (nat_trim.C HR1.out A4.out);have HC367:=Aside0.mk (Nat.le_refl t366.length))|((with_reducible refine gate_dst (N:=25) rfl ?_);refine Kd.R_make0 (Kd.int .u32) _ 82 rfl (N:=25) rfl 61 _ _ rfl ji6 rfl rfl Try.underlying61 (.int .u32 0) 4 info82 rfl (by decide) (by omega) (ok:=fun _=>True) trivial (of_decide_eq_true (by first|(with_reducible assumption)|assumption)) (Nat.le_trans (Nat.mul_le_mul_right _ (of_decide_eq_true (by first|(with_reducible assumption)|assumption) : ji6.toNat≤70368744177664)) (by omega)) (Below.refl _ _) (Nat.le_refl _) ?_;intro v369 w9 ho10 hb hg_ hnew_;clear hg_ hnew_;(first|rw [← Ny368.out] at ho10|(simp only [Int.reduceToNat] at ho10;rw [← Ny368.out] at ho10));have n0_:=Aside0.mk (Kd.R_lower ho10 (below_size (by repeat (first|(with_reducible first|exact HB.out|apply below_alloc|apply pw_below_drewN|apply below_drew1)|exact HB.out))));have n1_:=Aside0.mk (below_step (by repeat (first|(with_reducible first|exact HB.out|apply below_alloc|apply pw_below_drewN|apply below_drew1)|exact HB.out)) hb);clear HB;have HO370:=n0_;have HB:=n1_;clear n0_ n1_;clear hb ho10))
    go_loopg [5,6,28] k (fun kq v5 v6 v28 w'=>∃ (x5_1 : List Int) (x6_1 : Int) (x28_1 : Int),v6=.int .u32 x6_1∧v28=.int .i64 x28_1∧Aside0 (nat_Add.l0 kq t364 x5_1 x6_1 t366 (t366.length : Int) x28_1=some r)∧Aside0 (kq≤k)∧Aside0 (Kd.R (Kd.int .u32) 82 w' w.heap.size (fun _=>True) v5 x5_1)∧Aside0 (Below w.heap.size w w'))
    case atStart=>exact ⟨(y368),(0),(0),(by first|rfl|(simp;done)|(simp [*];done)),(by first|rfl|(simp;done)|(simp [*];done)),H',⟨Nat.le_refl _⟩,⟨by (with_reducible repeat (first|apply Kd.R_alloc|apply Kd.R_drewN|apply Kd.R_drew));exact HO370.out⟩,⟨by repeat (first|(with_reducible first|exact HB.out|apply below_alloc|apply pw_below_drewN|apply below_drew1)|exact HB.out)⟩⟩
    case round =>
     clear H'
     try clear c1
     try clear p2
     try clear c5
     try clear c5b0
     try clear c5b1
     try clear p6
     try clear c7
     try clear c7b0
     try clear c7b1
     try clear c8
     try clear c8b0
     try clear c8b1
     obtain ⟨x5_1,x6_1,x28_1,rfl,rfl,HA,HK1,HO_5,HB⟩:=hrel
     cases gk with
    |zero=>exact absurd HA.out (by simp [nat_Add.l0])
    |succ k1 =>
      have H:=HA.out
      clear HA
      simp only [nat_Add.l0] at H
      by_cases c11 : x28_1 < (t366.length : Int)
      ·rw [if_pos c11] at H
       have c11b0 : decide (x28_1 < (t366.length : Int))=true:=decide_eq_true c11
       clear c11
       by_cases c12 : 0≤x28_1
       ·rw [if_pos c12] at H
        have c12b0 : decide (0≤x28_1)=true:=decide_eq_true c12
        clear c12
        by_cases c13 : x28_1 < (t366.length : Int)
        ·rw [if_pos c13] at H
         have c13b0 : decide (x28_1 < (t366.length : Int))=true:=decide_eq_true c13
         clear c13
         by_cases c14 : x28_1 < (t364.length : Int)
         ·rw [if_pos c14] at H
          have c14b0 : decide (x28_1 < (t364.length : Int))=true:=decide_eq_true c14
          clear c14
          replace H:=Option.bind_eq_some_iff.mp H
          obtain ⟨⟨t373,t374⟩,A150,H⟩:=H
          replace H : (if x5_1.length < 35184372088832 then (nat_Add.l0 k1 t364 (x5_1++[t373]) t374 t366 (t366.length : Int) (wrap64 (x28_1+1))) else (none))=some r:=H
          have A15:=Aside0.mk A150
          clear A150
          by_cases c16 : x5_1.length < 35184372088832
          ·rw [if_pos c16] at H
           have LMc16:=Aside0.mk c16
           clear c16
           obtain ⟨y375,hy375⟩ : ∃ y_ : List Int,y_=(x5_1++[t373]):=⟨_,rfl⟩
           replace H : (nat_Add.l0 k1 t364 y375 t374 t366 (t366.length : Int) (wrap64 (x28_1+1)))=some r:=by first|(rw [hy375];with_reducible exact H)|(have H2_:=(Option.bind_some _ _).symm.trans H;rw [hy375];with_reducible exact H2_)|(have H2_:=(Option.bind_some _ _).symm.trans H;with_reducible exact H2_)|with_reducible exact H|(rw [hy375];exact H)|exact H
           have Ny375:=Aside0.mk hy375
           clear hy375
           have H':=Aside0.mk H
           clear H
           have p371 : 0≤(x28_1 : Int):=of_decide_eq_true (by first|(with_reducible assumption)|assumption)
           have q371 : x28_1 < (t366.length : Int):=of_decide_eq_true (by first|(with_reducible assumption)|assumption)
           obtain ⟨ad371,e371,hx371_0⟩:=Kd.at_int HR367.out x28_1 p371 q371
           cases e371
           replace hx371_0:=(HB.out.cell (World.block_lt_of_cell? w _ hx371_0)).trans hx371_0
           replace p371:=eq_true p371
           replace q371:=eq_true q371
           have p372 : 0≤(x28_1 : Int):=of_decide_eq_true (by first|(with_reducible assumption)|assumption)
           have q372 : x28_1 < (t364.length : Int):=of_decide_eq_true (by first|(with_reducible assumption)|assumption)
           obtain ⟨ad372,e372,hx372_0⟩:=Kd.at_int HR365.out x28_1 p372 q372
           cases e372
           replace hx372_0:=(HB.out.cell (World.block_lt_of_cell? w _ hx372_0)).trans hx372_0
           replace p372:=eq_true p372
           replace q372:=eq_true q372
           go_wp2_with (first|((with_reducible refine gate_callee (f:=71) rfl ?_);refine goesL_ (some 45) rfl rfl Try.func71 (by kernel_rfl) rfl #[.int .u32 (rd t366 x28_1),.int .u32 (rd t364 x28_1),.int .u32 x6_1] rfl (by (try simp only [List.map_toArray,List.map_cons,List.map_nil]);first|done|rfl|(simp only [List.length_drop,List.length_take];rfl)) ?_;(with_reducible refine (bits_Add32.calls (rd t366 x28_1) (rd t364 x28_1) x6_1 t373 t374 _ A15.out).mono ?_);rintro e w' ⟨rfl,⟨nd,rfl⟩⟩;refine ⟨_,rfl,?_⟩)|((with_reducible refine gate_builtin (b:=.append) (xs:=#[.tmp 48,.tmp 50]) rfl ?_);at_builtin;refine Kd.R_append (Kd.int .u32) (w0:=w) w.heap.size rfl (.tmp 48) (.tmp 50) 61 82 (.int .u32 0) 4 rfl Try.underlying61 info82 rfl (by decide) (by omega) u5 x5_1 t373 [.int .u32 t373] (fun _=>True) (fun _=>False) rfl rfl ?aP (fun _ hk=>hk.elim) ?aF ?aO ?aB ?aS ?aL ?_;(case aP=>exact rfl);(case aB=>exact (by repeat (first|(with_reducible first|exact HB.out|apply below_alloc|apply pw_below_drewN|apply below_drew1)|exact HB.out)));(case aF=>exact (fun _ _=>trivial));(case aO=>exact (by (with_reducible repeat (first|apply Kd.R_alloc|apply Kd.R_drewN|apply Kd.R_drew));exact HO_5.out));(case aS=>exact (below_size (by repeat (first|(with_reducible first|exact HB.out|apply below_alloc|apply pw_below_drewN|apply below_drew1)|exact HB.out))));(case aL=>have:=LMc16.out;omega);intro v376 w17 ho hb hg hat;rw [← Ny375.out] at ho;have n0_:=Aside0.mk (hb);have n1_:=Aside0.mk (ho);clear HB;clear HO_5;have HB:=n0_;have HO377:=n1_;clear n0_ n1_;clear ho hb hg hat))
           go_roundg k1
           case measure=>have:=HK1.out;omega
           case rel=>exact ⟨(y375),(t374),(wrap64 (x28_1+1)),(by first|rfl|(simp;done)|(simp [*];done)),(by first|rfl|(simp;done)|(simp [*];done)),H',⟨by have:=HK1.out;omega⟩,⟨by (with_reducible repeat (first|apply Kd.R_alloc|apply Kd.R_drewN|apply Kd.R_drew));exact HO377.out⟩,⟨by repeat (first|(with_reducible first|exact HB.out|apply below_alloc|apply pw_below_drewN|apply below_drew1)|exact HB.out)⟩⟩
          ·rw [if_neg c16] at H
           exact absurd H (by simp)
         ·rw [if_neg c14] at H
          have c14b0 : decide (x28_1 < (t364.length : Int))=false:=decide_eq_false c14
          clear c14
          replace H:=Option.bind_eq_some_iff.mp H
          obtain ⟨⟨t378,t379⟩,A180,H⟩:=H
          replace H : (if x5_1.length < 35184372088832 then (nat_Add.l0 k1 t364 (x5_1++[t378]) t379 t366 (t366.length : Int) (wrap64 (x28_1+1))) else (none))=some r:=H
          have A18:=Aside0.mk A180
          clear A180
          by_cases c19 : x5_1.length < 35184372088832
          ·rw [if_pos c19] at H
           have LMc19:=Aside0.mk c19
           clear c19
           obtain ⟨y380,hy380⟩ : ∃ y_ : List Int,y_=(x5_1++[t378]):=⟨_,rfl⟩
           replace H : (nat_Add.l0 k1 t364 y380 t379 t366 (t366.length : Int) (wrap64 (x28_1+1)))=some r:=by first|(rw [hy380];with_reducible exact H)|(have H2_:=(Option.bind_some _ _).symm.trans H;rw [hy380];with_reducible exact H2_)|(have H2_:=(Option.bind_some _ _).symm.trans H;with_reducible exact H2_)|with_reducible exact H|(rw [hy380];exact H)|exact H
           have Ny380:=Aside0.mk hy380
           clear hy380
           have H':=Aside0.mk H
           clear H
           have p371 : 0≤(x28_1 : Int):=of_decide_eq_true (by first|(with_reducible assumption)|assumption)
           have q371 : x28_1 < (t366.length : Int):=of_decide_eq_true (by first|(with_reducible assumption)|assumption)
           obtain ⟨ad371,e371,hx371_0⟩:=Kd.at_int HR367.out x28_1 p371 q371
           cases e371
           replace hx371_0:=(HB.out.cell (World.block_lt_of_cell? w _ hx371_0)).trans hx371_0
           replace p371:=eq_true p371
           replace q371:=eq_true q371
           go_wp2_with (first|((with_reducible refine gate_callee (f:=71) rfl ?_);refine goesL_ (some 45) rfl rfl Try.func71 (by kernel_rfl) rfl #[.int .u32 (rd t366 x28_1),.int .u32 0,.int .u32 x6_1] rfl (by (try simp only [List.map_toArray,List.map_cons,List.map_nil]);first|done|rfl|(simp only [List.length_drop,List.length_take];rfl)) ?_;(with_reducible refine (bits_Add32.calls (rd t366 x28_1) 0 x6_1 t378 t379 _ A18.out).mono ?_);rintro e w' ⟨rfl,⟨nd,rfl⟩⟩;refine ⟨_,rfl,?_⟩)|((with_reducible refine gate_builtin (b:=.append) (xs:=#[.tmp 48,.tmp 50]) rfl ?_);at_builtin;refine Kd.R_append (Kd.int .u32) (w0:=w) w.heap.size rfl (.tmp 48) (.tmp 50) 61 82 (.int .u32 0) 4 rfl Try.underlying61 info82 rfl (by decide) (by omega) u5 x5_1 t378 [.int .u32 t378] (fun _=>True) (fun _=>False) rfl rfl ?aP (fun _ hk=>hk.elim) ?aF ?aO ?aB ?aS ?aL ?_;(case aP=>exact rfl);(case aB=>exact (by repeat (first|(with_reducible first|exact HB.out|apply below_alloc|apply pw_below_drewN|apply below_drew1)|exact HB.out)));(case aF=>exact (fun _ _=>trivial));(case aO=>exact (by (with_reducible repeat (first|apply Kd.R_alloc|apply Kd.R_drewN|apply Kd.R_drew));exact HO_5.out));(case aS=>exact (below_size (by repeat (first|(with_reducible first|exact HB.out|apply below_alloc|apply pw_below_drewN|apply below_drew1)|exact HB.out))));(case aL=>have:=LMc19.out;omega);intro v381 w20 ho hb hg hat;rw [← Ny380.out] at ho;have n0_:=Aside0.mk (hb);have n1_:=Aside0.mk (ho);clear HB;clear HO_5;have HB:=n0_;have HO382:=n1_;clear n0_ n1_;clear ho hb hg hat))
           go_roundg k1
           case measure=>have:=HK1.out;omega
           case rel=>exact ⟨(y380),(t379),(wrap64 (x28_1+1)),(by first|rfl|(simp;done)|(simp [*];done)),(by first|rfl|(simp;done)|(simp [*];done)),H',⟨by have:=HK1.out;omega⟩,⟨by (with_reducible repeat (first|apply Kd.R_alloc|apply Kd.R_drewN|apply Kd.R_drew));exact HO382.out⟩,⟨by repeat (first|(with_reducible first|exact HB.out|apply below_alloc|apply pw_below_drewN|apply below_drew1)|exact HB.out)⟩⟩
          ·rw [if_neg c19] at H
           exact absurd H (by simp)
        ·rw [if_neg c13] at H
         exact absurd H (by simp)
       ·rw [if_neg c12] at H
        exact absurd H (by simp)
      ·rw [if_neg c11] at H
       have c11b0 : decide (x28_1 < (t366.length : Int))=false:=decide_eq_false c11
       clear c11
       by_cases c21 : x5_1.length < 35184372088832
       ·rw [if_pos c21] at H
        have LMc21:=Aside0.mk c21
        clear c21
        obtain ⟨y383,hy383⟩ : ∃ y_ : List Int,y_=(x5_1++[x6_1]):=⟨_,rfl⟩
        replace H : ((nat_trim.f y383).bind fun t386=>(some t386))=some r:=by first|(rw [hy383];with_reducible exact H)|(have H2_:=(Option.bind_some _ _).symm.trans H;rw [hy383];with_reducible exact H2_)|(have H2_:=(Option.bind_some _ _).symm.trans H;with_reducible exact H2_)|with_reducible exact H|(rw [hy383];exact H)|exact H
        have Ny383:=Aside0.mk hy383
        clear hy383
        replace H:=Option.bind_eq_some_iff.mp H
        obtain ⟨t386,A220,H⟩:=H
        replace H : (some t386)=some r:=H
        have A22:=Aside0.mk A220
        clear A220
        obtain rfl:=Option.some.inj H
        go_wp2_with (first|((with_reducible refine gate_builtin (b:=.append) (xs:=#[.tmp 53,.tmp 55]) rfl ?_);at_builtin;refine Kd.R_append (Kd.int .u32) (w0:=w) w.heap.size rfl (.tmp 53) (.tmp 55) 61 82 (.int .u32 0) 4 rfl Try.underlying61 info82 rfl (by decide) (by omega) u5 x5_1 x6_1 [.int .u32 x6_1] (fun _=>True) (fun _=>False) rfl rfl ?aP (fun _ hk=>hk.elim) ?aF ?aO ?aB ?aS ?aL ?_;(case aP=>exact rfl);(case aB=>exact (by repeat (first|(with_reducible first|exact HB.out|apply below_alloc|apply pw_below_drewN|apply below_drew1)|exact HB.out)));(case aF=>exact (fun _ _=>trivial));(case aO=>exact (by (with_reducible repeat (first|apply Kd.R_alloc|apply Kd.R_drewN|apply Kd.R_drew));exact HO_5.out));(case aS=>exact (below_size (by repeat (first|(with_reducible first|exact HB.out|apply below_alloc|apply pw_below_drewN|apply below_drew1)|exact HB.out))));(case aL=>have:=LMc21.out;omega);intro v384 w23 ho hb hg hat;rw [← Ny383.out] at ho;have n0_:=Aside0.mk (hb);have n1_:=Aside0.mk (ho);clear HB;clear HO_5;have HB:=n0_;have HO385:=n1_;clear n0_ n1_;clear ho hb hg hat;obtain ⟨Ao24,co24,eo24⟩:=Kd.R_slice HO385.out;subst eo24)|((with_reducible refine gate_callee (f:=70) rfl ?_);refine goesL_ (some 57) rfl rfl Try.func70 (by kernel_rfl) rfl #[.slice Ao24 y383.length co24] rfl (by (try simp only [List.map_toArray,List.map_cons,List.map_nil]);first|done|rfl|(simp only [List.length_drop,List.length_take];rfl)) ?_;(with_reducible refine (nat_trim.calls _ _ y383 t386 _ ?side1 ?side2 A22.out).mono ?_);(case side1=>repeat (first|exact (Kd.R_reads' HO385.out).2.2|(with_reducible refine Kd.C_alloc ?_ _)|(with_reducible refine Kd.C_drewN ?_ _)|(with_reducible refine Kd.C_drew ?_)));(case side2=>exact (Kd.R_reads' HO385.out).2.1);rintro e w' ⟨rfl,⟨nd,rfl⟩⟩;refine ⟨_,rfl,?_⟩;have HO388:=Aside0.mk (nat_trim.R HO385.out A22.out);clear HO385))
        go_ret
        exact ⟨_,by first|rfl|(simp [errW_none,errW_some] <;> rfl)|(simp only [← hji6];first|rfl|(simp [errW_none,errW_some] <;> rfl))|(simp [*,errW_none,errW_some] <;> rfl),by (with_reducible repeat (first|apply Kd.R_alloc|apply Kd.R_drewN|apply Kd.R_drew));exact HO388.out,by repeat (first|(with_reducible first|exact HB.out|apply below_alloc|apply pw_below_drewN|apply below_drew1)|exact HB.out)⟩
       ·rw [if_neg c21] at H
        exact absurd H (by simp)
   ·rw [if_neg c8] at H
    exact absurd H (by simp)
  ·rw [if_neg c7] at H
   exact absurd H (by simp)
 ·rw [if_neg c5] at H
  have c5b0 : decide ((t364.length : Int) < (t366.length : Int))=false:=decide_eq_false c5
  have c5b1 : decide (t364.length < t366.length)=false:=decide_eq_false (fun h=>c5 (Int.ofNat_lt.mpr h))
  clear c5
  obtain ⟨ji25,hji25⟩ : ∃ j_ : Int,(wrap64 ((t364.length : Int)+1))=j_:=⟨_,rfl⟩
  replace H : (if 0≤(ji25) then (if (ji25 : Int).toNat≤70368744177664 then (nat_Add.l100 k t366 (([] : List Int)) 0 t364 (t364.length : Int) 0) else (none)) else (none))=some r:=by first|(rw [hji25] at H;exact H)|(simp only [hji25] at H ⊢;exact H)
  (try rw [hji25] at A3)
  (try rw [hji25] at A4)
  have hji25w : (IntKind.i64.wrap ((t364.length : Int)+1))=ji25:=(i64_w _).trans hji25
  by_cases c26 : 0≤(ji25)
  ·rw [if_pos c26] at H
   have c26b0:=eq_true c26
   have c26b1 : decide (0≤(ji25))=true:=decide_eq_true c26
   clear c26
   by_cases c27 : (ji25 : Int).toNat≤70368744177664
   ·rw [if_pos c27] at H
    have c27b0:=eq_true c27
    have c27b1 : decide ((ji25 : Int).toNat≤70368744177664)=true:=decide_eq_true c27
    clear c27
    obtain ⟨y389,hy389⟩ : ∃ y_ : List Int,y_=(([] : List Int)):=⟨_,rfl⟩
    replace H : (nat_Add.l100 k t366 y389 0 t364 (t364.length : Int) 0)=some r:=by first|(rw [hy389];with_reducible exact H)|(have H2_:=(Option.bind_some _ _).symm.trans H;rw [hy389];with_reducible exact H2_)|(have H2_:=(Option.bind_some _ _).symm.trans H;with_reducible exact H2_)|with_reducible exact H|(rw [hy389];exact H)|exact H
    have Ny389:=Aside0.mk hy389
    clear hy389
    have H':=Aside0.mk H
    clear H
    go_enter Try.func58,Try.ntmps58
    go_wp2_with (first|((with_reducible refine gate_callee (f:=70) rfl ?_);refine goesL_ (some 12) rfl rfl Try.func70 (by kernel_rfl) rfl #[.slice A0 l0.length c0] rfl (by (try simp only [List.map_toArray,List.map_cons,List.map_nil]);first|done|rfl|(simp only [List.length_drop,List.length_take];rfl)) ?_;(with_reducible refine (nat_trim.calls _ _ l0 t364 _ ?side1 ?side2 A3.out).mono ?_);(case side1=>repeat (first|exact HR0.out|(with_reducible refine Kd.C_alloc ?_ _)|(with_reducible refine Kd.C_drewN ?_ _)|(with_reducible refine Kd.C_drew ?_)));(case side2=>exact HC0.out);rintro e w' ⟨rfl,⟨nd,rfl⟩⟩;refine ⟨_,rfl,?_⟩;have HR365:=Aside0.mk (nat_trim.C HR0.out A3.out);have HC365:=Aside0.mk (Nat.le_refl t364.length))|((with_reducible refine gate_callee (f:=70) rfl ?_);refine goesL_ (some 14) rfl rfl Try.func70 (by kernel_rfl) rfl #[.slice A1 l1.length c1] rfl (by (try simp only [List.map_toArray,List.map_cons,List.map_nil]);first|done|rfl|(simp only [List.length_drop,List.length_take];rfl)) ?_;(with_reducible refine (nat_trim.calls _ _ l1 t366 _ ?side1 ?side2 A4.out).mono ?_);(case side1=>repeat (first|exact HR1.out|(with_reducible refine Kd.C_alloc ?_ _)|(with_reducible refine Kd.C_drewN ?_ _)|(with_reducible refine Kd.C_drew ?_)));(case side2=>exact HC1.out);rintro e w' ⟨rfl,⟨nd,rfl⟩⟩;refine ⟨_,rfl,?_⟩;have HR367:=Aside0.mk (nat_trim.C HR1.out A4.out);have HC367:=Aside0.mk (Nat.le_refl t366.length))|((with_reducible refine gate_dst (N:=25) rfl ?_);refine Kd.R_make0 (Kd.int .u32) _ 82 rfl (N:=25) rfl 61 _ _ rfl ji25 rfl rfl Try.underlying61 (.int .u32 0) 4 info82 rfl (by decide) (by omega) (ok:=fun _=>True) trivial (of_decide_eq_true (by first|(with_reducible assumption)|assumption)) (Nat.le_trans (Nat.mul_le_mul_right _ (of_decide_eq_true (by first|(with_reducible assumption)|assumption) : ji25.toNat≤70368744177664)) (by omega)) (Below.refl _ _) (Nat.le_refl _) ?_;intro v390 w28 ho29 hb hg_ hnew_;clear hg_ hnew_;(first|rw [← Ny389.out] at ho29|(simp only [Int.reduceToNat] at ho29;rw [← Ny389.out] at ho29));have n0_:=Aside0.mk (Kd.R_lower ho29 (below_size (by repeat (first|(with_reducible first|exact HB.out|apply below_alloc|apply pw_below_drewN|apply below_drew1)|exact HB.out))));have n1_:=Aside0.mk (below_step (by repeat (first|(with_reducible first|exact HB.out|apply below_alloc|apply pw_below_drewN|apply below_drew1)|exact HB.out)) hb);clear HB;have HO391:=n0_;have HB:=n1_;clear n0_ n1_;clear hb ho29))
    go_loopg [5,6,28] k (fun kq v5 v6 v28 w'=>∃ (x5_1 : List Int) (x6_1 : Int) (x28_1 : Int),v6=.int .u32 x6_1∧v28=.int .i64 x28_1∧Aside0 (nat_Add.l100 kq t366 x5_1 x6_1 t364 (t364.length : Int) x28_1=some r)∧Aside0 (kq≤k)∧Aside0 (Kd.R (Kd.int .u32) 82 w' w.heap.size (fun _=>True) v5 x5_1)∧Aside0 (Below w.heap.size w w'))
    case atStart=>exact ⟨(y389),(0),(0),(by first|rfl|(simp;done)|(simp [*];done)),(by first|rfl|(simp;done)|(simp [*];done)),H',⟨Nat.le_refl _⟩,⟨by (with_reducible repeat (first|apply Kd.R_alloc|apply Kd.R_drewN|apply Kd.R_drew));exact HO391.out⟩,⟨by repeat (first|(with_reducible first|exact HB.out|apply below_alloc|apply pw_below_drewN|apply below_drew1)|exact HB.out)⟩⟩
    case round =>
     clear H'
     try clear c1
     try clear c2
     try clear p2
     try clear p3
     try clear q3
     try clear hx3
     try clear c5
     try clear c5b0
     try clear c5b1
     try clear p6
     try clear c7
     try clear c7b0
     try clear c7b1
     try clear c8
     try clear c8b0
     try clear c8b1
     try clear c11
     try clear c11b0
     try clear c12
     try clear c12b0
     try clear c13
     try clear c13b0
     try clear c14
     try clear c14b0
     try clear c16
     try clear c19
     try clear c21
     try clear c26
     try clear c26b0
     try clear c26b1
     try clear c27
     try clear c27b0
     try clear c27b1
     try clear hx371_0
     try clear hx372_0
     try clear p2
     try clear p371
     try clear p372
     try clear p6
     try clear q371
     try clear q372
     obtain ⟨x5_1,x6_1,x28_1,rfl,rfl,HA,HK1,HO_5,HB⟩:=hrel
     cases gk with
    |zero=>exact absurd HA.out (by simp [nat_Add.l100])
    |succ k1 =>
      have H:=HA.out
      clear HA
      simp only [nat_Add.l100] at H
      by_cases c30 : x28_1 < (t364.length : Int)
      ·rw [if_pos c30] at H
       have c30b0 : decide (x28_1 < (t364.length : Int))=true:=decide_eq_true c30
       clear c30
       by_cases c31 : 0≤x28_1
       ·rw [if_pos c31] at H
        have c31b0 : decide (0≤x28_1)=true:=decide_eq_true c31
        clear c31
        by_cases c32 : x28_1 < (t364.length : Int)
        ·rw [if_pos c32] at H
         have c32b0 : decide (x28_1 < (t364.length : Int))=true:=decide_eq_true c32
         clear c32
         by_cases c33 : x28_1 < (t366.length : Int)
         ·rw [if_pos c33] at H
          have c33b0 : decide (x28_1 < (t366.length : Int))=true:=decide_eq_true c33
          clear c33
          replace H:=Option.bind_eq_some_iff.mp H
          obtain ⟨⟨t394,t395⟩,A340,H⟩:=H
          replace H : (if x5_1.length < 35184372088832 then (nat_Add.l100 k1 t366 (x5_1++[t394]) t395 t364 (t364.length : Int) (wrap64 (x28_1+1))) else (none))=some r:=H
          have A34:=Aside0.mk A340
          clear A340
          by_cases c35 : x5_1.length < 35184372088832
          ·rw [if_pos c35] at H
           have LMc35:=Aside0.mk c35
           clear c35
           obtain ⟨y396,hy396⟩ : ∃ y_ : List Int,y_=(x5_1++[t394]):=⟨_,rfl⟩
           replace H : (nat_Add.l100 k1 t366 y396 t395 t364 (t364.length : Int) (wrap64 (x28_1+1)))=some r:=by first|(rw [hy396];with_reducible exact H)|(have H2_:=(Option.bind_some _ _).symm.trans H;rw [hy396];with_reducible exact H2_)|(have H2_:=(Option.bind_some _ _).symm.trans H;with_reducible exact H2_)|with_reducible exact H|(rw [hy396];exact H)|exact H
           have Ny396:=Aside0.mk hy396
           clear hy396
           have H':=Aside0.mk H
           clear H
           have p392 : 0≤(x28_1 : Int):=of_decide_eq_true (by first|(with_reducible assumption)|assumption)
           have q392 : x28_1 < (t364.length : Int):=of_decide_eq_true (by first|(with_reducible assumption)|assumption)
           obtain ⟨ad392,e392,hx392_0⟩:=Kd.at_int HR365.out x28_1 p392 q392
           cases e392
           replace hx392_0:=(HB.out.cell (World.block_lt_of_cell? w _ hx392_0)).trans hx392_0
           replace p392:=eq_true p392
           replace q392:=eq_true q392
           have p393 : 0≤(x28_1 : Int):=of_decide_eq_true (by first|(with_reducible assumption)|assumption)
           have q393 : x28_1 < (t366.length : Int):=of_decide_eq_true (by first|(with_reducible assumption)|assumption)
           obtain ⟨ad393,e393,hx393_0⟩:=Kd.at_int HR367.out x28_1 p393 q393
           cases e393
           replace hx393_0:=(HB.out.cell (World.block_lt_of_cell? w _ hx393_0)).trans hx393_0
           replace p393:=eq_true p393
           replace q393:=eq_true q393
           go_wp2_with (first|((with_reducible refine gate_callee (f:=71) rfl ?_);refine goesL_ (some 45) rfl rfl Try.func71 (by kernel_rfl) rfl #[.int .u32 (rd t364 x28_1),.int .u32 (rd t366 x28_1),.int .u32 x6_1] rfl (by (try simp only [List.map_toArray,List.map_cons,List.map_nil]);first|done|rfl|(simp only [List.length_drop,List.length_take];rfl)) ?_;(with_reducible refine (bits_Add32.calls (rd t364 x28_1) (rd t366 x28_1) x6_1 t394 t395 _ A34.out).mono ?_);rintro e w' ⟨rfl,⟨nd,rfl⟩⟩;refine ⟨_,rfl,?_⟩)|((with_reducible refine gate_builtin (b:=.append) (xs:=#[.tmp 48,.tmp 50]) rfl ?_);at_builtin;refine Kd.R_append (Kd.int .u32) (w0:=w) w.heap.size rfl (.tmp 48) (.tmp 50) 61 82 (.int .u32 0) 4 rfl Try.underlying61 info82 rfl (by decide) (by omega) u5 x5_1 t394 [.int .u32 t394] (fun _=>True) (fun _=>False) rfl rfl ?aP (fun _ hk=>hk.elim) ?aF ?aO ?aB ?aS ?aL ?_;(case aP=>exact rfl);(case aB=>exact (by repeat (first|(with_reducible first|exact HB.out|apply below_alloc|apply pw_below_drewN|apply below_drew1)|exact HB.out)));(case aF=>exact (fun _ _=>trivial));(case aO=>exact (by (with_reducible repeat (first|apply Kd.R_alloc|apply Kd.R_drewN|apply Kd.R_drew));exact HO_5.out));(case aS=>exact (below_size (by repeat (first|(with_reducible first|exact HB.out|apply below_alloc|apply pw_below_drewN|apply below_drew1)|exact HB.out))));(case aL=>have:=LMc35.out;omega);intro v397 w36 ho hb hg hat;rw [← Ny396.out] at ho;have n0_:=Aside0.mk (hb);have n1_:=Aside0.mk (ho);clear HB;clear HO_5;have HB:=n0_;have HO398:=n1_;clear n0_ n1_;clear ho hb hg hat))
           go_roundg k1
           case measure=>have:=HK1.out;omega
           case rel=>exact ⟨(y396),(t395),(wrap64 (x28_1+1)),(by first|rfl|(simp;done)|(simp [*];done)),(by first|rfl|(simp;done)|(simp [*];done)),H',⟨by have:=HK1.out;omega⟩,⟨by (with_reducible repeat (first|apply Kd.R_alloc|apply Kd.R_drewN|apply Kd.R_drew));exact HO398.out⟩,⟨by repeat (first|(with_reducible first|exact HB.out|apply below_alloc|apply pw_below_drewN|apply below_drew1)|exact HB.out)⟩⟩
          ·rw [if_neg c35] at H
           exact absurd H (by simp)
         ·rw [if_neg c33] at H
          have c33b0 : decide (x28_1 < (t366.length : Int))=false:=decide_eq_false c33
          clear c33
          replace H:=Option.bind_eq_some_iff.mp H
          obtain ⟨⟨t399,t400⟩,A370,H⟩:=H
          replace H : (if x5_1.length < 35184372088832 then (nat_Add.l100 k1 t366 (x5_1++[t399]) t400 t364 (t364.length : Int) (wrap64 (x28_1+1))) else (none))=some r:=H
          have A37:=Aside0.mk A370
          clear A370
          by_cases c38 : x5_1.length < 35184372088832
          ·rw [if_pos c38] at H
           have LMc38:=Aside0.mk c38
           clear c38
           obtain ⟨y401,hy401⟩ : ∃ y_ : List Int,y_=(x5_1++[t399]):=⟨_,rfl⟩
           replace H : (nat_Add.l100 k1 t366 y401 t400 t364 (t364.length : Int) (wrap64 (x28_1+1)))=some r:=by first|(rw [hy401];with_reducible exact H)|(have H2_:=(Option.bind_some _ _).symm.trans H;rw [hy401];with_reducible exact H2_)|(have H2_:=(Option.bind_some _ _).symm.trans H;with_reducible exact H2_)|with_reducible exact H|(rw [hy401];exact H)|exact H
           have Ny401:=Aside0.mk hy401
           clear hy401
           have H':=Aside0.mk H
           clear H
           have p392 : 0≤(x28_1 : Int):=of_decide_eq_true (by first|(with_reducible assumption)|assumption)
           have q392 : x28_1 < (t364.length : Int):=of_decide_eq_true (by first|(with_reducible assumption)|assumption)
           obtain ⟨ad392,e392,hx392_0⟩:=Kd.at_int HR365.out x28_1 p392 q392
           cases e392
           replace hx392_0:=(HB.out.cell (World.block_lt_of_cell? w _ hx392_0)).trans hx392_0
           replace p392:=eq_true p392
           replace q392:=eq_true q392
           go_wp2_with (first|((with_reducible refine gate_callee (f:=71) rfl ?_);refine goesL_ (some 45) rfl rfl Try.func71 (by kernel_rfl) rfl #[.int .u32 (rd t364 x28_1),.int .u32 0,.int .u32 x6_1] rfl (by (try simp only [List.map_toArray,List.map_cons,List.map_nil]);first|done|rfl|(simp only [List.length_drop,List.length_take];rfl)) ?_;(with_reducible refine (bits_Add32.calls (rd t364 x28_1) 0 x6_1 t399 t400 _ A37.out).mono ?_);rintro e w' ⟨rfl,⟨nd,rfl⟩⟩;refine ⟨_,rfl,?_⟩)|((with_reducible refine gate_builtin (b:=.append) (xs:=#[.tmp 48,.tmp 50]) rfl ?_);at_builtin;refine Kd.R_append (Kd.int .u32) (w0:=w) w.heap.size rfl (.tmp 48) (.tmp 50) 61 82 (.int .u32 0) 4 rfl Try.underlying61 info82 rfl (by decide) (by omega) u5 x5_1 t399 [.int .u32 t399] (fun _=>True) (fun _=>False) rfl rfl ?aP (fun _ hk=>hk.elim) ?aF ?aO ?aB ?aS ?aL ?_;(case aP=>exact rfl);(case aB=>exact (by repeat (first|(with_reducible first|exact HB.out|apply below_alloc|apply pw_below_drewN|apply below_drew1)|exact HB.out)));(case aF=>exact (fun _ _=>trivial));(case aO=>exact (by (with_reducible repeat (first|apply Kd.R_alloc|apply Kd.R_drewN|apply Kd.R_drew));exact HO_5.out));(case aS=>exact (below_size (by repeat (first|(with_reducible first|exact HB.out|apply below_alloc|apply pw_below_drewN|apply below_drew1)|exact HB.out))));(case aL=>have:=LMc38.out;omega);intro v402 w39 ho hb hg hat;rw [← Ny401.out] at ho;have n0_:=Aside0.mk (hb);have n1_:=Aside0.mk (ho);clear HB;clear HO_5;have HB:=n0_;have HO403:=n1_;clear n0_ n1_;clear ho hb hg hat))
           go_roundg k1
           case measure=>have:=HK1.out;omega
           case rel=>exact ⟨(y401),(t400),(wrap64 (x28_1+1)),(by first|rfl|(simp;done)|(simp [*];done)),(by first|rfl|(simp;done)|(simp [*];done)),H',⟨by have:=HK1.out;omega⟩,⟨by (with_reducible repeat (first|apply Kd.R_alloc|apply Kd.R_drewN|apply Kd.R_drew));exact HO403.out⟩,⟨by repeat (first|(with_reducible first|exact HB.out|apply below_alloc|apply pw_below_drewN|apply below_drew1)|exact HB.out)⟩⟩
          ·rw [if_neg c38] at H
           exact absurd H (by simp)
        ·rw [if_neg c32] at H
         exact absurd H (by simp)
       ·rw [if_neg c31] at H
        exact absurd H (by simp)
      ·rw [if_neg c30] at H
       have c30b0 : decide (x28_1 < (t364.length : Int))=false:=decide_eq_false c30
       clear c30
       by_cases c40 : x5_1.length < 35184372088832
       ·rw [if_pos c40] at H
        have LMc40:=Aside0.mk c40
        clear c40
        obtain ⟨y404,hy404⟩ : ∃ y_ : List Int,y_=(x5_1++[x6_1]):=⟨_,rfl⟩
        replace H : ((nat_trim.f y404).bind fun t407=>(some t407))=some r:=by first|(rw [hy404];with_reducible exact H)|(have H2_:=(Option.bind_some _ _).symm.trans H;rw [hy404];with_reducible exact H2_)|(have H2_:=(Option.bind_some _ _).symm.trans H;with_reducible exact H2_)|with_reducible exact H|(rw [hy404];exact H)|exact H
        have Ny404:=Aside0.mk hy404
        clear hy404
        replace H:=Option.bind_eq_some_iff.mp H
        obtain ⟨t407,A410,H⟩:=H
        replace H : (some t407)=some r:=H
        have A41:=Aside0.mk A410
        clear A410
        obtain rfl:=Option.some.inj H
        go_wp2_with (first|((with_reducible refine gate_builtin (b:=.append) (xs:=#[.tmp 53,.tmp 55]) rfl ?_);at_builtin;refine Kd.R_append (Kd.int .u32) (w0:=w) w.heap.size rfl (.tmp 53) (.tmp 55) 61 82 (.int .u32 0) 4 rfl Try.underlying61 info82 rfl (by decide) (by omega) u5 x5_1 x6_1 [.int .u32 x6_1] (fun _=>True) (fun _=>False) rfl rfl ?aP (fun _ hk=>hk.elim) ?aF ?aO ?aB ?aS ?aL ?_;(case aP=>exact rfl);(case aB=>exact (by repeat (first|(with_reducible first|exact HB.out|apply below_alloc|apply pw_below_drewN|apply below_drew1)|exact HB.out)));(case aF=>exact (fun _ _=>trivial));(case aO=>exact (by (with_reducible repeat (first|apply Kd.R_alloc|apply Kd.R_drewN|apply Kd.R_drew));exact HO_5.out));(case aS=>exact (below_size (by repeat (first|(with_reducible first|exact HB.out|apply below_alloc|apply pw_below_drewN|apply below_drew1)|exact HB.out))));(case aL=>have:=LMc40.out;omega);intro v405 w42 ho hb hg hat;rw [← Ny404.out] at ho;have n0_:=Aside0.mk (hb);have n1_:=Aside0.mk (ho);clear HB;clear HO_5;have HB:=n0_;have HO406:=n1_;clear n0_ n1_;clear ho hb hg hat;obtain ⟨Ao43,co43,eo43⟩:=Kd.R_slice HO406.out;subst eo43)|((with_reducible refine gate_callee (f:=70) rfl ?_);refine goesL_ (some 57) rfl rfl Try.func70 (by kernel_rfl) rfl #[.slice Ao43 y404.length co43] rfl (by (try simp only [List.map_toArray,List.map_cons,List.map_nil]);first|done|rfl|(simp only [List.length_drop,List.length_take];rfl)) ?_;(with_reducible refine (nat_trim.calls _ _ y404 t407 _ ?side1 ?side2 A41.out).mono ?_);(case side1=>repeat (first|exact (Kd.R_reads' HO406.out).2.2|(with_reducible refine Kd.C_alloc ?_ _)|(with_reducible refine Kd.C_drewN ?_ _)|(with_reducible refine Kd.C_drew ?_)));(case side2=>exact (Kd.R_reads' HO406.out).2.1);rintro e w' ⟨rfl,⟨nd,rfl⟩⟩;refine ⟨_,rfl,?_⟩;have HO409:=Aside0.mk (nat_trim.R HO406.out A41.out);clear HO406))
        go_ret
        exact ⟨_,by first|rfl|(simp [errW_none,errW_some] <;> rfl)|(simp only [← hji25];first|rfl|(simp [errW_none,errW_some] <;> rfl))|(simp [*,errW_none,errW_some] <;> rfl),by (with_reducible repeat (first|apply Kd.R_alloc|apply Kd.R_drewN|apply Kd.R_drew));exact HO409.out,by repeat (first|(with_reducible first|exact HB.out|apply below_alloc|apply pw_below_drewN|apply below_drew1)|exact HB.out)⟩
       ·rw [if_neg c40] at H
        exact absurd H (by simp)
   ·rw [if_neg c27] at H
    exact absurd H (by simp)
  ·rw [if_neg c26] at H
   exact absurd H (by simp)
theorem nat_Mul.calls (k : Nat) (A0 : Option Addr) (c0 : Nat) (l0 : List Int) (A1 : Option Addr) (c1 : Nat) (l1 : List Int) (r : List Int) (w : World) (hr0 : Kd.C (Kd.int .u32) w A0 l0.length l0) (hc0 : l0.length≤c0) (hr1 : Kd.C (Kd.int .u32) w A1 l1.length l1) (hc1 : l1.length≤c1) (h : nat_Mul.f k l0 l1=some r) :
  Calls Try.prog 57 #[.slice A0 l0.length c0,.slice A1 l1.length c1] w fun e w'=>∃ v0_ : Value,e=.returned (v0_)∧Kd.R (Kd.int .u32) 82 w' w.heap.size (fun _=>True) v0_ r∧Below w.heap.size w w':=by
 have HR0:=Aside0.mk hr0
 have HC0:=Aside0.mk hc0
 clear hr0 hc0
 have HR1:=Aside0.mk hr1
 have HC1:=Aside0.mk hc1
 clear hr1 hc1
 have HB:=Aside0.mk (Below.refl w.heap.size w)
 have H : ((nat_trim.f l0).bind fun t349=>((nat_trim.f l1).bind fun t351=>(if 0≤(wrap64 ((t349.length : Int)+(t351.length : Int))) then (if (wrap64 ((t349.length : Int)+(t351.length : Int)) : Int).toNat≤70368744177664 then (nat_Mul.l0 k t351 (List.replicate (wrap64 ((t349.length : Int)+(t351.length : Int)) : Int).toNat 0) t349 (t349.length : Int) 0) else (none)) else (none))))=some r:=h
 clear h
 replace H:=Option.bind_eq_some_iff.mp H
 obtain ⟨t349,A30,H⟩:=H
 replace H : ((nat_trim.f l1).bind fun t351=>(if 0≤(wrap64 ((t349.length : Int)+(t351.length : Int))) then (if (wrap64 ((t349.length : Int)+(t351.length : Int)) : Int).toNat≤70368744177664 then (nat_Mul.l0 k t351 (List.replicate (wrap64 ((t349.length : Int)+(t351.length : Int)) : Int).toNat 0) t349 (t349.length : Int) 0) else (none)) else (none)))=some r:=H
 have A3:=Aside0.mk A30
 clear A30
 replace H:=Option.bind_eq_some_iff.mp H
 obtain ⟨t351,A40,H⟩:=H
 replace H : (if 0≤(wrap64 ((t349.length : Int)+(t351.length : Int))) then (if (wrap64 ((t349.length : Int)+(t351.length : Int)) : Int).toNat≤70368744177664 then (nat_Mul.l0 k t351 (List.replicate (wrap64 ((t349.length : Int)+(t351.length : Int)) : Int).toNat 0) t349 (t349.length : Int) 0) else (none)) else (none))=some r:=H
 have A4:=Aside0.mk A40
 clear A40
 obtain ⟨ji5,hji5⟩ : ∃ j_ : Int,(wrap64 ((t349.length : Int)+(t351.length : Int)))=j_:=⟨_,rfl⟩
 replace H : (if 0≤(ji5) then (if (ji5 : Int).toNat≤70368744177664 then (nat_Mul.l0 k t351 (List.replicate (ji5 : Int).toNat 0) t349 (t349.length : Int) 0) else (none)) else (none))=some r:=by first|(rw [hji5] at H;exact H)|(simp only [hji5] at H ⊢;exact H)
 (try rw [hji5] at A3)
 (try rw [hji5] at A4)
 have hji5w : (IntKind.i64.wrap ((t349.length : Int)+(t351.length : Int)))=ji5:=(i64_w _).trans hji5
 by_cases c6 : 0≤(ji5)
 ·rw [if_pos c6] at H
  have c6b0:=eq_true c6
  have c6b1 : decide (0≤(ji5))=true:=decide_eq_true c6
  clear c6
  by_cases c7 : (ji5 : Int).toNat≤70368744177664
  ·rw [if_pos c7] at H
   have c7b0:=eq_true c7
   have c7b1 : decide ((ji5 : Int).toNat≤70368744177664)=true:=decide_eq_true c7
   clear c7
   obtain ⟨y353,hy353⟩ : ∃ y_ : List Int,y_=(List.replicate (ji5 : Int).toNat 0):=⟨_,rfl⟩
   replace H : (nat_Mul.l0 k t351 y353 t349 (t349.length : Int) 0)=some r:=by first|(rw [hy353];with_reducible exact H)|(have H2_:=(Option.bind_some _ _).symm.trans H;rw [hy353];with_reducible exact H2_)|(have H2_:=(Option.bind_some _ _).symm.trans H;with_reducible exact H2_)|with_reducible exact H|(rw [hy353];exact H)|exact H
   have Ny353:=Aside0.mk hy353
   clear hy353
   have H':=Aside0.mk H
   clear H
   go_enter Try.func57,Try.ntmps57
   go_wp2_with (first|((with_reducible refine gate_callee (f:=70) rfl ?_);refine goesL_ (some 13) rfl rfl Try.func70 (by kernel_rfl) rfl #[.slice A0 l0.length c0] rfl (by (try simp only [List.map_toArray,List.map_cons,List.map_nil]);first|done|rfl|(simp only [List.length_drop,List.length_take];rfl)) ?_;(with_reducible refine (nat_trim.calls _ _ l0 t349 _ ?side1 ?side2 A3.out).mono ?_);(case side1=>repeat (first|exact HR0.out|(with_reducible refine Kd.C_alloc ?_ _)|(with_reducible refine Kd.C_drewN ?_ _)|(with_reducible refine Kd.C_drew ?_)));(case side2=>exact HC0.out);rintro e w' ⟨rfl,⟨nd,rfl⟩⟩;refine ⟨_,rfl,?_⟩;have HR350:=Aside0.mk (nat_trim.C HR0.out A3.out);have HC350:=Aside0.mk (Nat.le_refl t349.length))|((with_reducible refine gate_callee (f:=70) rfl ?_);refine goesL_ (some 15) rfl rfl Try.func70 (by kernel_rfl) rfl #[.slice A1 l1.length c1] rfl (by (try simp only [List.map_toArray,List.map_cons,List.map_nil]);first|done|rfl|(simp only [List.length_drop,List.length_take];rfl)) ?_;(with_reducible refine (nat_trim.calls _ _ l1 t351 _ ?side1 ?side2 A4.out).mono ?_);(case side1=>repeat (first|exact HR1.out|(with_reducible refine Kd.C_alloc ?_ _)|(with_reducible refine Kd.C_drewN ?_ _)|(with_reducible refine Kd.C_drew ?_)));(case side2=>exact HC1.out);rintro e w' ⟨rfl,⟨nd,rfl⟩⟩;refine ⟨_,rfl,?_⟩;have HR352:=Aside0.mk (nat_trim.C HR1.out A4.out);have HC352:=Aside0.mk (Nat.le_refl t351.length))|((with_reducible refine gate_dst (N:=21) rfl ?_);refine Kd.R_make (Kd.int .u32) _ 82 rfl (N:=21) rfl 61 _ _ rfl ji5 rfl rfl Try.underlying61 (.int .u32 0) 4 info82 rfl (by decide) (by omega) 0 (ok:=fun _=>True) (okp:=fun _=>True) rfl (fun _ hk=>hk) trivial (of_decide_eq_true (by first|(with_reducible assumption)|assumption)) (Nat.le_trans (Nat.mul_le_mul_right _ (of_decide_eq_true (by first|(with_reducible assumption)|assumption) : ji5.toNat≤70368744177664)) (by omega)) (Below.refl _ _) (Nat.le_refl _) ?_;intro v354 w8 ho9 hb hg_ hnew_;clear hg_ hnew_;(first|rw [← Ny353.out] at ho9|(simp only [Int.reduceToNat] at ho9;rw [← Ny353.out] at ho9));have n0_:=Aside0.mk (Kd.R_lower ho9 (below_size (by repeat (first|(with_reducible first|exact HB.out|apply below_alloc|apply pw_below_drewN|apply below_drew1)|exact HB.out))));have n1_:=Aside0.mk (below_step (by repeat (first|(with_reducible first|exact HB.out|apply below_alloc|apply pw_below_drewN|apply below_drew1)|exact HB.out)) hb);clear HB;have HO355:=n0_;have HB:=n1_;clear n0_ n1_;clear hb ho9))
   go_loopg [24] k (fun kq v24 w'=>∃ (x5_1 : List Int) (x24_1 : Int),v24=.int .i64 x24_1∧Aside0 (nat_Mul.l0 kq t351 x5_1 t349 (t349.length : Int) x24_1=some r)∧Aside0 (kq≤k)∧Aside0 (Kd.R (Kd.int .u32) 82 w' w.heap.size (fun _=>True) v354 x5_1)∧Aside0 (Below w.heap.size w w'))
   case atStart=>exact ⟨(y353),(0),(by first|rfl|(simp;done)|(simp [*];done)),H',⟨Nat.le_refl _⟩,⟨by (with_reducible repeat (first|apply Kd.R_alloc|apply Kd.R_drewN|apply Kd.R_drew));exact HO355.out⟩,⟨by repeat (first|(with_reducible first|exact HB.out|apply below_alloc|apply pw_below_drewN|apply below_drew1)|exact HB.out)⟩⟩
   case round =>
    clear H'
    try clear c1
    try clear p2
    try clear c5
    try clear c6
    try clear c6b0
    try clear c6b1
    try clear p6
    try clear c7
    try clear c7b0
    try clear c7b1
    obtain ⟨x5_1,x24_1,rfl,HA,HK1,HO_5,HB⟩:=hrel
    cases gk with
   |zero=>exact absurd HA.out (by simp [nat_Mul.l0])
   |succ k1 =>
     have H:=HA.out
     clear HA
     simp only [nat_Mul.l0] at H
     by_cases c10 : x24_1 < (t349.length : Int)
     ·rw [if_pos c10] at H
      have c10b0 : decide (x24_1 < (t349.length : Int))=true:=decide_eq_true c10
      clear c10
      by_cases c11 : 0≤x24_1
      ·rw [if_pos c11] at H
       have c11b0 : decide (0≤x24_1)=true:=decide_eq_true c11
       clear c11
       by_cases c12 : x24_1 < (t349.length : Int)
       ·rw [if_pos c12] at H
        have c12b0 : decide (x24_1 < (t349.length : Int))=true:=decide_eq_true c12
        clear c12
        have H':=Aside0.mk H
        clear H
        have p359 : 0≤(x24_1 : Int):=of_decide_eq_true (by first|(with_reducible assumption)|assumption)
        have q359 : x24_1 < (t349.length : Int):=of_decide_eq_true (by first|(with_reducible assumption)|assumption)
        obtain ⟨ad359,e359,hx359_0⟩:=Kd.at_int HR350.out x24_1 p359 q359
        cases e359
        replace hx359_0:=(HB.out.cell (World.block_lt_of_cell? w _ hx359_0)).trans hx359_0
        replace p359:=eq_true p359
        replace q359:=eq_true q359
        go_wp2
        go_loopg [8,31] k1 (fun kq v8 v31 w'=>∃ (x5_2 : List Int) (x8_2 : Int) (x31_2 : Int),v8=.int .u64 x8_2∧v31=.int .i64 x31_2∧Aside0 (nat_Mul.l1 kq t351 x5_2 x24_1 (rd t349 x24_1) x8_2 t349 (t349.length : Int) x24_1 t351 (t351.length : Int) x31_2=some r)∧Aside0 (kq≤k1)∧Aside0 (Kd.R (Kd.int .u32) 82 w' w.heap.size (fun _=>True) v354 x5_2)∧Aside0 (Below w.heap.size w w'))
        case atStart=>exact ⟨(x5_1),(0),(0),(by first|rfl|(simp;done)|(simp [*];done)),(by first|rfl|(simp;done)|(simp [*];done)),H',⟨Nat.le_refl _⟩,⟨by (with_reducible repeat (first|apply Kd.R_alloc|apply Kd.R_drewN|apply Kd.R_drew));exact HO_5.out⟩,⟨by repeat (first|(with_reducible first|exact HB.out|apply below_alloc|apply pw_below_drewN|apply below_drew1)|exact HB.out)⟩⟩
        case round =>
         clear H'
         try clear c1
         try clear p2
         try clear p3
         try clear q3
         try clear hx3
         try clear c5
         try clear c6
         try clear c6b0
         try clear c6b1
         try clear p6
         try clear c7
         try clear c7b0
         try clear c7b1
         try clear c10
         try clear c10b0
         try clear c11
         try clear c11b0
         try clear c12
         try clear c12b0
         try clear hx359_0
         try clear p2
         try clear p359
         try clear p6
         try clear q359
         obtain ⟨x5_2,x8_2,x31_2,rfl,rfl,HA,HK2,HO_5,HB⟩:=hrel
         cases gk with
        |zero=>exact absurd HA.out (by simp [nat_Mul.l1])
        |succ k2 =>
          have H:=HA.out
          clear HA
          simp only [nat_Mul.l1] at H
          by_cases c13 : x31_2 < (t351.length : Int)
          ·rw [if_pos c13] at H
           have c13b0 : decide (x31_2 < (t351.length : Int))=true:=decide_eq_true c13
           clear c13
           by_cases c14 : 0≤x31_2
           ·rw [if_pos c14] at H
            have c14b0 : decide (0≤x31_2)=true:=decide_eq_true c14
            clear c14
            by_cases c15 : x31_2 < (t351.length : Int)
            ·rw [if_pos c15] at H
             have c15b0 : decide (x31_2 < (t351.length : Int))=true:=decide_eq_true c15
             clear c15
             obtain ⟨ji16,hji16⟩ : ∃ j_ : Int,(wrap64 (x24_1+x31_2))=j_:=⟨_,rfl⟩
             replace H : (if 0≤(ji16) then (if (ji16) < (x5_2.length : Int) then (nat_Mul.l1 k2 t351 (x5_2.set ((ji16) : Int).toNat ((IntKind.u64.wrap ((IntKind.u64.wrap ((IntKind.u64.wrap ((IntKind.u64.wrap ((rd t349 x24_1))) * (IntKind.u64.wrap (rd t351 x31_2))))+(IntKind.u64.wrap (rd x5_2 (ji16)))))+x8_2)) % 4294967296)) x24_1 (rd t349 x24_1) ((IntKind.u64.wrap ((IntKind.u64.wrap ((IntKind.u64.wrap ((IntKind.u64.wrap ((rd t349 x24_1))) * (IntKind.u64.wrap (rd t351 x31_2))))+(IntKind.u64.wrap (rd x5_2 (ji16)))))+x8_2)) / 4294967296) t349 (t349.length : Int) x24_1 t351 (t351.length : Int) (wrap64 (x31_2+1))) else (none)) else (none))=some r:=by first|(rw [hji16] at H;exact H)|(simp only [hji16] at H ⊢;exact H)
             have hji16w : (IntKind.i64.wrap (x24_1+x31_2))=ji16:=(i64_w _).trans hji16
             by_cases c17 : 0≤(ji16)
             ·rw [if_pos c17] at H
              have c17b0 : decide (0≤(ji16))=true:=decide_eq_true c17
              clear c17
              by_cases c18 : (ji16) < (x5_2.length : Int)
              ·rw [if_pos c18] at H
               have c18b0 : decide ((ji16) < (x5_2.length : Int))=true:=decide_eq_true c18
               clear c18
               obtain ⟨y362,hy362⟩ : ∃ y_ : List Int,y_=(x5_2.set ((ji16) : Int).toNat ((IntKind.u64.wrap ((IntKind.u64.wrap ((IntKind.u64.wrap ((IntKind.u64.wrap ((rd t349 x24_1))) * (IntKind.u64.wrap (rd t351 x31_2))))+(IntKind.u64.wrap (rd x5_2 (ji16)))))+x8_2)) % 4294967296)):=⟨_,rfl⟩
               replace H : (nat_Mul.l1 k2 t351 y362 x24_1 (rd t349 x24_1) ((IntKind.u64.wrap ((IntKind.u64.wrap ((IntKind.u64.wrap ((IntKind.u64.wrap ((rd t349 x24_1))) * (IntKind.u64.wrap (rd t351 x31_2))))+(IntKind.u64.wrap (rd x5_2 (ji16)))))+x8_2)) / 4294967296) t349 (t349.length : Int) x24_1 t351 (t351.length : Int) (wrap64 (x31_2+1)))=some r:=by first|(rw [hy362];with_reducible exact H)|(have H2_:=(Option.bind_some _ _).symm.trans H;rw [hy362];with_reducible exact H2_)|(have H2_:=(Option.bind_some _ _).symm.trans H;with_reducible exact H2_)|with_reducible exact H|(rw [hy362];exact H)|exact H
               have Ny362:=Aside0.mk hy362
               clear hy362
               have H':=Aside0.mk H
               clear H
               have p360 : 0≤(x31_2 : Int):=of_decide_eq_true (by first|(with_reducible assumption)|assumption)
               have q360 : x31_2 < (t351.length : Int):=of_decide_eq_true (by first|(with_reducible assumption)|assumption)
               obtain ⟨ad360,e360,hx360_0⟩:=Kd.at_int HR352.out x31_2 p360 q360
               cases e360
               replace hx360_0:=(HB.out.cell (World.block_lt_of_cell? w _ hx360_0)).trans hx360_0
               replace p360:=eq_true p360
               replace q360:=eq_true q360
               obtain ⟨Ao20,co20,eo20⟩:=Kd.R_slice HO_5.out
               subst eo20
               have p361 : 0≤((ji16) : Int):=of_decide_eq_true (by first|(with_reducible assumption)|assumption)
               have q361 : (ji16) < (x5_2.length : Int):=of_decide_eq_true (by first|(with_reducible assumption)|assumption)
               obtain ⟨ad361,e361,hx361_0⟩:=Kd.at_int (Kd.R_reads' HO_5.out).2.2 (ji16) p361 q361
               cases e361
               replace p361:=eq_true p361
               replace q361:=eq_true q361
               have p19 : 0≤((ji16) : Int):=of_decide_eq_true (by first|(with_reducible assumption)|assumption)
               have q19 : ((ji16) : Int) < ((x5_2.length : Int) : Int):=of_decide_eq_true (by first|(with_reducible assumption)|assumption)
               obtain ⟨go19,co19,eo19,gb19,gl19,cl19,HG19⟩:=Kd.R_form HO_5.out (by omega)
               (first|cases eo19|(injection eo19 with ea_ en_ ec_;(first|subst ea_|(injection ea_ with ea_;subst ea_));subst ec_;clear en_))
               have GB19:=Aside0.mk gb19
               have GG19:=Aside0.mk HG19
               clear gb19 gl19 HG19
               (first|simp only [add_plain] at hx361_0|skip)
               obtain ⟨hx19_0,hf19_0⟩:=Kd.R_celln 0 HO_5.out ((ji16) : Int) p19 q19
               replace p19:=eq_true p19
               replace q19:=eq_true q19
               have HP21:=Kd.R_putg HO_5.out ((ji16) : Int) ((IntKind.u64.wrap ((IntKind.u64.wrap ((IntKind.u64.wrap ((IntKind.u64.wrap ((rd t349 x24_1))) * (IntKind.u64.wrap (rd t351 x31_2))))+(IntKind.u64.wrap (rd x5_2 (ji16)))))+x8_2)) % 4294967296)
               go_wp2_with (first|((with_reducible refine gate_store (t:=82) (p:=57) rfl ?_);refine store_event (t:=82) (p:=57) (v:=?vo_w22) (w1:=(wr.setCell ⟨go19,((ji16) : Int).toNat,none⟩ (.int .u32 ((IntKind.u64.wrap ((IntKind.u64.wrap ((IntKind.u64.wrap ((IntKind.u64.wrap ((rd t349 x24_1))) * (IntKind.u64.wrap (rd t351 x31_2))))+(IntKind.u64.wrap (rd x5_2 (ji16)))))+x8_2)) % 4294967296)))) ?hg ?ho ?hn ?hr ?_;(case ho=>rfl);(case hg=>rfl);(case hn=>rfl);(case hr=>first|(go_simp;done)|(go_simp;(with_reducible rfl))|(go_simp;rfl)|(go_simp;have hu_ : ∀ x : Int,IntKind.u32.wrap x=HMod.hMod x (4294967296 : Int):=(fun x=>by simp only [IntKind.wrap,IntKind.bits,IntKind.signed];simp);simp only [hu_,Int.emod_sub_emod]));intro w22 hw;have hg : wr.grownBy w22 (some go19):=(by rw [hw];exact HP21.2);have hp_ : Kd.R (Kd.int .u32) 82 w22 w.heap.size (fun _=>True) (.slice (some ⟨go19,0,none⟩) x5_2.length co20) y362:=(by rw [hw,Ny362.out];exact HP21.1);clear HP21;have n0_:=Aside0.mk (hp_);have n1_:=Aside0.mk ((by rw [hw];exact below_set (HB.out) GB19.out : Below w.heap.size w w22));clear HO_5;clear HB;have HO_5:=n0_;have HB:=n1_;clear n0_ n1_;clear hg hw hp_))
               go_roundg k2
               case measure=>have:=HK1.out;have:=HK2.out;omega
               case rel=>exact ⟨(y362),((IntKind.u64.wrap ((IntKind.u64.wrap ((IntKind.u64.wrap ((IntKind.u64.wrap ((rd t349 x24_1))) * (IntKind.u64.wrap (rd t351 x31_2))))+(IntKind.u64.wrap (rd x5_2 (ji16)))))+x8_2)) / 4294967296),(wrap64 (x31_2+1)),(by first|rfl|(simp;done)|(simp only [← hji16] <;> (first|rfl|simp))|(simp [*];done)),(by first|rfl|(simp;done)|(simp [*];done)),H',⟨by have:=HK1.out;have:=HK2.out;omega⟩,⟨by (with_reducible repeat (first|apply Kd.R_alloc|apply Kd.R_drewN|apply Kd.R_drew));exact HO_5.out⟩,⟨by repeat (first|(with_reducible first|exact HB.out|apply below_alloc|apply pw_below_drewN|apply below_drew1)|exact HB.out)⟩⟩
              ·rw [if_neg c18] at H
               exact absurd H (by simp)
             ·rw [if_neg c17] at H
              exact absurd H (by simp)
            ·rw [if_neg c15] at H
             exact absurd H (by simp)
           ·rw [if_neg c14] at H
            exact absurd H (by simp)
          ·rw [if_neg c13] at H
           have c13b0 : decide (x31_2 < (t351.length : Int))=false:=decide_eq_false c13
           clear c13
           obtain ⟨ji23,hji23⟩ : ∃ j_ : Int,(wrap64 (x24_1+(t351.length : Int)))=j_:=⟨_,rfl⟩
           replace H : (if 0≤(ji23) then (if (ji23) < (x5_2.length : Int) then (nat_Mul.l0 k2 t351 (x5_2.set ((ji23) : Int).toNat ((x8_2) % 4294967296)) t349 (t349.length : Int) (wrap64 (x24_1+1))) else (none)) else (none))=some r:=by first|(rw [hji23] at H;exact H)|(simp only [hji23] at H ⊢;exact H)
           have hji23w : (IntKind.i64.wrap (x24_1+(t351.length : Int)))=ji23:=(i64_w _).trans hji23
           by_cases c24 : 0≤(ji23)
           ·rw [if_pos c24] at H
            have c24b0 : decide (0≤(ji23))=true:=decide_eq_true c24
            clear c24
            by_cases c25 : (ji23) < (x5_2.length : Int)
            ·rw [if_pos c25] at H
             have c25b0 : decide ((ji23) < (x5_2.length : Int))=true:=decide_eq_true c25
             clear c25
             obtain ⟨y363,hy363⟩ : ∃ y_ : List Int,y_=(x5_2.set ((ji23) : Int).toNat ((x8_2) % 4294967296)):=⟨_,rfl⟩
             replace H : (nat_Mul.l0 k2 t351 y363 t349 (t349.length : Int) (wrap64 (x24_1+1)))=some r:=by first|(rw [hy363];with_reducible exact H)|(have H2_:=(Option.bind_some _ _).symm.trans H;rw [hy363];with_reducible exact H2_)|(have H2_:=(Option.bind_some _ _).symm.trans H;with_reducible exact H2_)|with_reducible exact H|(rw [hy363];exact H)|exact H
             have Ny363:=Aside0.mk hy363
             clear hy363
             have H':=Aside0.mk H
             clear H
             have p26 : 0≤((ji23) : Int):=of_decide_eq_true (by first|(with_reducible assumption)|assumption)
             have q26 : ((ji23) : Int) < ((x5_2.length : Int) : Int):=of_decide_eq_true (by first|(with_reducible assumption)|assumption)
             obtain ⟨go26,co26,eo26,gb26,gl26,cl26,HG26⟩:=Kd.R_form HO_5.out (by omega)
             (first|cases eo26|(injection eo26 with ea_ en_ ec_;(first|subst ea_|(injection ea_ with ea_;subst ea_));subst ec_;clear en_))
             have GB26:=Aside0.mk gb26
             have GG26:=Aside0.mk HG26
             clear gb26 gl26 HG26
             obtain ⟨hx26_0,hf26_0⟩:=Kd.R_celln 0 HO_5.out ((ji23) : Int) p26 q26
             replace p26:=eq_true p26
             replace q26:=eq_true q26
             have HP27:=Kd.R_putg HO_5.out ((ji23) : Int) ((x8_2) % 4294967296)
             go_wp2_with (first|((with_reducible refine gate_store (t:=82) (p:=68) rfl ?_);refine store_event (t:=82) (p:=68) (v:=?vo_w28) (w1:=(wr.setCell ⟨go26,((ji23) : Int).toNat,none⟩ (.int .u32 ((x8_2) % 4294967296)))) ?hg ?ho ?hn ?hr ?_;(case ho=>rfl);(case hg=>rfl);(case hn=>rfl);(case hr=>first|(go_simp;done)|(go_simp;(with_reducible rfl))|(go_simp;rfl)|(go_simp;have hu_ : ∀ x : Int,IntKind.u32.wrap x=HMod.hMod x (4294967296 : Int):=(fun x=>by simp only [IntKind.wrap,IntKind.bits,IntKind.signed];simp);simp only [hu_,Int.emod_sub_emod]));intro w28 hw;have hg : wr.grownBy w28 (some go26):=(by rw [hw];exact HP27.2);have hp_ : Kd.R (Kd.int .u32) 82 w28 w.heap.size (fun _=>True) (.slice (some ⟨go26,0,none⟩) x5_2.length co26) y363:=(by rw [hw,Ny363.out];exact HP27.1);clear HP27;have n0_:=Aside0.mk (hp_);have n1_:=Aside0.mk ((by rw [hw];exact below_set (HB.out) GB26.out : Below w.heap.size w w28));clear HO_5;clear HB;have HO_5:=n0_;have HB:=n1_;clear n0_ n1_;clear hg hw hp_))
             go_roundg k2
             case measure=>have:=HK1.out;have:=HK2.out;omega
             case rel=>exact ⟨(y363),(wrap64 (x24_1+1)),(by first|rfl|(simp;done)|(simp [*];done)),H',⟨by have:=HK1.out;have:=HK2.out;omega⟩,⟨by (with_reducible repeat (first|apply Kd.R_alloc|apply Kd.R_drewN|apply Kd.R_drew));exact HO_5.out⟩,⟨by repeat (first|(with_reducible first|exact HB.out|apply below_alloc|apply pw_below_drewN|apply below_drew1)|exact HB.out)⟩⟩
            ·rw [if_neg c25] at H
             exact absurd H (by simp)
           ·rw [if_neg c24] at H
            exact absurd H (by simp)
       ·rw [if_neg c12] at H
        exact absurd H (by simp)
      ·rw [if_neg c11] at H
       exact absurd H (by simp)
     ·rw [if_neg c10] at H
      have c10b0 : decide (x24_1 < (t349.length : Int))=false:=decide_eq_false c10
      clear c10
      replace H:=Option.bind_eq_some_iff.mp H
      obtain ⟨t356,A290,H⟩:=H
      replace H : (some t356)=some r:=H
      have A29:=Aside0.mk A290
      clear A290
      obtain rfl:=Option.some.inj H
      obtain ⟨Ao30,co30,eo30⟩:=Kd.R_slice HO_5.out
      subst eo30
      go_wp2_with (first|((with_reducible refine gate_callee (f:=70) rfl ?_);refine goesL_ (some 71) rfl rfl Try.func70 (by kernel_rfl) rfl #[.slice Ao30 x5_1.length co30] rfl (by (try simp only [List.map_toArray,List.map_cons,List.map_nil]);first|done|rfl|(simp only [List.length_drop,List.length_take];rfl)) ?_;(with_reducible refine (nat_trim.calls _ _ x5_1 t356 _ ?side1 ?side2 A29.out).mono ?_);(case side1=>repeat (first|exact (Kd.R_reads' HO_5.out).2.2|(with_reducible refine Kd.C_alloc ?_ _)|(with_reducible refine Kd.C_drewN ?_ _)|(with_reducible refine Kd.C_drew ?_)));(case side2=>exact (Kd.R_reads' HO_5.out).2.1);rintro e w' ⟨rfl,⟨nd,rfl⟩⟩;refine ⟨_,rfl,?_⟩;have HO358:=Aside0.mk (nat_trim.R HO_5.out A29.out);clear HO_5))
      go_ret
      exact ⟨_,by first|rfl|(simp [errW_none,errW_some] <;> rfl)|(simp only [← hji5];first|rfl|(simp [errW_none,errW_some] <;> rfl))|(simp [*,errW_none,errW_some] <;> rfl),by (with_reducible repeat (first|apply Kd.R_alloc|apply Kd.R_drewN|apply Kd.R_drew));exact HO358.out,by repeat (first|(with_reducible first|exact HB.out|apply below_alloc|apply pw_below_drewN|apply below_drew1)|exact HB.out)⟩
  ·rw [if_neg c7] at H
   exact absurd H (by simp)
 ·rw [if_neg c6] at H
  exact absurd H (by simp)
theorem nat_Sub.calls (k : Nat) (A0 : Option Addr) (c0 : Nat) (l0 : List Int) (A1 : Option Addr) (c1 : Nat) (l1 : List Int) (r1 : List Int) (r2 : Bool) (w : World) (hr0 : Kd.C (Kd.int .u32) w A0 l0.length l0) (hc0 : l0.length≤c0) (hr1 : Kd.C (Kd.int .u32) w A1 l1.length l1) (hc1 : l1.length≤c1) (h : nat_Sub.f k l0 l1=some (r1,r2)) :
  Calls Try.prog 59 #[.slice A0 l0.length c0,.slice A1 l1.length c1] w fun e w'=>∃ v0_ : Value,e=.returned (.tuple #[v0_,.bool r2])∧Kd.R (Kd.int .u32) 82 w' w.heap.size (fun _=>True) v0_ r1∧Below w.heap.size w w':=by
 have HR0:=Aside0.mk hr0
 have HC0:=Aside0.mk hc0
 clear hr0 hc0
 have HR1:=Aside0.mk hr1
 have HC1:=Aside0.mk hc1
 clear hr1 hc1
 have HB:=Aside0.mk (Below.refl w.heap.size w)
 have H : ((nat_Cmp.f k l0 l1).bind fun t410=>(if t410 < 0 then (some (([] : List Int),false)) else ((nat_trim.f l0).bind fun t411=>((nat_trim.f l1).bind fun t413=>(if 0≤(t411.length : Int) then (if ((t411.length : Int) : Int).toNat≤70368744177664 then (nat_Sub.l0 k t413 (([] : List Int)) 0 t411 (t411.length : Int) 0) else (none)) else (none))))))=some (r1,r2):=h
 clear h
 replace H:=Option.bind_eq_some_iff.mp H
 obtain ⟨t410,A30,H⟩:=H
 replace H : (if t410 < 0 then (some (([] : List Int),false)) else ((nat_trim.f l0).bind fun t411=>((nat_trim.f l1).bind fun t413=>(if 0≤(t411.length : Int) then (if ((t411.length : Int) : Int).toNat≤70368744177664 then (nat_Sub.l0 k t413 (([] : List Int)) 0 t411 (t411.length : Int) 0) else (none)) else (none)))))=some (r1,r2):=H
 have A3:=Aside0.mk A30
 clear A30
 by_cases c4 : t410 < 0
 ·rw [if_pos c4] at H
  have c4b0 : decide (t410 < 0)=true:=decide_eq_true c4
  clear c4
  simp only [Option.some.injEq,Prod.mk.injEq] at H
  obtain ⟨rfl,rfl⟩:=H
  go_enter Try.func59,Try.ntmps59
  go_wp2_with (first|((with_reducible refine gate_callee (f:=72) rfl ?_);refine goesL_ (some 14) rfl rfl Try.func72 (by kernel_rfl) rfl #[.slice A0 l0.length c0,.slice A1 l1.length c1] rfl (by (try simp only [List.map_toArray,List.map_cons,List.map_nil]);first|done|rfl|(simp only [List.length_drop,List.length_take];rfl)) ?_;(with_reducible refine (nat_Cmp.calls k _ _ l0 _ _ l1 t410 _ ?side1 ?side2 ?side3 ?side4 A3.out).mono ?_);(case side1=>repeat (first|exact HR0.out|(with_reducible refine Kd.C_alloc ?_ _)|(with_reducible refine Kd.C_drewN ?_ _)|(with_reducible refine Kd.C_drew ?_)));(case side2=>exact HC0.out);(case side3=>repeat (first|exact HR1.out|(with_reducible refine Kd.C_alloc ?_ _)|(with_reducible refine Kd.C_drewN ?_ _)|(with_reducible refine Kd.C_drew ?_)));(case side4=>exact HC1.out);rintro e w' ⟨rfl,⟨nd,rfl⟩⟩;refine ⟨_,rfl,?_⟩))
  go_ret2
  exact ⟨_,by first|rfl|(simp [errW_none,errW_some] <;> rfl)|(simp [*,errW_none,errW_some] <;> rfl),by first|exact Kd.R_nil _ _ _ _ _|exact Kd.N_nil _ _ _ _ _|exact Kd.V_nil _ _ _ _ _|exact Kd.Q_nil _ _ _ _ _|exact Kd.S_nil _ _ _ _ _,by repeat (first|(with_reducible first|exact HB.out|apply below_alloc|apply pw_below_drewN|apply below_drew1)|exact HB.out)⟩
 ·rw [if_neg c4] at H
  have c4b0 : decide (t410 < 0)=false:=decide_eq_false c4
  clear c4
  replace H:=Option.bind_eq_some_iff.mp H
  obtain ⟨t411,A50,H⟩:=H
  replace H : ((nat_trim.f l1).bind fun t413=>(if 0≤(t411.length : Int) then (if ((t411.length : Int) : Int).toNat≤70368744177664 then (nat_Sub.l0 k t413 (([] : List Int)) 0 t411 (t411.length : Int) 0) else (none)) else (none)))=some (r1,r2):=H
  have A5:=Aside0.mk A50
  clear A50
  replace H:=Option.bind_eq_some_iff.mp H
  obtain ⟨t413,A60,H⟩:=H
  replace H : (if 0≤(t411.length : Int) then (if ((t411.length : Int) : Int).toNat≤70368744177664 then (nat_Sub.l0 k t413 (([] : List Int)) 0 t411 (t411.length : Int) 0) else (none)) else (none))=some (r1,r2):=H
  have A6:=Aside0.mk A60
  clear A60
  by_cases c7 : 0≤(t411.length : Int)
  ·rw [if_pos c7] at H
   have c7b0:=eq_true c7
   have c7b1 : decide (0≤(t411.length : Int))=true:=decide_eq_true c7
   clear c7
   by_cases c8 : ((t411.length : Int) : Int).toNat≤70368744177664
   ·rw [if_pos c8] at H
    have c8b0:=eq_true c8
    have c8b1 : decide (((t411.length : Int) : Int).toNat≤70368744177664)=true:=decide_eq_true c8
    clear c8
    obtain ⟨y415,hy415⟩ : ∃ y_ : List Int,y_=(([] : List Int)):=⟨_,rfl⟩
    replace H : (nat_Sub.l0 k t413 y415 0 t411 (t411.length : Int) 0)=some (r1,r2):=by first|(rw [hy415];with_reducible exact H)|(have H2_:=(Option.bind_some _ _).symm.trans H;rw [hy415];with_reducible exact H2_)|(have H2_:=(Option.bind_some _ _).symm.trans H;with_reducible exact H2_)|with_reducible exact H|(rw [hy415];exact H)|exact H
    have Ny415:=Aside0.mk hy415
    clear hy415
    have H':=Aside0.mk H
    clear H
    go_enter Try.func59,Try.ntmps59
    go_wp2_with (first|((with_reducible refine gate_callee (f:=72) rfl ?_);refine goesL_ (some 14) rfl rfl Try.func72 (by kernel_rfl) rfl #[.slice A0 l0.length c0,.slice A1 l1.length c1] rfl (by (try simp only [List.map_toArray,List.map_cons,List.map_nil]);first|done|rfl|(simp only [List.length_drop,List.length_take];rfl)) ?_;(with_reducible refine (nat_Cmp.calls k _ _ l0 _ _ l1 t410 _ ?side1 ?side2 ?side3 ?side4 A3.out).mono ?_);(case side1=>repeat (first|exact HR0.out|(with_reducible refine Kd.C_alloc ?_ _)|(with_reducible refine Kd.C_drewN ?_ _)|(with_reducible refine Kd.C_drew ?_)));(case side2=>exact HC0.out);(case side3=>repeat (first|exact HR1.out|(with_reducible refine Kd.C_alloc ?_ _)|(with_reducible refine Kd.C_drewN ?_ _)|(with_reducible refine Kd.C_drew ?_)));(case side4=>exact HC1.out);rintro e w' ⟨rfl,⟨nd,rfl⟩⟩;refine ⟨_,rfl,?_⟩)|((with_reducible refine gate_callee (f:=70) rfl ?_);refine goesL_ (some 17) rfl rfl Try.func70 (by kernel_rfl) rfl #[.slice A0 l0.length c0] rfl (by (try simp only [List.map_toArray,List.map_cons,List.map_nil]);first|done|rfl|(simp only [List.length_drop,List.length_take];rfl)) ?_;(with_reducible refine (nat_trim.calls _ _ l0 t411 _ ?side1 ?side2 A5.out).mono ?_);(case side1=>repeat (first|exact HR0.out|(with_reducible refine Kd.C_alloc ?_ _)|(with_reducible refine Kd.C_drewN ?_ _)|(with_reducible refine Kd.C_drew ?_)));(case side2=>exact HC0.out);rintro e w' ⟨rfl,⟨nd,rfl⟩⟩;refine ⟨_,rfl,?_⟩;have HR412:=Aside0.mk (nat_trim.C HR0.out A5.out);have HC412:=Aside0.mk (Nat.le_refl t411.length))|((with_reducible refine gate_callee (f:=70) rfl ?_);refine goesL_ (some 19) rfl rfl Try.func70 (by kernel_rfl) rfl #[.slice A1 l1.length c1] rfl (by (try simp only [List.map_toArray,List.map_cons,List.map_nil]);first|done|rfl|(simp only [List.length_drop,List.length_take];rfl)) ?_;(with_reducible refine (nat_trim.calls _ _ l1 t413 _ ?side1 ?side2 A6.out).mono ?_);(case side1=>repeat (first|exact HR1.out|(with_reducible refine Kd.C_alloc ?_ _)|(with_reducible refine Kd.C_drewN ?_ _)|(with_reducible refine Kd.C_drew ?_)));(case side2=>exact HC1.out);rintro e w' ⟨rfl,⟨nd,rfl⟩⟩;refine ⟨_,rfl,?_⟩;have HR414:=Aside0.mk (nat_trim.C HR1.out A6.out);have HC414:=Aside0.mk (Nat.le_refl t413.length))|((with_reducible refine gate_dst (N:=22) rfl ?_);refine Kd.R_make0 (Kd.int .u32) _ 82 rfl (N:=22) rfl 61 _ _ rfl (t411.length : Int) rfl rfl Try.underlying61 (.int .u32 0) 4 info82 rfl (by decide) (by omega) (ok:=fun _=>True) trivial (of_decide_eq_true (by first|(with_reducible assumption)|assumption)) (Nat.le_trans (Nat.mul_le_mul_right _ (of_decide_eq_true (by first|(with_reducible assumption)|assumption) : (t411.length : Int).toNat≤70368744177664)) (by omega)) (Below.refl _ _) (Nat.le_refl _) ?_;intro v416 w9 ho10 hb hg_ hnew_;clear hg_ hnew_;(first|rw [← Ny415.out] at ho10|(simp only [Int.reduceToNat] at ho10;rw [← Ny415.out] at ho10));have n0_:=Aside0.mk (Kd.R_lower ho10 (below_size (by repeat (first|(with_reducible first|exact HB.out|apply below_alloc|apply pw_below_drewN|apply below_drew1)|exact HB.out))));have n1_:=Aside0.mk (below_step (by repeat (first|(with_reducible first|exact HB.out|apply below_alloc|apply pw_below_drewN|apply below_drew1)|exact HB.out)) hb);clear HB;have HO417:=n0_;have HB:=n1_;clear n0_ n1_;clear hb ho10))
    go_loopg [6,7,25] k (fun kq v6 v7 v25 w'=>∃ (x6_1 : List Int) (x7_1 : Int) (x25_1 : Int),v7=.int .u32 x7_1∧v25=.int .i64 x25_1∧Aside0 (nat_Sub.l0 kq t413 x6_1 x7_1 t411 (t411.length : Int) x25_1=some (r1,r2))∧Aside0 (kq≤k)∧Aside0 (Kd.R (Kd.int .u32) 82 w' w.heap.size (fun _=>True) v6 x6_1)∧Aside0 (Below w.heap.size w w'))
    case atStart=>exact ⟨(y415),(0),(0),(by first|rfl|(simp;done)|(simp [*];done)),(by first|rfl|(simp;done)|(simp [*];done)),H',⟨Nat.le_refl _⟩,⟨by (with_reducible repeat (first|apply Kd.R_alloc|apply Kd.R_drewN|apply Kd.R_drew));exact HO417.out⟩,⟨by repeat (first|(with_reducible first|exact HB.out|apply below_alloc|apply pw_below_drewN|apply below_drew1)|exact HB.out)⟩⟩
    case round =>
     clear H'
     try clear c1
     try clear p2
     try clear c4
     try clear c4b0
     try clear c5
     try clear c7
     try clear c7b0
     try clear c7b1
     try clear c8
     try clear c8b0
     try clear c8b1
     obtain ⟨x6_1,x7_1,x25_1,rfl,rfl,HA,HK1,HO_6,HB⟩:=hrel
     cases gk with
    |zero=>exact absurd HA.out (by simp [nat_Sub.l0])
    |succ k1 =>
      have H:=HA.out
      clear HA
      simp only [nat_Sub.l0] at H
      by_cases c11 : x25_1 < (t411.length : Int)
      ·rw [if_pos c11] at H
       have c11b0 : decide (x25_1 < (t411.length : Int))=true:=decide_eq_true c11
       clear c11
       by_cases c12 : 0≤x25_1
       ·rw [if_pos c12] at H
        have c12b0 : decide (0≤x25_1)=true:=decide_eq_true c12
        clear c12
        by_cases c13 : x25_1 < (t411.length : Int)
        ·rw [if_pos c13] at H
         have c13b0 : decide (x25_1 < (t411.length : Int))=true:=decide_eq_true c13
         clear c13
         by_cases c14 : x25_1 < (t413.length : Int)
         ·rw [if_pos c14] at H
          have c14b0 : decide (x25_1 < (t413.length : Int))=true:=decide_eq_true c14
          clear c14
          replace H:=Option.bind_eq_some_iff.mp H
          obtain ⟨⟨t420,t421⟩,A150,H⟩:=H
          replace H : (if x6_1.length < 35184372088832 then (nat_Sub.l0 k1 t413 (x6_1++[t420]) t421 t411 (t411.length : Int) (wrap64 (x25_1+1))) else (none))=some (r1,r2):=H
          have A15:=Aside0.mk A150
          clear A150
          by_cases c16 : x6_1.length < 35184372088832
          ·rw [if_pos c16] at H
           have LMc16:=Aside0.mk c16
           clear c16
           obtain ⟨y422,hy422⟩ : ∃ y_ : List Int,y_=(x6_1++[t420]):=⟨_,rfl⟩
           replace H : (nat_Sub.l0 k1 t413 y422 t421 t411 (t411.length : Int) (wrap64 (x25_1+1)))=some (r1,r2):=by first|(rw [hy422];with_reducible exact H)|(have H2_:=(Option.bind_some _ _).symm.trans H;rw [hy422];with_reducible exact H2_)|(have H2_:=(Option.bind_some _ _).symm.trans H;with_reducible exact H2_)|with_reducible exact H|(rw [hy422];exact H)|exact H
           have Ny422:=Aside0.mk hy422
           clear hy422
           have H':=Aside0.mk H
           clear H
           have p418 : 0≤(x25_1 : Int):=of_decide_eq_true (by first|(with_reducible assumption)|assumption)
           have q418 : x25_1 < (t411.length : Int):=of_decide_eq_true (by first|(with_reducible assumption)|assumption)
           obtain ⟨ad418,e418,hx418_0⟩:=Kd.at_int HR412.out x25_1 p418 q418
           cases e418
           replace hx418_0:=(HB.out.cell (World.block_lt_of_cell? w _ hx418_0)).trans hx418_0
           replace p418:=eq_true p418
           replace q418:=eq_true q418
           have p419 : 0≤(x25_1 : Int):=of_decide_eq_true (by first|(with_reducible assumption)|assumption)
           have q419 : x25_1 < (t413.length : Int):=of_decide_eq_true (by first|(with_reducible assumption)|assumption)
           obtain ⟨ad419,e419,hx419_0⟩:=Kd.at_int HR414.out x25_1 p419 q419
           cases e419
           replace hx419_0:=(HB.out.cell (World.block_lt_of_cell? w _ hx419_0)).trans hx419_0
           replace p419:=eq_true p419
           replace q419:=eq_true q419
           go_wp2_with (first|((with_reducible refine gate_callee (f:=73) rfl ?_);refine goesL_ (some 42) rfl rfl Try.func73 (by kernel_rfl) rfl #[.int .u32 (rd t411 x25_1),.int .u32 (rd t413 x25_1),.int .u32 x7_1] rfl (by (try simp only [List.map_toArray,List.map_cons,List.map_nil]);first|done|rfl|(simp only [List.length_drop,List.length_take];rfl)) ?_;(with_reducible refine (bits_Sub32.calls (rd t411 x25_1) (rd t413 x25_1) x7_1 t420 t421 _ A15.out).mono ?_);rintro e w' ⟨rfl,⟨nd,rfl⟩⟩;refine ⟨_,rfl,?_⟩)|((with_reducible refine gate_builtin (b:=.append) (xs:=#[.tmp 45,.tmp 47]) rfl ?_);at_builtin;refine Kd.R_append (Kd.int .u32) (w0:=w) w.heap.size rfl (.tmp 45) (.tmp 47) 61 82 (.int .u32 0) 4 rfl Try.underlying61 info82 rfl (by decide) (by omega) u6 x6_1 t420 [.int .u32 t420] (fun _=>True) (fun _=>False) rfl rfl ?aP (fun _ hk=>hk.elim) ?aF ?aO ?aB ?aS ?aL ?_;(case aP=>exact rfl);(case aB=>exact (by repeat (first|(with_reducible first|exact HB.out|apply below_alloc|apply pw_below_drewN|apply below_drew1)|exact HB.out)));(case aF=>exact (fun _ _=>trivial));(case aO=>exact (by (with_reducible repeat (first|apply Kd.R_alloc|apply Kd.R_drewN|apply Kd.R_drew));exact HO_6.out));(case aS=>exact (below_size (by repeat (first|(with_reducible first|exact HB.out|apply below_alloc|apply pw_below_drewN|apply below_drew1)|exact HB.out))));(case aL=>have:=LMc16.out;omega);intro v423 w17 ho hb hg hat;rw [← Ny422.out] at ho;have n0_:=Aside0.mk (hb);have n1_:=Aside0.mk (ho);clear HB;clear HO_6;have HB:=n0_;have HO424:=n1_;clear n0_ n1_;clear ho hb hg hat))
           go_roundg k1
           case measure=>have:=HK1.out;omega
           case rel=>exact ⟨(y422),(t421),(wrap64 (x25_1+1)),(by first|rfl|(simp;done)|(simp [*];done)),(by first|rfl|(simp;done)|(simp [*];done)),H',⟨by have:=HK1.out;omega⟩,⟨by (with_reducible repeat (first|apply Kd.R_alloc|apply Kd.R_drewN|apply Kd.R_drew));exact HO424.out⟩,⟨by repeat (first|(with_reducible first|exact HB.out|apply below_alloc|apply pw_below_drewN|apply below_drew1)|exact HB.out)⟩⟩
          ·rw [if_neg c16] at H
           exact absurd H (by simp)
         ·rw [if_neg c14] at H
          have c14b0 : decide (x25_1 < (t413.length : Int))=false:=decide_eq_false c14
          clear c14
          replace H:=Option.bind_eq_some_iff.mp H
          obtain ⟨⟨t425,t426⟩,A180,H⟩:=H
          replace H : (if x6_1.length < 35184372088832 then (nat_Sub.l0 k1 t413 (x6_1++[t425]) t426 t411 (t411.length : Int) (wrap64 (x25_1+1))) else (none))=some (r1,r2):=H
          have A18:=Aside0.mk A180
          clear A180
          by_cases c19 : x6_1.length < 35184372088832
          ·rw [if_pos c19] at H
           have LMc19:=Aside0.mk c19
           clear c19
           obtain ⟨y427,hy427⟩ : ∃ y_ : List Int,y_=(x6_1++[t425]):=⟨_,rfl⟩
           replace H : (nat_Sub.l0 k1 t413 y427 t426 t411 (t411.length : Int) (wrap64 (x25_1+1)))=some (r1,r2):=by first|(rw [hy427];with_reducible exact H)|(have H2_:=(Option.bind_some _ _).symm.trans H;rw [hy427];with_reducible exact H2_)|(have H2_:=(Option.bind_some _ _).symm.trans H;with_reducible exact H2_)|with_reducible exact H|(rw [hy427];exact H)|exact H
           have Ny427:=Aside0.mk hy427
           clear hy427
           have H':=Aside0.mk H
           clear H
           have p418 : 0≤(x25_1 : Int):=of_decide_eq_true (by first|(with_reducible assumption)|assumption)
           have q418 : x25_1 < (t411.length : Int):=of_decide_eq_true (by first|(with_reducible assumption)|assumption)
           obtain ⟨ad418,e418,hx418_0⟩:=Kd.at_int HR412.out x25_1 p418 q418
           cases e418
           replace hx418_0:=(HB.out.cell (World.block_lt_of_cell? w _ hx418_0)).trans hx418_0
           replace p418:=eq_true p418
           replace q418:=eq_true q418
           go_wp2_with (first|((with_reducible refine gate_callee (f:=73) rfl ?_);refine goesL_ (some 42) rfl rfl Try.func73 (by kernel_rfl) rfl #[.int .u32 (rd t411 x25_1),.int .u32 0,.int .u32 x7_1] rfl (by (try simp only [List.map_toArray,List.map_cons,List.map_nil]);first|done|rfl|(simp only [List.length_drop,List.length_take];rfl)) ?_;(with_reducible refine (bits_Sub32.calls (rd t411 x25_1) 0 x7_1 t425 t426 _ A18.out).mono ?_);rintro e w' ⟨rfl,⟨nd,rfl⟩⟩;refine ⟨_,rfl,?_⟩)|((with_reducible refine gate_builtin (b:=.append) (xs:=#[.tmp 45,.tmp 47]) rfl ?_);at_builtin;refine Kd.R_append (Kd.int .u32) (w0:=w) w.heap.size rfl (.tmp 45) (.tmp 47) 61 82 (.int .u32 0) 4 rfl Try.underlying61 info82 rfl (by decide) (by omega) u6 x6_1 t425 [.int .u32 t425] (fun _=>True) (fun _=>False) rfl rfl ?aP (fun _ hk=>hk.elim) ?aF ?aO ?aB ?aS ?aL ?_;(case aP=>exact rfl);(case aB=>exact (by repeat (first|(with_reducible first|exact HB.out|apply below_alloc|apply pw_below_drewN|apply below_drew1)|exact HB.out)));(case aF=>exact (fun _ _=>trivial));(case aO=>exact (by (with_reducible repeat (first|apply Kd.R_alloc|apply Kd.R_drewN|apply Kd.R_drew));exact HO_6.out));(case aS=>exact (below_size (by repeat (first|(with_reducible first|exact HB.out|apply below_alloc|apply pw_below_drewN|apply below_drew1)|exact HB.out))));(case aL=>have:=LMc19.out;omega);intro v428 w20 ho hb hg hat;rw [← Ny427.out] at ho;have n0_:=Aside0.mk (hb);have n1_:=Aside0.mk (ho);clear HB;clear HO_6;have HB:=n0_;have HO429:=n1_;clear n0_ n1_;clear ho hb hg hat))
           go_roundg k1
           case measure=>have:=HK1.out;omega
           case rel=>exact ⟨(y427),(t426),(wrap64 (x25_1+1)),(by first|rfl|(simp;done)|(simp [*];done)),(by first|rfl|(simp;done)|(simp [*];done)),H',⟨by have:=HK1.out;omega⟩,⟨by (with_reducible repeat (first|apply Kd.R_alloc|apply Kd.R_drewN|apply Kd.R_drew));exact HO429.out⟩,⟨by repeat (first|(with_reducible first|exact HB.out|apply below_alloc|apply pw_below_drewN|apply below_drew1)|exact HB.out)⟩⟩
          ·rw [if_neg c19] at H
           exact absurd H (by simp)
        ·rw [if_neg c13] at H
         exact absurd H (by simp)
       ·rw [if_neg c12] at H
        exact absurd H (by simp)
      ·rw [if_neg c11] at H
       have c11b0 : decide (x25_1 < (t411.length : Int))=false:=decide_eq_false c11
       clear c11
       replace H:=Option.bind_eq_some_iff.mp H
       obtain ⟨t430,A210,H⟩:=H
       replace H : (some (t430,true))=some (r1,r2):=H
       have A21:=Aside0.mk A210
       clear A210
       simp only [Option.some.injEq,Prod.mk.injEq] at H
       obtain ⟨rfl,rfl⟩:=H
       obtain ⟨Ao22,co22,eo22⟩:=Kd.R_slice HO_6.out
       subst eo22
       go_wp2_with (first|((with_reducible refine gate_callee (f:=70) rfl ?_);refine goesL_ (some 51) rfl rfl Try.func70 (by kernel_rfl) rfl #[.slice Ao22 x6_1.length co22] rfl (by (try simp only [List.map_toArray,List.map_cons,List.map_nil]);first|done|rfl|(simp only [List.length_drop,List.length_take];rfl)) ?_;(with_reducible refine (nat_trim.calls _ _ x6_1 t430 _ ?side1 ?side2 A21.out).mono ?_);(case side1=>repeat (first|exact (Kd.R_reads' HO_6.out).2.2|(with_reducible refine Kd.C_alloc ?_ _)|(with_reducible refine Kd.C_drewN ?_ _)|(with_reducible refine Kd.C_drew ?_)));(case side2=>exact (Kd.R_reads' HO_6.out).2.1);rintro e w' ⟨rfl,⟨nd,rfl⟩⟩;refine ⟨_,rfl,?_⟩;have HO432:=Aside0.mk (nat_trim.R HO_6.out A21.out);clear HO_6))
       go_ret2
       exact ⟨_,by first|rfl|(simp [errW_none,errW_some] <;> rfl)|(simp [*,errW_none,errW_some] <;> rfl),by (with_reducible repeat (first|apply Kd.R_alloc|apply Kd.R_drewN|apply Kd.R_drew));exact HO432.out,by repeat (first|(with_reducible first|exact HB.out|apply below_alloc|apply pw_below_drewN|apply below_drew1)|exact HB.out)⟩
   ·rw [if_neg c8] at H
    exact absurd H (by simp)
  ·rw [if_neg c7] at H
   exact absurd H (by simp)
theorem nat_Bits.calls (A0 : Option Addr) (c0 : Nat) (l0 : List Int) (r : Int) (w : World) (hr0 : Kd.C (Kd.int .u32) w A0 l0.length l0) (hc0 : l0.length≤c0) (h : nat_Bits.f l0=some r) :
  Calls Try.prog 69 #[.slice A0 l0.length c0] w fun e w'=>e=.returned (.int .i64 r)∧Drawn0 w w':=by
 have HR0:=Aside0.mk hr0
 have HC0:=Aside0.mk hc0
 clear hr0 hc0
 have H : ((nat_trim.f l0).bind fun t345=>(if (t345.length : Int)=0 then (some 0) else (if 0≤(wrap64 ((t345.length : Int) - 1)) then (if (wrap64 ((t345.length : Int) - 1)) < (t345.length : Int) then ((bits_LeadingZeros32.f (rd t345 (wrap64 ((t345.length : Int) - 1)))).bind fun t348=>(some (wrap64 ((wrap64 (32 * (t345.length : Int))) - t348)))) else (none)) else (none))))=some r:=h
 clear h
 replace H:=Option.bind_eq_some_iff.mp H
 obtain ⟨t345,A20,H⟩:=H
 replace H : (if (t345.length : Int)=0 then (some 0) else (if 0≤(wrap64 ((t345.length : Int) - 1)) then (if (wrap64 ((t345.length : Int) - 1)) < (t345.length : Int) then ((bits_LeadingZeros32.f (rd t345 (wrap64 ((t345.length : Int) - 1)))).bind fun t348=>(some (wrap64 ((wrap64 (32 * (t345.length : Int))) - t348)))) else (none)) else (none)))=some r:=H
 have A2:=Aside0.mk A20
 clear A20
 by_cases c3 : (t345.length : Int)=0
 ·rw [if_pos c3] at H
  have c3b0 : ((t345.length : Int) == 0)=true:=beq_iff_eq.mpr c3
  have c3b1 : ((t345.length : Int) != 0)=false:=bne_eq_false_iff_eq.mpr c3
  clear c3
  obtain rfl:=Option.some.inj H
  go_enter Try.func69,Try.ntmps69
  go_wp2_with (first|((with_reducible refine gate_callee (f:=70) rfl ?_);refine goesL_ (some 4) rfl rfl Try.func70 (by kernel_rfl) rfl #[.slice A0 l0.length c0] rfl (by (try simp only [List.map_toArray,List.map_cons,List.map_nil]);first|done|rfl|(simp only [List.length_drop,List.length_take];rfl)) ?_;(with_reducible refine (nat_trim.calls _ _ l0 t345 _ ?side1 ?side2 A2.out).mono ?_);(case side1=>repeat (first|exact HR0.out|(with_reducible refine Kd.C_alloc ?_ _)|(with_reducible refine Kd.C_drewN ?_ _)|(with_reducible refine Kd.C_drew ?_)));(case side2=>exact HC0.out);rintro e w' ⟨rfl,⟨nd,rfl⟩⟩;refine ⟨_,rfl,?_⟩;have HR346:=Aside0.mk (nat_trim.C HR0.out A2.out);have HC346:=Aside0.mk (Nat.le_refl t345.length)))
  go_ret
  exact ⟨by first|rfl|(simp;done)|(simp [*];done),by repeat (first|exact Drawn0.refl _|apply Drawn0.step)⟩
 ·rw [if_neg c3] at H
  have c3b0 : ((t345.length : Int) == 0)=false:=beq_eq_false_iff_ne.mpr c3
  have c3b1 : ((t345.length : Int) != 0)=true:=bne_iff_ne.mpr c3
  have c3b2 : ¬ (t345=[]):=fun h_=>c3 (by rw [h_];rfl)
  obtain ⟨ji4,hji4⟩ : ∃ j_ : Int,(wrap64 ((t345.length : Int) - 1))=j_:=⟨_,rfl⟩
  replace H : (if 0≤(ji4) then (if (ji4) < (t345.length : Int) then ((bits_LeadingZeros32.f (rd t345 (ji4))).bind fun t348=>(some (wrap64 ((wrap64 (32 * (t345.length : Int))) - t348)))) else (none)) else (none))=some r:=by first|(rw [hji4] at H;exact H)|(simp only [hji4] at H ⊢;exact H)
  (try rw [hji4] at A2)
  have hji4w : (IntKind.i64.wrap ((t345.length : Int) - 1))=ji4:=(i64_w _).trans hji4
  by_cases c5 : 0≤(ji4)
  ·rw [if_pos c5] at H
   have c5b0 : decide (0≤(ji4))=true:=decide_eq_true c5
   clear c5
   by_cases c6 : (ji4) < (t345.length : Int)
   ·rw [if_pos c6] at H
    have c6b0 : decide ((ji4) < (t345.length : Int))=true:=decide_eq_true c6
    clear c6
    replace H:=Option.bind_eq_some_iff.mp H
    obtain ⟨t348,A70,H⟩:=H
    replace H : (some (wrap64 ((wrap64 (32 * (t345.length : Int))) - t348)))=some r:=H
    have A7:=Aside0.mk A70
    clear A70
    obtain rfl:=Option.some.inj H
    go_enter Try.func69,Try.ntmps69
    go_wp2_with (first|((with_reducible refine gate_callee (f:=70) rfl ?_);refine goesL_ (some 4) rfl rfl Try.func70 (by kernel_rfl) rfl #[.slice A0 l0.length c0] rfl (by (try simp only [List.map_toArray,List.map_cons,List.map_nil]);first|done|rfl|(simp only [List.length_drop,List.length_take];rfl)) ?_;(with_reducible refine (nat_trim.calls _ _ l0 t345 _ ?side1 ?side2 A2.out).mono ?_);(case side1=>repeat (first|exact HR0.out|(with_reducible refine Kd.C_alloc ?_ _)|(with_reducible refine Kd.C_drewN ?_ _)|(with_reducible refine Kd.C_drew ?_)));(case side2=>exact HC0.out);rintro e w' ⟨rfl,⟨nd,rfl⟩⟩;refine ⟨_,rfl,?_⟩;have HR346:=Aside0.mk (nat_trim.C HR0.out A2.out);have HC346:=Aside0.mk (Nat.le_refl t345.length);have p347 : 0≤((ji4) : Int):=of_decide_eq_true (by first|(with_reducible assumption)|assumption);have q347 : (ji4) < (t345.length : Int):=of_decide_eq_true (by first|(with_reducible assumption)|assumption);obtain ⟨ad347,e347,hx347_0⟩:=Kd.at_int HR346.out (ji4) p347 q347;cases e347;replace p347:=eq_true p347;replace q347:=eq_true q347)|((with_reducible refine gate_callee (f:=80) rfl ?_);refine goesL_ (some 17) rfl rfl Try.func80 (by kernel_rfl) rfl #[.int .u32 (rd t345 (ji4))] rfl (by (try simp only [List.map_toArray,List.map_cons,List.map_nil]);first|done|(simp only [hji4];rfl)|rfl|(simp only [List.length_drop,List.length_take];rfl)) ?_;(with_reducible refine (bits_LeadingZeros32.calls (rd t345 (ji4)) t348 _ A7.out).mono ?_);rintro e w' ⟨rfl,⟨nd,rfl⟩⟩;refine ⟨_,rfl,?_⟩))
    go_ret
    exact ⟨by first|rfl|(simp;done)|(simp only [← hji4] <;> (first|rfl|simp))|(simp [*];done),by repeat (first|exact Drawn0.refl _|apply Drawn0.step)⟩
   ·rw [if_neg c6] at H
    exact absurd H (by simp)
  ·rw [if_neg c5] at H
   exact absurd H (by simp)
set_option maxHeartbeats 400000 in
theorem rat_whole.reads (S : Nat→Prop) (n : Bool) (A1 : Option Addr) (c1 : Nat) (a : List Int) (A2 : Option Addr) (c2 : Nat) (b : List Int) (m : Bool) (p q : List Int) (w : World) (hS : ∀ k,S k→k < w.heap.size)
  (hr : Rbst S w (fun W=>U32.C W A1 a.length a∧U32.C W A2 b.length b)) (hc1 : a.length≤c1) (hc2 : b.length≤c2) (h : rat_whole.f n a b=some (m,p,q)) :
  Calls Try.prog 56 #[.agg #[.bool n,.slice A1 a.length c1,.slice A2 b.length c2]] w fun e w'=>∃ A1' c1' A2' c2',e=.returned (.agg #[.bool m,.slice A1' p.length c1',.slice A2' q.length c2'])∧p.length≤c1'∧q.length≤c2' ∧
   Rbst S w' (fun W=>U32.C W A1' p.length p∧U32.C W A2' q.length q)∧Below w.heap.size w w':=by
 obtain ⟨t,T,h⟩:=Option.bind_eq_some_iff.mp h
 have T:=Aside0.mk T
 have HS : Aside0 (∀ k,(S k∨w.heap.size≤k∧k < w.heap.size+2)→k < w.heap.size+2):=⟨fun k hk=>hk.elim (fun h=>by have:=hS k h;omega) (fun h=>h.2)⟩
 have HR:=Aside0.mk (hr.less (S':=fun k=>S k∨w.heap.size≤k∧k < w.heap.size+2) (fun k hk=>hk.imp_right (·.1)))
 have HC1:=Aside0.mk hc1
 have HC2:=Aside0.mk hc2
 clear hr hS hc1 hc2
 by_cases c : t=0
 ·rw [if_pos c] at h
  obtain ⟨o,O,h⟩:=Option.bind_eq_some_iff.mp h
  have O:=Aside0.mk O
  obtain ⟨rfl,rfl,rfl⟩ : false=m∧[]=p∧o=q:=by simpa using h
  clear h
  have cb : (t == 0)=true:=beq_iff_eq.mpr c
  clear c
  go_enter Try.func56,Try.ntmps56
  go_wp2_with (first
  |(go_at_call 69;refine (nat_Bits.calls _ _ b _ _ ?h1 HC2.out T.out).mono ?_;(case h1=>exact (HR.out.at ((Kept.refl _ _).alloc _ |>.alloc _)).2);rintro e w5 ⟨rfl,⟨nd,rfl⟩⟩)
  |(go_at_call 42;refine (rat_one.calls _ _ O.out).mono ?_;rintro e w6 ⟨v,rfl,ho,hb⟩;obtain ⟨A',c',rfl,hl,hr⟩:=made ho (fun k hk=>.inl (by simpa using HS.out k hk));obtain ⟨hc,hf⟩:=bcell hb;have HR:=Aside0.mk hr;have HL:=Aside0.mk hl;clear ho hr hl))
  refine bodyPost_ret (v:=.agg #[.bool false,.slice none 0 0,.slice A' o.length c']) (by simp [results,Try.results56,go_sem,hc]) rfl ⟨_,_,_,_,rfl,Nat.le_refl _,HL.out,?_,?_⟩
  ·exact (Rbst.mk fun W _=>Kd.C_nil _ W).and (HR.out.step (by repeat (first|exact Kept.refl _ _|(refine Kept.setCell ?_ (.inl (.inr (by simp))) _))) |>.less fun k hk=>.inl (.inl hk))
  ·repeat (first|exact Below.refl _ _|apply below_alloc|apply pw_below_drewN|(refine below_set ?_ (by simp))|(refine below_step ?_ hb))
 ·rw [if_neg c] at h
  obtain ⟨rfl,rfl,rfl⟩ : n=m∧a=p∧b=q:=by simpa using h
  clear h
  have cb : (t == 0)=false:=beq_eq_false_iff_ne.mpr c
  clear c
  go_enter Try.func56,Try.ntmps56
  go_wp2_with (first
  |(go_at_call 69;refine (nat_Bits.calls _ _ b _ _ ?h1 HC2.out T.out).mono ?_;(case h1=>exact (HR.out.at ((Kept.refl _ _).alloc _ |>.alloc _)).2);rintro e w5 ⟨rfl,⟨nd,rfl⟩⟩))
  refine bodyPost_ret (v:=.agg #[.bool n,.slice A1 a.length c1,.slice A2 b.length c2]) (by simp [results,Try.results56,go_sem]) rfl ⟨_,_,_,_,rfl,HC1.out,HC2.out,?_,?_⟩
  ·exact (HR.out.step (by repeat (first|exact Kept.refl _ _|apply Kept.alloc|apply Kept.drewN|(refine Kept.setCell ?_ (.inl (.inr (by simp))) _)))).less fun k hk=>.inl (.inl hk)
  ·repeat (first|exact Below.refl _ _|apply below_alloc|apply pw_below_drewN|(refine below_set ?_ (by simp)))
end Go.Proofs.Ytjiaobcoeegioaa.Pq
end
