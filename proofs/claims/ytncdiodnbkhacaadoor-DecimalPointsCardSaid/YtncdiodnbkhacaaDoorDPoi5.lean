import Derived.Test.YtncdiodnbkhacaaDoorDPoi4
set_option linter.unusedVariables false
set_option linter.unusedSimpArgs false
section
section
namespace Go.Proofs.YtncdiodnbkhacaaDoor.Pq
open Go.RowKit Go.Proofs.YtncdiodnbkhacaaDoorW.PrintWords Go.Proofs.YtncdiodnbkhacaaDoorW.PrintLast Go.Proofs.YtncdiodnbkhacaaDoorW.PrintMore
attribute [local go_sem] max2_int min2_int max_two min_two max_three min_three max_four min_four
set_option linter.unusedVariables false
set_option linter.unusedSimpArgs false
set_option maxHeartbeats 8000000
set_option maxRecDepth 100000
theorem penumbralaw04_fixed.mono : ∀ k,LeO (penumbralaw04_fixed.f k ) (penumbralaw04_fixed.f (k+1) ):=by
 intro  k
 unfold penumbralaw04_fixed.f
 with_reducible repeat' first
  |exact decimal_Natural.mono _ _
  |exact decimal_Parse.mono _ _
  |exact decimal_Print.mono _ _ _ _
  |exact penumbraref03_Is.mono _ _ _ _ _ _ _
  |exact penumbraref03_Of.mono _ _ _
  |exact rat_Of.mono _ _ _
  |exact LeO.refl _
  |exact LeO.none _
  |refine LeO.ite ?_ ?_
  |refine LeO.bind ?_ (fun _=>?_)
def penumbralaw04_fixed.T5 : Bool × List (List Nat × List Nat):=(true,[([],[]),([0],[0]),([1],[1]),([2],[2]),([2,2],[2]),([3,4,4,2],[2,3,4]),([2,5],[2,5]),([6,5],[6]),([7],[7]),([8,7],[7,8]),([7,9],[7,9]),([10,7],[10]),([11],[11]),([11,11],[11]),([12,13,13,11],[11,12,13]),([11,14],[11,14]),([15,14],[15]),([16],[16]),([17,16],[16,17]),([16,18],[16,18]),([19,16],[19]),([20],[20]),([21,20],[20,21]),([20,22],[20,22]),([23,20],[23]),([24,24],[24]),([25,25,24],[24,25]),([26,24],[24,26]),([24,27],[24,27]),([28,26],[28]),([29],[29]),([30,29,29],[29,30]),([31,29],[29,31]),([29,32],[29,32]),([33,31,0,1,2,3,4,5,6,7,8,9,10,11,12,13,14,15,16,17,18,19,20,21,22,23,24,25,26,27,28,29,30,31,32,33],[33])])
def penumbralaw04_fixed.B5 : List Nat:=[0,1,3,7,7,31,63,127,255,511,1023,2047,4095,4095,16383,32767,65535,131071,262143,524287,1048575,2097151,4194303,8388607,16777215,33554431,67108863,134217727,268435455,536870911,1073741823,2147483647,4294967295,8589934591,17179869183]
theorem penumbralaw04_fixed.tab5 : rtab .any (opsOf Tryd.f8 5)=penumbralaw04_fixed.T5:=by kernel_rfl
theorem penumbralaw04_fixed.bits5 : waitsOk penumbralaw04_fixed.T5.2 penumbralaw04_fixed.B5=true:=by kernel_rfl
theorem penumbralaw04_fixed.calls (k : Nat)  (r : Bool) (w : World) (h : penumbralaw04_fixed.f k  = some r) :
  Calls Tryd.prog 8 #[] w fun e w'=>e=.returned (.bool r)∧Below w.heap.size w w':=by
 have hu25:=Tryd.underlying25
 have HB:=Aside0.mk (Below.refl w.heap.size w)
 have H : ((decimal_Parse.f k (⟨#[48,46,49,50,53]⟩ : ByteArray)).bind fun bt666=>((decimal_Parse.f k (⟨#[48,48,55,47,48,49,52]⟩ : ByteArray)).bind fun bt675=>((decimal_Parse.f k (⟨#[49,47,48]⟩ : ByteArray)).bind fun bt684=>((decimal_Parse.f k (⟨#[49,46]⟩ : ByteArray)).bind fun bt693=>(if bt666.2.2.2=0 then ((penumbraref03_Of.f k 1 8).bind fun bt702=>((penumbraref03_Is.f k bt666.1 bt666.2.1 bt666.2.2.1 bt702.1 bt702.2.1 bt702.2.2).bind fun t709=>(if t709=true then (if bt675.2.2.2=0 then ((penumbraref03_Of.f k 1 2).bind fun bt710=>((penumbraref03_Is.f k bt675.1 bt675.2.1 bt675.2.2.1 bt710.1 bt710.2.1 bt710.2.2).bind fun t717=>(if t717=true then (if bt684.2.2.2=42 then (if bt693.2.2.2=40 then ((rat_Of.f k (-3) 6).bind fun bt718=>((decimal_Print.f k bt718.1 bt718.2.1 bt718.2.2).bind fun t725=>(if t725.toList=([45,49,47,50] : List UInt8) then ((decimal_Natural.f k (([0,1] : List Int))).bind fun t729=>(some (t729.toList == ([52,50,57,52,57,54,55,50,57,54] : List UInt8)))) else (none)))) else (none)) else (none)) else (none)))) else (none)) else (none)))) else (none))))))=some r:=h
 clear h
 replace H:=Option.bind_eq_some_iff.mp H
 obtain ⟨⟨t666,t667,t670,t673⟩,A10,H⟩:=H
 try dsimp only at H
 have A1:=Aside0.mk A10
 clear A10
 replace H:=Option.bind_eq_some_iff.mp H
 obtain ⟨⟨t675,t676,t679,t682⟩,A20,H⟩:=H
 try dsimp only at H
 have A2:=Aside0.mk A20
 clear A20
 replace H:=Option.bind_eq_some_iff.mp H
 obtain ⟨⟨t684,t685,t688,t691⟩,A30,H⟩:=H
 try dsimp only at H
 have A3:=Aside0.mk A30
 clear A30
 replace H:=Option.bind_eq_some_iff.mp H
 obtain ⟨⟨t693,t694,t697,t700⟩,A40,H⟩:=H
 try dsimp only at H
 have A4:=Aside0.mk A40
 clear A40
 by_cases c5 : t673=0
 case neg =>rw [if_neg c5] at H;exact absurd H (by simp)
 rw [if_pos c5] at H
 have c5b0 : (t673 == 0)=true:=beq_iff_eq.mpr c5
 have c5b1 : (t673 != 0)=false:=bne_eq_false_iff_eq.mpr c5
 clear c5
 replace H:=Option.bind_eq_some_iff.mp H
 obtain ⟨⟨t702,t703,t706⟩,A60,H⟩:=H
 try dsimp only at H
 have A6:=Aside0.mk A60
 clear A60
 replace H:=Option.bind_eq_some_iff.mp H
 obtain ⟨t709,A70,H⟩:=H
 try dsimp only at H
 have A7:=Aside0.mk A70
 clear A70
 by_cases c8 : t709=true
 ·subst c8
  rw [if_pos rfl] at H
  by_cases c9 : t682=0
  case neg =>rw [if_neg c9] at H;exact absurd H (by simp)
  rw [if_pos c9] at H
  have c9b0 : (t682 == 0)=true:=beq_iff_eq.mpr c9
  have c9b1 : (t682 != 0)=false:=bne_eq_false_iff_eq.mpr c9
  clear c9
  replace H:=Option.bind_eq_some_iff.mp H
  obtain ⟨⟨t710,t711,t714⟩,A100,H⟩:=H
  try dsimp only at H
  have A10:=Aside0.mk A100
  clear A100
  replace H:=Option.bind_eq_some_iff.mp H
  obtain ⟨t717,A110,H⟩:=H
  try dsimp only at H
  have A11:=Aside0.mk A110
  clear A110
  by_cases c12 : t717=true
  ·subst c12
   rw [if_pos rfl] at H
   by_cases c13 : t691=42
   case neg =>rw [if_neg c13] at H;exact absurd H (by simp)
   rw [if_pos c13] at H
   have c13b0 : (t691 == 42)=true:=beq_iff_eq.mpr c13
   have c13b1 : (t691 != 42)=false:=bne_eq_false_iff_eq.mpr c13
   clear c13
   by_cases c14 : t700=40
   case neg =>rw [if_neg c14] at H;exact absurd H (by simp)
   rw [if_pos c14] at H
   have c14b0 : (t700 == 40)=true:=beq_iff_eq.mpr c14
   have c14b1 : (t700 != 40)=false:=bne_eq_false_iff_eq.mpr c14
   clear c14
   replace H:=Option.bind_eq_some_iff.mp H
   obtain ⟨⟨t718,t719,t722⟩,A150,H⟩:=H
   try dsimp only at H
   have A15:=Aside0.mk A150
   clear A150
   replace H:=Option.bind_eq_some_iff.mp H
   obtain ⟨t725,A160,H⟩:=H
   try dsimp only at H
   have A16:=Aside0.mk A160
   clear A160
   by_cases c17 : t725.toList=([45,49,47,50] : List UInt8)
   case neg =>rw [if_neg c17] at H;exact absurd H (by simp)
   rw [if_pos c17] at H
   have c17b0 : (t725.toList == ([45,49,47,50] : List UInt8))=true:=beq_iff_eq.mpr c17
   have c17b1 : (t725.toList != ([45,49,47,50] : List UInt8))=false:=bne_eq_false_iff_eq.mpr c17
   clear c17
   obtain ⟨y726,hy726⟩ : ∃ y_ : List Int,y_=(([0,1] : List Int)):=⟨_,rfl⟩
   replace H : ((decimal_Natural.f k y726).bind fun t729=>(some (t729.toList == ([52,50,57,52,57,54,55,50,57,54] : List UInt8))))=some r:=by first|(rw [hy726];with_reducible exact H)|(have H2_:=(Option.bind_some _ _).symm.trans H;rw [hy726];with_reducible exact H2_)|(have H2_:=(Option.bind_some _ _).symm.trans H;with_reducible exact H2_)|with_reducible exact H|(rw [hy726];exact H)|exact H
   have Ny726:=Aside0.mk hy726
   clear hy726
   replace H:=Option.bind_eq_some_iff.mp H
   obtain ⟨t729,A180,H⟩:=H
   try dsimp only at H
   have A18:=Aside0.mk A180
   clear A180
   obtain rfl:=Option.some.inj H
   go_enter Tryd.func8,Tryd.ntmps8
   try go_wp2_with (first|((with_reducible refine gate_callee (f:=9) rfl ?_);refine goesL_ (some 10) rfl rfl Tryd.func9 (by kernel_rfl) rfl #[.string (⟨#[48,46,49,50,53]⟩ : ByteArray)] rfl (by (try simp only [List.map_toArray,List.map_cons,List.map_nil]);first|done|rfl) ?_;(with_reducible refine (decimal_Parse.calls k (⟨#[48,46,49,50,53]⟩ : ByteArray) t666 t667 t670 t673 _ A1.out).mono ?_);rintro e w19 ⟨v668,v671,rfl,ho0,ho1,hb⟩;refine ⟨_,rfl,?_⟩;have n0_:=Aside0.mk (Kd.R_lower ho0 (below_size (Hu HB.out)));have n1_:=Aside0.mk (Kd.R_lower ho1 (below_size (Hu HB.out)));have n2_:=Aside0.mk (below_step (Hu HB.out) hb);clear HB;have HO669:=n0_;have HO672:=n1_;have HB:=n2_;clear n0_ n1_ n2_)|((with_reducible refine gate_dst (N:=1) rfl ?_);(try (refine gate_guard (by rfl) ?_;dsimp only));refine box_event ?hg (N:=1) ?hd (cs:=#[.bool false,.slice none 0 0,.slice none 0 0]) (t:=25) ?hr ?_;(case hd=>rfl);(case hg=>rfl);(case hr=>first|(go_simp;done)|(go_simp;(with_reducible rfl))|(go_simp;rfl)|(go_simp;simp only [hu,Int.emod_sub_emod]));intro gb674 hg w20 hbox hb;have n0_:=Aside0.mk (Kd.R_below (Ru HO669.out) hb);have n1_:=Aside0.mk (Kd.R_below (Ru HO672.out) hb);have n2_:=Aside0.mk (below_step (Hu HB.out) hb);have n3_:=Aside0.mk (hbox);have n4_:=Aside0.mk ((by rw [hg];exact (below_size (Hu HB.out)) : w.heap.size≤gb674));have n5_:=Aside0.mk ((by rw [hg];exact (below_size (Hu HB.out)) : w.heap.size≤gb674));clear HO669;clear HO672;clear HB;have HO669:=n0_;have HO672:=n1_;have HB:=n2_;have BK674:=n3_;have GW674:=n4_;have GE674:=n5_;clear n0_ n1_ n2_ n3_ n4_ n5_;clear hb hbox hg;have hcz21_0 : w20.cell? ⟨gb674,0,none⟩=some (.bool false):=(blk_cell BK674.out 0).trans rfl;have hcz21_1 : w20.cell? ⟨gb674,1,none⟩=some (.slice none 0 0):=(blk_cell BK674.out 1).trans rfl;have hcz21_2 : w20.cell? ⟨gb674,2,none⟩=some (.slice none 0 0):=(blk_cell BK674.out 2).trans rfl;have hfz21_0:=blk_frozen BK674.out 0;have hfz21_1:=blk_frozen BK674.out 1;have hfz21_2:=blk_frozen BK674.out 2;obtain ⟨Ao22,co22,eo22⟩:=Kd.R_slice HO669.out;subst eo22;obtain ⟨Ao23,co23,eo23⟩:=Kd.R_slice HO672.out;subst eo23)|((with_reducible refine gate_callee (f:=9) rfl ?_);refine goesL_ (some 14) rfl rfl Tryd.func9 (by kernel_rfl) rfl #[.string (⟨#[48,48,55,47,48,49,52]⟩ : ByteArray)] rfl (by (try simp only [List.map_toArray,List.map_cons,List.map_nil]);first|done|rfl) ?_;(with_reducible refine (decimal_Parse.calls k (⟨#[48,48,55,47,48,49,52]⟩ : ByteArray) t675 t676 t679 t682 _ A2.out).mono ?_);rintro e w24 ⟨v677,v680,rfl,ho0,ho1,hb⟩;refine ⟨_,rfl,?_⟩;have n0_:=Aside0.mk (Kd.R_mono (Kd.R_told (Kd.R_told (Kd.R_old (by (with_reducible repeat (first|apply Ra|apply Rn|apply Rd));exact (Kd.R_mono (Kd.R_far (p:=⟨gb674,2,none⟩) (Kd.R_far (p:=⟨gb674,1,none⟩) (Kd.R_far (p:=⟨gb674,0,none⟩) (Kd.R_types HO669.out BK674.out (by decide)) (fun _ hk=>hk.2) (.bool t666)) (fun _ hk=>hk.2) (.slice Ao22 t667.length co22)) (fun _ hk=>hk.2) (.slice Ao23 t670.length co23)) (fun _ h_=>h_.1))) hb) (Kd.R_base ho0)) (Kd.R_base ho1)) (fun _ h_=>h_.1));have n1_:=Aside0.mk (Kd.R_mono (Kd.R_told (Kd.R_told (Kd.R_old (by (with_reducible repeat (first|apply Ra|apply Rn|apply Rd));exact (Kd.R_mono (Kd.R_far (p:=⟨gb674,2,none⟩) (Kd.R_far (p:=⟨gb674,1,none⟩) (Kd.R_far (p:=⟨gb674,0,none⟩) (Kd.R_types HO672.out BK674.out (by decide)) (fun _ hk=>hk.2) (.bool t666)) (fun _ hk=>hk.2) (.slice Ao22 t667.length co22)) (fun _ hk=>hk.2) (.slice Ao23 t670.length co23)) (fun _ h_=>h_.1))) hb) (Kd.R_base ho0)) (Kd.R_base ho1)) (fun _ h_=>h_.1));have n2_:=Aside0.mk (Kd.R_lower (Kd.R_new' (Kd.R_new' ho0 (Kd.R_lt (by (with_reducible repeat (first|apply Ra|apply Rn|apply Rd));exact (Kd.R_mono (Kd.R_far (p:=⟨gb674,2,none⟩) (Kd.R_far (p:=⟨gb674,1,none⟩) (Kd.R_far (p:=⟨gb674,0,none⟩) (Kd.R_types HO669.out BK674.out (by decide)) (fun _ hk=>hk.2) (.bool t666)) (fun _ hk=>hk.2) (.slice Ao22 t667.length co22)) (fun _ hk=>hk.2) (.slice Ao23 t670.length co23)) (fun _ h_=>h_.1))))) (Kd.R_lt (by (with_reducible repeat (first|apply Ra|apply Rn|apply Rd));exact (Kd.R_mono (Kd.R_far (p:=⟨gb674,2,none⟩) (Kd.R_far (p:=⟨gb674,1,none⟩) (Kd.R_far (p:=⟨gb674,0,none⟩) (Kd.R_types HO672.out BK674.out (by decide)) (fun _ hk=>hk.2) (.bool t666)) (fun _ hk=>hk.2) (.slice Ao22 t667.length co22)) (fun _ hk=>hk.2) (.slice Ao23 t670.length co23)) (fun _ h_=>h_.1))))) (below_size (by repeat (first|with_reducible exact HB.out|apply ba|apply bn|apply b1|refine below_set ?_ GE674.out))));have n3_:=Aside0.mk (Kd.R_lower (Kd.R_new' (Kd.R_new' ho1 (Kd.R_lt (by (with_reducible repeat (first|apply Ra|apply Rn|apply Rd));exact (Kd.R_mono (Kd.R_far (p:=⟨gb674,2,none⟩) (Kd.R_far (p:=⟨gb674,1,none⟩) (Kd.R_far (p:=⟨gb674,0,none⟩) (Kd.R_types HO669.out BK674.out (by decide)) (fun _ hk=>hk.2) (.bool t666)) (fun _ hk=>hk.2) (.slice Ao22 t667.length co22)) (fun _ hk=>hk.2) (.slice Ao23 t670.length co23)) (fun _ h_=>h_.1))))) (Kd.R_lt (by (with_reducible repeat (first|apply Ra|apply Rn|apply Rd));exact (Kd.R_mono (Kd.R_far (p:=⟨gb674,2,none⟩) (Kd.R_far (p:=⟨gb674,1,none⟩) (Kd.R_far (p:=⟨gb674,0,none⟩) (Kd.R_types HO672.out BK674.out (by decide)) (fun _ hk=>hk.2) (.bool t666)) (fun _ hk=>hk.2) (.slice Ao22 t667.length co22)) (fun _ hk=>hk.2) (.slice Ao23 t670.length co23)) (fun _ h_=>h_.1))))) (below_size (by repeat (first|with_reducible exact HB.out|apply ba|apply bn|apply b1|refine below_set ?_ GE674.out))));have n4_:=Aside0.mk (blk_below (g:=gb674) (o:=.cells #[.bool t666,.slice Ao22 t667.length co22,.slice Ao23 t670.length co23] 25 (0,0)) (by (with_reducible repeat (first|refine blk_drewN ?_ _|refine blk_drew ?_|refine blk_alloc ?_ _));refine blk_put (cs:=#[.bool t666,.slice Ao22 t667.length co22,.slice none 0 0]) ?_ 2 _ rfl;(with_reducible repeat (first|refine blk_drewN ?_ _|refine blk_drew ?_|refine blk_alloc ?_ _));refine blk_put (cs:=#[.bool t666,.slice none 0 0,.slice none 0 0]) ?_ 1 _ rfl;(with_reducible repeat (first|refine blk_drewN ?_ _|refine blk_drew ?_|refine blk_alloc ?_ _));refine blk_put (cs:=#[.bool false,.slice none 0 0,.slice none 0 0]) ?_ 0 _ rfl;(with_reducible repeat (first|refine blk_drewN ?_ _|refine blk_drew ?_|refine blk_alloc ?_ _));exact BK674.out) hb);have n5_:=Aside0.mk (below_step (by repeat (first|with_reducible exact HB.out|apply ba|apply bn|apply b1|refine below_set ?_ GE674.out)) hb);clear HO669;clear HO672;clear BK674;clear HB;have HO669:=n0_;have HO672:=n1_;have HO678:=n2_;have HO681:=n3_;have BK674:=n4_;have HB:=n5_;clear n0_ n1_ n2_ n3_ n4_ n5_)|((with_reducible refine gate_dst (N:=3) rfl ?_);(try (refine gate_guard (by rfl) ?_;dsimp only));refine box_event ?hg (N:=3) ?hd (cs:=#[.bool false,.slice none 0 0,.slice none 0 0]) (t:=25) ?hr ?_;(case hd=>rfl);(case hg=>rfl);(case hr=>first|(go_simp;done)|(go_simp;(with_reducible rfl))|(go_simp;rfl)|(go_simp;simp only [hu,Int.emod_sub_emod]));intro gb683 hg w25 hbox hb;have n0_:=Aside0.mk (Kd.R_below (Ru HO669.out) hb);have n1_:=Aside0.mk (Kd.R_below (Ru HO672.out) hb);have n2_:=Aside0.mk (Kd.R_below (Ru HO678.out) hb);have n3_:=Aside0.mk (Kd.R_below (Ru HO681.out) hb);have n4_:=Aside0.mk (blk_below (g:=gb674) (o:=.cells #[.bool t666,.slice Ao22 t667.length co22,.slice Ao23 t670.length co23] 25 (0,0)) (Bu BK674.out) hb);have n5_:=Aside0.mk (below_step (by repeat (first|with_reducible exact HB.out|apply ba|apply bn|apply b1|refine below_set ?_ GE674.out)) hb);have n6_:=Aside0.mk (hbox);have n7_:=Aside0.mk ((by rw [hg];exact (below_size (by repeat (first|with_reducible exact HB.out|apply ba|apply bn|apply b1|refine below_set ?_ GE674.out))) : w.heap.size≤gb683));have n8_:=Aside0.mk ((by rw [hg];exact (below_size (by repeat (first|with_reducible exact HB.out|apply ba|apply bn|apply b1|refine below_set ?_ GE674.out))) : w.heap.size≤gb683));have n9_:=Aside0.mk ((by rw [hg];exact Nat.ne_of_lt (blk_lt (g:=gb674) (o:=.cells #[.bool t666,.slice Ao22 t667.length co22,.slice Ao23 t670.length co23] 25 (0,0)) (Bu BK674.out)) : gb674≠gb683));have n10_:=Aside0.mk ((by rw [hg];exact Nat.ne_of_gt (blk_lt (g:=gb674) (o:=.cells #[.bool t666,.slice Ao22 t667.length co22,.slice Ao23 t670.length co23] 25 (0,0)) (Bu BK674.out)) : gb683≠gb674));clear HO669;clear HO672;clear HO678;clear HO681;clear BK674;clear HB;have HO669:=n0_;have HO672:=n1_;have HO678:=n2_;have HO681:=n3_;have BK674:=n4_;have HB:=n5_;have BK683:=n6_;have GW683:=n7_;have GE683:=n8_;have NB674_683:=n9_;have NB683_674:=n10_;clear n0_ n1_ n2_ n3_ n4_ n5_ n6_ n7_ n8_ n9_ n10_;clear hb hbox hg;have hnb26:=NB683_674.out;have hnc26:=NB674_683.out;have hcz27_0 : w25.cell? ⟨gb683,0,none⟩=some (.bool false):=(blk_cell BK683.out 0).trans rfl;have hcz27_1 : w25.cell? ⟨gb683,1,none⟩=some (.slice none 0 0):=(blk_cell BK683.out 1).trans rfl;have hcz27_2 : w25.cell? ⟨gb683,2,none⟩=some (.slice none 0 0):=(blk_cell BK683.out 2).trans rfl;have hfz27_0:=blk_frozen BK683.out 0;have hfz27_1:=blk_frozen BK683.out 1;have hfz27_2:=blk_frozen BK683.out 2;obtain ⟨Ao28,co28,eo28⟩:=Kd.R_slice HO678.out;subst eo28;obtain ⟨Ao29,co29,eo29⟩:=Kd.R_slice HO681.out;subst eo29)|((with_reducible refine gate_callee (f:=9) rfl ?_);refine goesL_ (some 18) rfl rfl Tryd.func9 (by kernel_rfl) rfl #[.string (⟨#[49,47,48]⟩ : ByteArray)] rfl (by (try simp only [List.map_toArray,List.map_cons,List.map_nil]);first|done|rfl) ?_;(with_reducible refine (decimal_Parse.calls k (⟨#[49,47,48]⟩ : ByteArray) t684 t685 t688 t691 _ A3.out).mono ?_);rintro e w30 ⟨v686,v689,rfl,ho0,ho1,hb⟩;refine ⟨_,rfl,?_⟩;have n0_:=Aside0.mk (Kd.R_mono (Kd.R_told (Kd.R_told (Kd.R_old (by (with_reducible repeat (first|apply Ra|apply Rn|apply Rd));exact (Kd.R_mono (Kd.R_far (p:=⟨gb683,2,none⟩) (Kd.R_far (p:=⟨gb683,1,none⟩) (Kd.R_far (p:=⟨gb683,0,none⟩) (Kd.R_types HO669.out BK683.out (by decide)) (fun _ hk=>hk.2) (.bool t675)) (fun _ hk=>hk.2) (.slice Ao28 t676.length co28)) (fun _ hk=>hk.2) (.slice Ao29 t679.length co29)) (fun _ h_=>h_.1))) hb) (Kd.R_base ho0)) (Kd.R_base ho1)) (fun _ h_=>h_.1));have n1_:=Aside0.mk (Kd.R_mono (Kd.R_told (Kd.R_told (Kd.R_old (by (with_reducible repeat (first|apply Ra|apply Rn|apply Rd));exact (Kd.R_mono (Kd.R_far (p:=⟨gb683,2,none⟩) (Kd.R_far (p:=⟨gb683,1,none⟩) (Kd.R_far (p:=⟨gb683,0,none⟩) (Kd.R_types HO672.out BK683.out (by decide)) (fun _ hk=>hk.2) (.bool t675)) (fun _ hk=>hk.2) (.slice Ao28 t676.length co28)) (fun _ hk=>hk.2) (.slice Ao29 t679.length co29)) (fun _ h_=>h_.1))) hb) (Kd.R_base ho0)) (Kd.R_base ho1)) (fun _ h_=>h_.1));have n2_:=Aside0.mk (Kd.R_mono (Kd.R_told (Kd.R_told (Kd.R_old (by (with_reducible repeat (first|apply Ra|apply Rn|apply Rd));exact (Kd.R_mono (Kd.R_far (p:=⟨gb683,2,none⟩) (Kd.R_far (p:=⟨gb683,1,none⟩) (Kd.R_far (p:=⟨gb683,0,none⟩) (Kd.R_types HO678.out BK683.out (by decide)) (fun _ hk=>hk.2) (.bool t675)) (fun _ hk=>hk.2) (.slice Ao28 t676.length co28)) (fun _ hk=>hk.2) (.slice Ao29 t679.length co29)) (fun _ h_=>h_.1))) hb) (Kd.R_base ho0)) (Kd.R_base ho1)) (fun _ h_=>h_.1));have n3_:=Aside0.mk (Kd.R_mono (Kd.R_told (Kd.R_told (Kd.R_old (by (with_reducible repeat (first|apply Ra|apply Rn|apply Rd));exact (Kd.R_mono (Kd.R_far (p:=⟨gb683,2,none⟩) (Kd.R_far (p:=⟨gb683,1,none⟩) (Kd.R_far (p:=⟨gb683,0,none⟩) (Kd.R_types HO681.out BK683.out (by decide)) (fun _ hk=>hk.2) (.bool t675)) (fun _ hk=>hk.2) (.slice Ao28 t676.length co28)) (fun _ hk=>hk.2) (.slice Ao29 t679.length co29)) (fun _ h_=>h_.1))) hb) (Kd.R_base ho0)) (Kd.R_base ho1)) (fun _ h_=>h_.1));have n4_:=Aside0.mk (Kd.R_lower (Kd.R_new' (Kd.R_new' (Kd.R_new' (Kd.R_new' ho0 (Kd.R_lt (by (with_reducible repeat (first|apply Ra|apply Rn|apply Rd));exact (Kd.R_mono (Kd.R_far (p:=⟨gb683,2,none⟩) (Kd.R_far (p:=⟨gb683,1,none⟩) (Kd.R_far (p:=⟨gb683,0,none⟩) (Kd.R_types HO669.out BK683.out (by decide)) (fun _ hk=>hk.2) (.bool t675)) (fun _ hk=>hk.2) (.slice Ao28 t676.length co28)) (fun _ hk=>hk.2) (.slice Ao29 t679.length co29)) (fun _ h_=>h_.1))))) (Kd.R_lt (by (with_reducible repeat (first|apply Ra|apply Rn|apply Rd));exact (Kd.R_mono (Kd.R_far (p:=⟨gb683,2,none⟩) (Kd.R_far (p:=⟨gb683,1,none⟩) (Kd.R_far (p:=⟨gb683,0,none⟩) (Kd.R_types HO672.out BK683.out (by decide)) (fun _ hk=>hk.2) (.bool t675)) (fun _ hk=>hk.2) (.slice Ao28 t676.length co28)) (fun _ hk=>hk.2) (.slice Ao29 t679.length co29)) (fun _ h_=>h_.1))))) (Kd.R_lt (by (with_reducible repeat (first|apply Ra|apply Rn|apply Rd));exact (Kd.R_mono (Kd.R_far (p:=⟨gb683,2,none⟩) (Kd.R_far (p:=⟨gb683,1,none⟩) (Kd.R_far (p:=⟨gb683,0,none⟩) (Kd.R_types HO678.out BK683.out (by decide)) (fun _ hk=>hk.2) (.bool t675)) (fun _ hk=>hk.2) (.slice Ao28 t676.length co28)) (fun _ hk=>hk.2) (.slice Ao29 t679.length co29)) (fun _ h_=>h_.1))))) (Kd.R_lt (by (with_reducible repeat (first|apply Ra|apply Rn|apply Rd));exact (Kd.R_mono (Kd.R_far (p:=⟨gb683,2,none⟩) (Kd.R_far (p:=⟨gb683,1,none⟩) (Kd.R_far (p:=⟨gb683,0,none⟩) (Kd.R_types HO681.out BK683.out (by decide)) (fun _ hk=>hk.2) (.bool t675)) (fun _ hk=>hk.2) (.slice Ao28 t676.length co28)) (fun _ hk=>hk.2) (.slice Ao29 t679.length co29)) (fun _ h_=>h_.1))))) (below_size (by repeat (first|with_reducible exact HB.out|apply ba|apply bn|apply b1|refine below_set ?_ GE674.out|refine below_set ?_ GE683.out))));have n5_:=Aside0.mk (Kd.R_lower (Kd.R_new' (Kd.R_new' (Kd.R_new' (Kd.R_new' ho1 (Kd.R_lt (by (with_reducible repeat (first|apply Ra|apply Rn|apply Rd));exact (Kd.R_mono (Kd.R_far (p:=⟨gb683,2,none⟩) (Kd.R_far (p:=⟨gb683,1,none⟩) (Kd.R_far (p:=⟨gb683,0,none⟩) (Kd.R_types HO669.out BK683.out (by decide)) (fun _ hk=>hk.2) (.bool t675)) (fun _ hk=>hk.2) (.slice Ao28 t676.length co28)) (fun _ hk=>hk.2) (.slice Ao29 t679.length co29)) (fun _ h_=>h_.1))))) (Kd.R_lt (by (with_reducible repeat (first|apply Ra|apply Rn|apply Rd));exact (Kd.R_mono (Kd.R_far (p:=⟨gb683,2,none⟩) (Kd.R_far (p:=⟨gb683,1,none⟩) (Kd.R_far (p:=⟨gb683,0,none⟩) (Kd.R_types HO672.out BK683.out (by decide)) (fun _ hk=>hk.2) (.bool t675)) (fun _ hk=>hk.2) (.slice Ao28 t676.length co28)) (fun _ hk=>hk.2) (.slice Ao29 t679.length co29)) (fun _ h_=>h_.1))))) (Kd.R_lt (by (with_reducible repeat (first|apply Ra|apply Rn|apply Rd));exact (Kd.R_mono (Kd.R_far (p:=⟨gb683,2,none⟩) (Kd.R_far (p:=⟨gb683,1,none⟩) (Kd.R_far (p:=⟨gb683,0,none⟩) (Kd.R_types HO678.out BK683.out (by decide)) (fun _ hk=>hk.2) (.bool t675)) (fun _ hk=>hk.2) (.slice Ao28 t676.length co28)) (fun _ hk=>hk.2) (.slice Ao29 t679.length co29)) (fun _ h_=>h_.1))))) (Kd.R_lt (by (with_reducible repeat (first|apply Ra|apply Rn|apply Rd));exact (Kd.R_mono (Kd.R_far (p:=⟨gb683,2,none⟩) (Kd.R_far (p:=⟨gb683,1,none⟩) (Kd.R_far (p:=⟨gb683,0,none⟩) (Kd.R_types HO681.out BK683.out (by decide)) (fun _ hk=>hk.2) (.bool t675)) (fun _ hk=>hk.2) (.slice Ao28 t676.length co28)) (fun _ hk=>hk.2) (.slice Ao29 t679.length co29)) (fun _ h_=>h_.1))))) (below_size (by repeat (first|with_reducible exact HB.out|apply ba|apply bn|apply b1|refine below_set ?_ GE674.out|refine below_set ?_ GE683.out))));have n6_:=Aside0.mk (blk_below (g:=gb674) (o:=.cells #[.bool t666,.slice Ao22 t667.length co22,.slice Ao23 t670.length co23] 25 (0,0)) (by (with_reducible repeat (first|refine blk_drewN ?_ _|refine blk_drew ?_|refine blk_alloc ?_ _));refine blk_far ?_ NB674_683.out _;(with_reducible repeat (first|refine blk_drewN ?_ _|refine blk_drew ?_|refine blk_alloc ?_ _));refine blk_far ?_ NB674_683.out _;(with_reducible repeat (first|refine blk_drewN ?_ _|refine blk_drew ?_|refine blk_alloc ?_ _));refine blk_far ?_ NB674_683.out _;(with_reducible repeat (first|refine blk_drewN ?_ _|refine blk_drew ?_|refine blk_alloc ?_ _));exact BK674.out) hb);have n7_:=Aside0.mk (blk_below (g:=gb683) (o:=.cells #[.bool t675,.slice Ao28 t676.length co28,.slice Ao29 t679.length co29] 25 (0,0)) (by (with_reducible repeat (first|refine blk_drewN ?_ _|refine blk_drew ?_|refine blk_alloc ?_ _));refine blk_put (cs:=#[.bool t675,.slice Ao28 t676.length co28,.slice none 0 0]) ?_ 2 _ rfl;(with_reducible repeat (first|refine blk_drewN ?_ _|refine blk_drew ?_|refine blk_alloc ?_ _));refine blk_put (cs:=#[.bool t675,.slice none 0 0,.slice none 0 0]) ?_ 1 _ rfl;(with_reducible repeat (first|refine blk_drewN ?_ _|refine blk_drew ?_|refine blk_alloc ?_ _));refine blk_put (cs:=#[.bool false,.slice none 0 0,.slice none 0 0]) ?_ 0 _ rfl;(with_reducible repeat (first|refine blk_drewN ?_ _|refine blk_drew ?_|refine blk_alloc ?_ _));exact BK683.out) hb);have n8_:=Aside0.mk (below_step (by repeat (first|with_reducible exact HB.out|apply ba|apply bn|apply b1|refine below_set ?_ GE674.out|refine below_set ?_ GE683.out)) hb);clear HO669;clear HO672;clear HO678;clear HO681;clear BK674;clear BK683;clear HB;have HO669:=n0_;have HO672:=n1_;have HO678:=n2_;have HO681:=n3_;have HO687:=n4_;have HO690:=n5_;have BK674:=n6_;have BK683:=n7_;have HB:=n8_;clear n0_ n1_ n2_ n3_ n4_ n5_ n6_ n7_ n8_)|((with_reducible refine gate_dst (N:=5) rfl ?_);(try (refine gate_guard (by rfl) ?_;dsimp only));refine box_event ?hg (N:=5) ?hd (cs:=#[.bool false,.slice none 0 0,.slice none 0 0]) (t:=25) ?hr ?_;(case hd=>rfl);(case hg=>rfl);(case hr=>first|(go_simp;done)|(go_simp;(with_reducible rfl))|(go_simp;rfl)|(go_simp;simp only [hu,Int.emod_sub_emod]));intro gb692 hg w31 hbox hb;have n0_:=Aside0.mk (Kd.R_below (Ru HO669.out) hb);have n1_:=Aside0.mk (Kd.R_below (Ru HO672.out) hb);have n2_:=Aside0.mk (Kd.R_below (Ru HO678.out) hb);have n3_:=Aside0.mk (Kd.R_below (Ru HO681.out) hb);have n4_:=Aside0.mk (Kd.R_below (Ru HO687.out) hb);have n5_:=Aside0.mk (Kd.R_below (Ru HO690.out) hb);have n6_:=Aside0.mk (blk_below (g:=gb674) (o:=.cells #[.bool t666,.slice Ao22 t667.length co22,.slice Ao23 t670.length co23] 25 (0,0)) (Bu BK674.out) hb);have n7_:=Aside0.mk (blk_below (g:=gb683) (o:=.cells #[.bool t675,.slice Ao28 t676.length co28,.slice Ao29 t679.length co29] 25 (0,0)) (Bu BK683.out) hb);have n8_:=Aside0.mk (below_step (by repeat (first|with_reducible exact HB.out|apply ba|apply bn|apply b1|refine below_set ?_ GE674.out|refine below_set ?_ GE683.out)) hb);have n9_:=Aside0.mk (hbox);have n10_:=Aside0.mk ((by rw [hg];exact (below_size (by repeat (first|with_reducible exact HB.out|apply ba|apply bn|apply b1|refine below_set ?_ GE674.out|refine below_set ?_ GE683.out))) : w.heap.size≤gb692));have n11_:=Aside0.mk ((by rw [hg];exact (below_size (by repeat (first|with_reducible exact HB.out|apply ba|apply bn|apply b1|refine below_set ?_ GE674.out|refine below_set ?_ GE683.out))) : w.heap.size≤gb692));have n12_:=Aside0.mk ((by rw [hg];exact Nat.ne_of_lt (blk_lt (g:=gb674) (o:=.cells #[.bool t666,.slice Ao22 t667.length co22,.slice Ao23 t670.length co23] 25 (0,0)) (Bu BK674.out)) : gb674≠gb692));have n13_:=Aside0.mk ((by rw [hg];exact Nat.ne_of_gt (blk_lt (g:=gb674) (o:=.cells #[.bool t666,.slice Ao22 t667.length co22,.slice Ao23 t670.length co23] 25 (0,0)) (Bu BK674.out)) : gb692≠gb674));have n14_:=Aside0.mk ((by rw [hg];exact Nat.ne_of_lt (blk_lt (g:=gb683) (o:=.cells #[.bool t675,.slice Ao28 t676.length co28,.slice Ao29 t679.length co29] 25 (0,0)) (Bu BK683.out)) : gb683≠gb692));have n15_:=Aside0.mk ((by rw [hg];exact Nat.ne_of_gt (blk_lt (g:=gb683) (o:=.cells #[.bool t675,.slice Ao28 t676.length co28,.slice Ao29 t679.length co29] 25 (0,0)) (Bu BK683.out)) : gb692≠gb683));clear HO669;clear HO672;clear HO678;clear HO681;clear HO687;clear HO690;clear BK674;clear BK683;clear HB;have HO669:=n0_;have HO672:=n1_;have HO678:=n2_;have HO681:=n3_;have HO687:=n4_;have HO690:=n5_;have BK674:=n6_;have BK683:=n7_;have HB:=n8_;have BK692:=n9_;have GW692:=n10_;have GE692:=n11_;have NB674_692:=n12_;have NB692_674:=n13_;have NB683_692:=n14_;have NB692_683:=n15_;clear n0_ n1_ n2_ n3_ n4_ n5_ n6_ n7_ n8_ n9_ n10_ n11_ n12_ n13_ n14_ n15_;clear hb hbox hg;have hnb32:=NB692_674.out;have hnc32:=NB674_692.out;have hnb33:=NB692_683.out;have hnc33:=NB683_692.out;have hcz34_0 : w31.cell? ⟨gb692,0,none⟩=some (.bool false):=(blk_cell BK692.out 0).trans rfl;have hcz34_1 : w31.cell? ⟨gb692,1,none⟩=some (.slice none 0 0):=(blk_cell BK692.out 1).trans rfl;have hcz34_2 : w31.cell? ⟨gb692,2,none⟩=some (.slice none 0 0):=(blk_cell BK692.out 2).trans rfl;have hfz34_0:=blk_frozen BK692.out 0;have hfz34_1:=blk_frozen BK692.out 1;have hfz34_2:=blk_frozen BK692.out 2;obtain ⟨Ao35,co35,eo35⟩:=Kd.R_slice HO687.out;subst eo35;obtain ⟨Ao36,co36,eo36⟩:=Kd.R_slice HO690.out;subst eo36)|((with_reducible refine gate_callee (f:=9) rfl ?_);refine goesL_ (some 22) rfl rfl Tryd.func9 (by kernel_rfl) rfl #[.string (⟨#[49,46]⟩ : ByteArray)] rfl (by (try simp only [List.map_toArray,List.map_cons,List.map_nil]);first|done|rfl) ?_;(with_reducible refine (decimal_Parse.calls k (⟨#[49,46]⟩ : ByteArray) t693 t694 t697 t700 _ A4.out).mono ?_);rintro e w37 ⟨v695,v698,rfl,ho0,ho1,hb⟩;refine ⟨_,rfl,?_⟩;have n0_:=Aside0.mk (Kd.R_mono (Kd.R_told (Kd.R_told (Kd.R_old (by (with_reducible repeat (first|apply Ra|apply Rn|apply Rd));exact (Kd.R_mono (Kd.R_far (p:=⟨gb692,2,none⟩) (Kd.R_far (p:=⟨gb692,1,none⟩) (Kd.R_far (p:=⟨gb692,0,none⟩) (Kd.R_types HO669.out BK692.out (by decide)) (fun _ hk=>hk.2) (.bool t684)) (fun _ hk=>hk.2) (.slice Ao35 t685.length co35)) (fun _ hk=>hk.2) (.slice Ao36 t688.length co36)) (fun _ h_=>h_.1))) hb) (Kd.R_base ho0)) (Kd.R_base ho1)) (fun _ h_=>h_.1));have n1_:=Aside0.mk (Kd.R_mono (Kd.R_told (Kd.R_told (Kd.R_old (by (with_reducible repeat (first|apply Ra|apply Rn|apply Rd));exact (Kd.R_mono (Kd.R_far (p:=⟨gb692,2,none⟩) (Kd.R_far (p:=⟨gb692,1,none⟩) (Kd.R_far (p:=⟨gb692,0,none⟩) (Kd.R_types HO672.out BK692.out (by decide)) (fun _ hk=>hk.2) (.bool t684)) (fun _ hk=>hk.2) (.slice Ao35 t685.length co35)) (fun _ hk=>hk.2) (.slice Ao36 t688.length co36)) (fun _ h_=>h_.1))) hb) (Kd.R_base ho0)) (Kd.R_base ho1)) (fun _ h_=>h_.1));have n2_:=Aside0.mk (Kd.R_mono (Kd.R_told (Kd.R_told (Kd.R_old (by (with_reducible repeat (first|apply Ra|apply Rn|apply Rd));exact (Kd.R_mono (Kd.R_far (p:=⟨gb692,2,none⟩) (Kd.R_far (p:=⟨gb692,1,none⟩) (Kd.R_far (p:=⟨gb692,0,none⟩) (Kd.R_types HO678.out BK692.out (by decide)) (fun _ hk=>hk.2) (.bool t684)) (fun _ hk=>hk.2) (.slice Ao35 t685.length co35)) (fun _ hk=>hk.2) (.slice Ao36 t688.length co36)) (fun _ h_=>h_.1))) hb) (Kd.R_base ho0)) (Kd.R_base ho1)) (fun _ h_=>h_.1));have n3_:=Aside0.mk (Kd.R_mono (Kd.R_told (Kd.R_told (Kd.R_old (by (with_reducible repeat (first|apply Ra|apply Rn|apply Rd));exact (Kd.R_mono (Kd.R_far (p:=⟨gb692,2,none⟩) (Kd.R_far (p:=⟨gb692,1,none⟩) (Kd.R_far (p:=⟨gb692,0,none⟩) (Kd.R_types HO681.out BK692.out (by decide)) (fun _ hk=>hk.2) (.bool t684)) (fun _ hk=>hk.2) (.slice Ao35 t685.length co35)) (fun _ hk=>hk.2) (.slice Ao36 t688.length co36)) (fun _ h_=>h_.1))) hb) (Kd.R_base ho0)) (Kd.R_base ho1)) (fun _ h_=>h_.1));have n4_:=Aside0.mk (Kd.R_mono (Kd.R_told (Kd.R_told (Kd.R_old (by (with_reducible repeat (first|apply Ra|apply Rn|apply Rd));exact (Kd.R_mono (Kd.R_far (p:=⟨gb692,2,none⟩) (Kd.R_far (p:=⟨gb692,1,none⟩) (Kd.R_far (p:=⟨gb692,0,none⟩) (Kd.R_types HO687.out BK692.out (by decide)) (fun _ hk=>hk.2) (.bool t684)) (fun _ hk=>hk.2) (.slice Ao35 t685.length co35)) (fun _ hk=>hk.2) (.slice Ao36 t688.length co36)) (fun _ h_=>h_.1))) hb) (Kd.R_base ho0)) (Kd.R_base ho1)) (fun _ h_=>h_.1));have n5_:=Aside0.mk (Kd.R_mono (Kd.R_told (Kd.R_told (Kd.R_old (by (with_reducible repeat (first|apply Ra|apply Rn|apply Rd));exact (Kd.R_mono (Kd.R_far (p:=⟨gb692,2,none⟩) (Kd.R_far (p:=⟨gb692,1,none⟩) (Kd.R_far (p:=⟨gb692,0,none⟩) (Kd.R_types HO690.out BK692.out (by decide)) (fun _ hk=>hk.2) (.bool t684)) (fun _ hk=>hk.2) (.slice Ao35 t685.length co35)) (fun _ hk=>hk.2) (.slice Ao36 t688.length co36)) (fun _ h_=>h_.1))) hb) (Kd.R_base ho0)) (Kd.R_base ho1)) (fun _ h_=>h_.1));have n6_:=Aside0.mk (Kd.R_lower (Kd.R_new' (Kd.R_new' (Kd.R_new' (Kd.R_new' (Kd.R_new' (Kd.R_new' ho0 (Kd.R_lt (by (with_reducible repeat (first|apply Ra|apply Rn|apply Rd));exact (Kd.R_mono (Kd.R_far (p:=⟨gb692,2,none⟩) (Kd.R_far (p:=⟨gb692,1,none⟩) (Kd.R_far (p:=⟨gb692,0,none⟩) (Kd.R_types HO669.out BK692.out (by decide)) (fun _ hk=>hk.2) (.bool t684)) (fun _ hk=>hk.2) (.slice Ao35 t685.length co35)) (fun _ hk=>hk.2) (.slice Ao36 t688.length co36)) (fun _ h_=>h_.1))))) (Kd.R_lt (by (with_reducible repeat (first|apply Ra|apply Rn|apply Rd));exact (Kd.R_mono (Kd.R_far (p:=⟨gb692,2,none⟩) (Kd.R_far (p:=⟨gb692,1,none⟩) (Kd.R_far (p:=⟨gb692,0,none⟩) (Kd.R_types HO672.out BK692.out (by decide)) (fun _ hk=>hk.2) (.bool t684)) (fun _ hk=>hk.2) (.slice Ao35 t685.length co35)) (fun _ hk=>hk.2) (.slice Ao36 t688.length co36)) (fun _ h_=>h_.1))))) (Kd.R_lt (by (with_reducible repeat (first|apply Ra|apply Rn|apply Rd));exact (Kd.R_mono (Kd.R_far (p:=⟨gb692,2,none⟩) (Kd.R_far (p:=⟨gb692,1,none⟩) (Kd.R_far (p:=⟨gb692,0,none⟩) (Kd.R_types HO678.out BK692.out (by decide)) (fun _ hk=>hk.2) (.bool t684)) (fun _ hk=>hk.2) (.slice Ao35 t685.length co35)) (fun _ hk=>hk.2) (.slice Ao36 t688.length co36)) (fun _ h_=>h_.1))))) (Kd.R_lt (by (with_reducible repeat (first|apply Ra|apply Rn|apply Rd));exact (Kd.R_mono (Kd.R_far (p:=⟨gb692,2,none⟩) (Kd.R_far (p:=⟨gb692,1,none⟩) (Kd.R_far (p:=⟨gb692,0,none⟩) (Kd.R_types HO681.out BK692.out (by decide)) (fun _ hk=>hk.2) (.bool t684)) (fun _ hk=>hk.2) (.slice Ao35 t685.length co35)) (fun _ hk=>hk.2) (.slice Ao36 t688.length co36)) (fun _ h_=>h_.1))))) (Kd.R_lt (by (with_reducible repeat (first|apply Ra|apply Rn|apply Rd));exact (Kd.R_mono (Kd.R_far (p:=⟨gb692,2,none⟩) (Kd.R_far (p:=⟨gb692,1,none⟩) (Kd.R_far (p:=⟨gb692,0,none⟩) (Kd.R_types HO687.out BK692.out (by decide)) (fun _ hk=>hk.2) (.bool t684)) (fun _ hk=>hk.2) (.slice Ao35 t685.length co35)) (fun _ hk=>hk.2) (.slice Ao36 t688.length co36)) (fun _ h_=>h_.1))))) (Kd.R_lt (by (with_reducible repeat (first|apply Ra|apply Rn|apply Rd));exact (Kd.R_mono (Kd.R_far (p:=⟨gb692,2,none⟩) (Kd.R_far (p:=⟨gb692,1,none⟩) (Kd.R_far (p:=⟨gb692,0,none⟩) (Kd.R_types HO690.out BK692.out (by decide)) (fun _ hk=>hk.2) (.bool t684)) (fun _ hk=>hk.2) (.slice Ao35 t685.length co35)) (fun _ hk=>hk.2) (.slice Ao36 t688.length co36)) (fun _ h_=>h_.1))))) (below_size (by repeat (first|with_reducible exact HB.out|apply ba|apply bn|apply b1|refine below_set ?_ GE674.out|refine below_set ?_ GE683.out|refine below_set ?_ GE692.out))));have n7_:=Aside0.mk (Kd.R_lower (Kd.R_new' (Kd.R_new' (Kd.R_new' (Kd.R_new' (Kd.R_new' (Kd.R_new' ho1 (Kd.R_lt (by (with_reducible repeat (first|apply Ra|apply Rn|apply Rd));exact (Kd.R_mono (Kd.R_far (p:=⟨gb692,2,none⟩) (Kd.R_far (p:=⟨gb692,1,none⟩) (Kd.R_far (p:=⟨gb692,0,none⟩) (Kd.R_types HO669.out BK692.out (by decide)) (fun _ hk=>hk.2) (.bool t684)) (fun _ hk=>hk.2) (.slice Ao35 t685.length co35)) (fun _ hk=>hk.2) (.slice Ao36 t688.length co36)) (fun _ h_=>h_.1))))) (Kd.R_lt (by (with_reducible repeat (first|apply Ra|apply Rn|apply Rd));exact (Kd.R_mono (Kd.R_far (p:=⟨gb692,2,none⟩) (Kd.R_far (p:=⟨gb692,1,none⟩) (Kd.R_far (p:=⟨gb692,0,none⟩) (Kd.R_types HO672.out BK692.out (by decide)) (fun _ hk=>hk.2) (.bool t684)) (fun _ hk=>hk.2) (.slice Ao35 t685.length co35)) (fun _ hk=>hk.2) (.slice Ao36 t688.length co36)) (fun _ h_=>h_.1))))) (Kd.R_lt (by (with_reducible repeat (first|apply Ra|apply Rn|apply Rd));exact (Kd.R_mono (Kd.R_far (p:=⟨gb692,2,none⟩) (Kd.R_far (p:=⟨gb692,1,none⟩) (Kd.R_far (p:=⟨gb692,0,none⟩) (Kd.R_types HO678.out BK692.out (by decide)) (fun _ hk=>hk.2) (.bool t684)) (fun _ hk=>hk.2) (.slice Ao35 t685.length co35)) (fun _ hk=>hk.2) (.slice Ao36 t688.length co36)) (fun _ h_=>h_.1))))) (Kd.R_lt (by (with_reducible repeat (first|apply Ra|apply Rn|apply Rd));exact (Kd.R_mono (Kd.R_far (p:=⟨gb692,2,none⟩) (Kd.R_far (p:=⟨gb692,1,none⟩) (Kd.R_far (p:=⟨gb692,0,none⟩) (Kd.R_types HO681.out BK692.out (by decide)) (fun _ hk=>hk.2) (.bool t684)) (fun _ hk=>hk.2) (.slice Ao35 t685.length co35)) (fun _ hk=>hk.2) (.slice Ao36 t688.length co36)) (fun _ h_=>h_.1))))) (Kd.R_lt (by (with_reducible repeat (first|apply Ra|apply Rn|apply Rd));exact (Kd.R_mono (Kd.R_far (p:=⟨gb692,2,none⟩) (Kd.R_far (p:=⟨gb692,1,none⟩) (Kd.R_far (p:=⟨gb692,0,none⟩) (Kd.R_types HO687.out BK692.out (by decide)) (fun _ hk=>hk.2) (.bool t684)) (fun _ hk=>hk.2) (.slice Ao35 t685.length co35)) (fun _ hk=>hk.2) (.slice Ao36 t688.length co36)) (fun _ h_=>h_.1))))) (Kd.R_lt (by (with_reducible repeat (first|apply Ra|apply Rn|apply Rd));exact (Kd.R_mono (Kd.R_far (p:=⟨gb692,2,none⟩) (Kd.R_far (p:=⟨gb692,1,none⟩) (Kd.R_far (p:=⟨gb692,0,none⟩) (Kd.R_types HO690.out BK692.out (by decide)) (fun _ hk=>hk.2) (.bool t684)) (fun _ hk=>hk.2) (.slice Ao35 t685.length co35)) (fun _ hk=>hk.2) (.slice Ao36 t688.length co36)) (fun _ h_=>h_.1))))) (below_size (by repeat (first|with_reducible exact HB.out|apply ba|apply bn|apply b1|refine below_set ?_ GE674.out|refine below_set ?_ GE683.out|refine below_set ?_ GE692.out))));have n8_:=Aside0.mk (blk_below (g:=gb674) (o:=.cells #[.bool t666,.slice Ao22 t667.length co22,.slice Ao23 t670.length co23] 25 (0,0)) (by (with_reducible repeat (first|refine blk_drewN ?_ _|refine blk_drew ?_|refine blk_alloc ?_ _));refine blk_far ?_ NB674_692.out _;(with_reducible repeat (first|refine blk_drewN ?_ _|refine blk_drew ?_|refine blk_alloc ?_ _));refine blk_far ?_ NB674_692.out _;(with_reducible repeat (first|refine blk_drewN ?_ _|refine blk_drew ?_|refine blk_alloc ?_ _));refine blk_far ?_ NB674_692.out _;(with_reducible repeat (first|refine blk_drewN ?_ _|refine blk_drew ?_|refine blk_alloc ?_ _));exact BK674.out) hb);have n9_:=Aside0.mk (blk_below (g:=gb683) (o:=.cells #[.bool t675,.slice Ao28 t676.length co28,.slice Ao29 t679.length co29] 25 (0,0)) (by (with_reducible repeat (first|refine blk_drewN ?_ _|refine blk_drew ?_|refine blk_alloc ?_ _));refine blk_far ?_ NB683_692.out _;(with_reducible repeat (first|refine blk_drewN ?_ _|refine blk_drew ?_|refine blk_alloc ?_ _));refine blk_far ?_ NB683_692.out _;(with_reducible repeat (first|refine blk_drewN ?_ _|refine blk_drew ?_|refine blk_alloc ?_ _));refine blk_far ?_ NB683_692.out _;(with_reducible repeat (first|refine blk_drewN ?_ _|refine blk_drew ?_|refine blk_alloc ?_ _));exact BK683.out) hb);have n10_:=Aside0.mk (blk_below (g:=gb692) (o:=.cells #[.bool t684,.slice Ao35 t685.length co35,.slice Ao36 t688.length co36] 25 (0,0)) (by (with_reducible repeat (first|refine blk_drewN ?_ _|refine blk_drew ?_|refine blk_alloc ?_ _));refine blk_put (cs:=#[.bool t684,.slice Ao35 t685.length co35,.slice none 0 0]) ?_ 2 _ rfl;(with_reducible repeat (first|refine blk_drewN ?_ _|refine blk_drew ?_|refine blk_alloc ?_ _));refine blk_put (cs:=#[.bool t684,.slice none 0 0,.slice none 0 0]) ?_ 1 _ rfl;(with_reducible repeat (first|refine blk_drewN ?_ _|refine blk_drew ?_|refine blk_alloc ?_ _));refine blk_put (cs:=#[.bool false,.slice none 0 0,.slice none 0 0]) ?_ 0 _ rfl;(with_reducible repeat (first|refine blk_drewN ?_ _|refine blk_drew ?_|refine blk_alloc ?_ _));exact BK692.out) hb);have n11_:=Aside0.mk (below_step (by repeat (first|with_reducible exact HB.out|apply ba|apply bn|apply b1|refine below_set ?_ GE674.out|refine below_set ?_ GE683.out|refine below_set ?_ GE692.out)) hb);clear HO669;clear HO672;clear HO678;clear HO681;clear HO687;clear HO690;clear BK674;clear BK683;clear BK692;clear HB;have HO669:=n0_;have HO672:=n1_;have HO678:=n2_;have HO681:=n3_;have HO687:=n4_;have HO690:=n5_;have HO696:=n6_;have HO699:=n7_;have BK674:=n8_;have BK683:=n9_;have BK692:=n10_;have HB:=n11_;clear n0_ n1_ n2_ n3_ n4_ n5_ n6_ n7_ n8_ n9_ n10_ n11_)|((with_reducible refine gate_dst (N:=7) rfl ?_);(try (refine gate_guard (by rfl) ?_;dsimp only));refine box_event ?hg (N:=7) ?hd (cs:=#[.bool false,.slice none 0 0,.slice none 0 0]) (t:=25) ?hr ?_;(case hd=>rfl);(case hg=>rfl);(case hr=>first|(go_simp;done)|(go_simp;(with_reducible rfl))|(go_simp;rfl)|(go_simp;simp only [hu,Int.emod_sub_emod]));intro gb701 hg w38 hbox hb;have n0_:=Aside0.mk (Kd.R_below (Ru HO669.out) hb);have n1_:=Aside0.mk (Kd.R_below (Ru HO672.out) hb);have n2_:=Aside0.mk (Kd.R_below (Ru HO678.out) hb);have n3_:=Aside0.mk (Kd.R_below (Ru HO681.out) hb);have n4_:=Aside0.mk (Kd.R_below (Ru HO687.out) hb);have n5_:=Aside0.mk (Kd.R_below (Ru HO690.out) hb);have n6_:=Aside0.mk (Kd.R_below (Ru HO696.out) hb);have n7_:=Aside0.mk (Kd.R_below (Ru HO699.out) hb);have n8_:=Aside0.mk (blk_below (g:=gb674) (o:=.cells #[.bool t666,.slice Ao22 t667.length co22,.slice Ao23 t670.length co23] 25 (0,0)) (Bu BK674.out) hb);have n9_:=Aside0.mk (blk_below (g:=gb683) (o:=.cells #[.bool t675,.slice Ao28 t676.length co28,.slice Ao29 t679.length co29] 25 (0,0)) (Bu BK683.out) hb);have n10_:=Aside0.mk (blk_below (g:=gb692) (o:=.cells #[.bool t684,.slice Ao35 t685.length co35,.slice Ao36 t688.length co36] 25 (0,0)) (Bu BK692.out) hb);have n11_:=Aside0.mk (below_step (by repeat (first|with_reducible exact HB.out|apply ba|apply bn|apply b1|refine below_set ?_ GE674.out|refine below_set ?_ GE683.out|refine below_set ?_ GE692.out)) hb);have n12_:=Aside0.mk (hbox);have n13_:=Aside0.mk ((by rw [hg];exact (below_size (by repeat (first|with_reducible exact HB.out|apply ba|apply bn|apply b1|refine below_set ?_ GE674.out|refine below_set ?_ GE683.out|refine below_set ?_ GE692.out))) : w.heap.size≤gb701));have n14_:=Aside0.mk ((by rw [hg];exact (below_size (by repeat (first|with_reducible exact HB.out|apply ba|apply bn|apply b1|refine below_set ?_ GE674.out|refine below_set ?_ GE683.out|refine below_set ?_ GE692.out))) : w.heap.size≤gb701));have n15_:=Aside0.mk ((by rw [hg];exact Nat.ne_of_lt (blk_lt (g:=gb674) (o:=.cells #[.bool t666,.slice Ao22 t667.length co22,.slice Ao23 t670.length co23] 25 (0,0)) (Bu BK674.out)) : gb674≠gb701));have n16_:=Aside0.mk ((by rw [hg];exact Nat.ne_of_gt (blk_lt (g:=gb674) (o:=.cells #[.bool t666,.slice Ao22 t667.length co22,.slice Ao23 t670.length co23] 25 (0,0)) (Bu BK674.out)) : gb701≠gb674));have n17_:=Aside0.mk ((by rw [hg];exact Nat.ne_of_lt (blk_lt (g:=gb683) (o:=.cells #[.bool t675,.slice Ao28 t676.length co28,.slice Ao29 t679.length co29] 25 (0,0)) (Bu BK683.out)) : gb683≠gb701));have n18_:=Aside0.mk ((by rw [hg];exact Nat.ne_of_gt (blk_lt (g:=gb683) (o:=.cells #[.bool t675,.slice Ao28 t676.length co28,.slice Ao29 t679.length co29] 25 (0,0)) (Bu BK683.out)) : gb701≠gb683));have n19_:=Aside0.mk ((by rw [hg];exact Nat.ne_of_lt (blk_lt (g:=gb692) (o:=.cells #[.bool t684,.slice Ao35 t685.length co35,.slice Ao36 t688.length co36] 25 (0,0)) (Bu BK692.out)) : gb692≠gb701));have n20_:=Aside0.mk ((by rw [hg];exact Nat.ne_of_gt (blk_lt (g:=gb692) (o:=.cells #[.bool t684,.slice Ao35 t685.length co35,.slice Ao36 t688.length co36] 25 (0,0)) (Bu BK692.out)) : gb701≠gb692));clear HO669;clear HO672;clear HO678;clear HO681;clear HO687;clear HO690;clear HO696;clear HO699;clear BK674;clear BK683;clear BK692;clear HB;have HO669:=n0_;have HO672:=n1_;have HO678:=n2_;have HO681:=n3_;have HO687:=n4_;have HO690:=n5_;have HO696:=n6_;have HO699:=n7_;have BK674:=n8_;have BK683:=n9_;have BK692:=n10_;have HB:=n11_;have BK701:=n12_;have GW701:=n13_;have GE701:=n14_;have NB674_701:=n15_;have NB701_674:=n16_;have NB683_701:=n17_;have NB701_683:=n18_;have NB692_701:=n19_;have NB701_692:=n20_;clear n0_ n1_ n2_ n3_ n4_ n5_ n6_ n7_ n8_ n9_ n10_ n11_ n12_ n13_ n14_ n15_ n16_ n17_ n18_ n19_ n20_;clear hb hbox hg;have hnb39:=NB701_674.out;have hnc39:=NB674_701.out;have hnb40:=NB701_683.out;have hnc40:=NB683_701.out;have hnb41:=NB701_692.out;have hnc41:=NB692_701.out;have hcz42_0 : w38.cell? ⟨gb701,0,none⟩=some (.bool false):=(blk_cell BK701.out 0).trans rfl;have hcz42_1 : w38.cell? ⟨gb701,1,none⟩=some (.slice none 0 0):=(blk_cell BK701.out 1).trans rfl;have hcz42_2 : w38.cell? ⟨gb701,2,none⟩=some (.slice none 0 0):=(blk_cell BK701.out 2).trans rfl;have hfz42_0:=blk_frozen BK701.out 0;have hfz42_1:=blk_frozen BK701.out 1;have hfz42_2:=blk_frozen BK701.out 2;obtain ⟨Ao43,co43,eo43⟩:=Kd.R_slice HO696.out;subst eo43;obtain ⟨Ao44,co44,eo44⟩:=Kd.R_slice HO699.out;subst eo44))
   have n0_ : Aside0 (Kd.R (Kd.int .u32) 35 (((w38.setCell ⟨gb701,0,none⟩ (.bool t693)).setCell ⟨gb701,1,none⟩ (.slice Ao43 t694.length co43)).setCell ⟨gb701,2,none⟩ (.slice Ao44 t697.length co44)) w.heap.size (fun k_=>some k_≠(.slice Ao23 t670.length co23 : Value).ownBlock∧some k_≠(.slice Ao28 t676.length co28 : Value).ownBlock∧some k_≠(.slice Ao29 t679.length co29 : Value).ownBlock∧some k_≠(.slice Ao35 t685.length co35 : Value).ownBlock∧some k_≠(.slice Ao36 t688.length co36 : Value).ownBlock∧some k_≠(.slice Ao43 t694.length co43 : Value).ownBlock∧some k_≠(.slice Ao44 t697.length co44 : Value).ownBlock) (.slice Ao22 t667.length co22) t667):=⟨by (with_reducible repeat (first|apply Ra|apply Rn|apply Rd));exact Kd.R_mono (Kd.R_far (p:=⟨gb701,2,none⟩) (Kd.R_far (p:=⟨gb701,1,none⟩) (Kd.R_far (p:=⟨gb701,0,none⟩) (Kd.R_types HO669.out BK701.out (by decide)) (fun _ hk=>hk.2) (.bool t693)) (fun _ hk=>hk.2) (.slice Ao43 t694.length co43)) (fun _ hk=>hk.2) (.slice Ao44 t697.length co44)) (fun _ hk=>⟨hk.1.1.1.1.1.1.1,⟨hk.1.1.1.1.1.1.2,⟨hk.1.1.1.1.1.2,⟨hk.1.1.1.1.2,⟨hk.1.1.1.2,⟨hk.1.1.2,hk.1.2⟩⟩⟩⟩⟩⟩)⟩
   have n1_ : Aside0 (Kd.R (Kd.int .u32) 35 (((w38.setCell ⟨gb701,0,none⟩ (.bool t693)).setCell ⟨gb701,1,none⟩ (.slice Ao43 t694.length co43)).setCell ⟨gb701,2,none⟩ (.slice Ao44 t697.length co44)) w.heap.size (fun k_=>some k_≠(.slice Ao22 t667.length co22 : Value).ownBlock∧some k_≠(.slice Ao28 t676.length co28 : Value).ownBlock∧some k_≠(.slice Ao29 t679.length co29 : Value).ownBlock∧some k_≠(.slice Ao35 t685.length co35 : Value).ownBlock∧some k_≠(.slice Ao36 t688.length co36 : Value).ownBlock∧some k_≠(.slice Ao43 t694.length co43 : Value).ownBlock∧some k_≠(.slice Ao44 t697.length co44 : Value).ownBlock) (.slice Ao23 t670.length co23) t670):=⟨by (with_reducible repeat (first|apply Ra|apply Rn|apply Rd));exact Kd.R_mono (Kd.R_far (p:=⟨gb701,2,none⟩) (Kd.R_far (p:=⟨gb701,1,none⟩) (Kd.R_far (p:=⟨gb701,0,none⟩) (Kd.R_types HO672.out BK701.out (by decide)) (fun _ hk=>hk.2) (.bool t693)) (fun _ hk=>hk.2) (.slice Ao43 t694.length co43)) (fun _ hk=>hk.2) (.slice Ao44 t697.length co44)) (fun _ hk=>⟨hk.1.1.1.1.1.1.1,⟨hk.1.1.1.1.1.1.2,⟨hk.1.1.1.1.1.2,⟨hk.1.1.1.1.2,⟨hk.1.1.1.2,⟨hk.1.1.2,hk.1.2⟩⟩⟩⟩⟩⟩)⟩
   have n2_ : Aside0 (Kd.R (Kd.int .u32) 35 (((w38.setCell ⟨gb701,0,none⟩ (.bool t693)).setCell ⟨gb701,1,none⟩ (.slice Ao43 t694.length co43)).setCell ⟨gb701,2,none⟩ (.slice Ao44 t697.length co44)) w.heap.size (fun k_=>some k_≠(.slice Ao22 t667.length co22 : Value).ownBlock∧some k_≠(.slice Ao23 t670.length co23 : Value).ownBlock∧some k_≠(.slice Ao29 t679.length co29 : Value).ownBlock∧some k_≠(.slice Ao35 t685.length co35 : Value).ownBlock∧some k_≠(.slice Ao36 t688.length co36 : Value).ownBlock∧some k_≠(.slice Ao43 t694.length co43 : Value).ownBlock∧some k_≠(.slice Ao44 t697.length co44 : Value).ownBlock) (.slice Ao28 t676.length co28) t676):=⟨by (with_reducible repeat (first|apply Ra|apply Rn|apply Rd));exact Kd.R_mono (Kd.R_far (p:=⟨gb701,2,none⟩) (Kd.R_far (p:=⟨gb701,1,none⟩) (Kd.R_far (p:=⟨gb701,0,none⟩) (Kd.R_types HO678.out BK701.out (by decide)) (fun _ hk=>hk.2) (.bool t693)) (fun _ hk=>hk.2) (.slice Ao43 t694.length co43)) (fun _ hk=>hk.2) (.slice Ao44 t697.length co44)) (fun _ hk=>⟨hk.1.1.1.1.1.1.2,⟨hk.1.1.1.1.1.2,⟨hk.1.1.1.1.1.1.1,⟨hk.1.1.1.1.2,⟨hk.1.1.1.2,⟨hk.1.1.2,hk.1.2⟩⟩⟩⟩⟩⟩)⟩
   have n3_ : Aside0 (Kd.R (Kd.int .u32) 35 (((w38.setCell ⟨gb701,0,none⟩ (.bool t693)).setCell ⟨gb701,1,none⟩ (.slice Ao43 t694.length co43)).setCell ⟨gb701,2,none⟩ (.slice Ao44 t697.length co44)) w.heap.size (fun k_=>some k_≠(.slice Ao22 t667.length co22 : Value).ownBlock∧some k_≠(.slice Ao23 t670.length co23 : Value).ownBlock∧some k_≠(.slice Ao28 t676.length co28 : Value).ownBlock∧some k_≠(.slice Ao35 t685.length co35 : Value).ownBlock∧some k_≠(.slice Ao36 t688.length co36 : Value).ownBlock∧some k_≠(.slice Ao43 t694.length co43 : Value).ownBlock∧some k_≠(.slice Ao44 t697.length co44 : Value).ownBlock) (.slice Ao29 t679.length co29) t679):=⟨by (with_reducible repeat (first|apply Ra|apply Rn|apply Rd));exact Kd.R_mono (Kd.R_far (p:=⟨gb701,2,none⟩) (Kd.R_far (p:=⟨gb701,1,none⟩) (Kd.R_far (p:=⟨gb701,0,none⟩) (Kd.R_types HO681.out BK701.out (by decide)) (fun _ hk=>hk.2) (.bool t693)) (fun _ hk=>hk.2) (.slice Ao43 t694.length co43)) (fun _ hk=>hk.2) (.slice Ao44 t697.length co44)) (fun _ hk=>⟨hk.1.1.1.1.1.1.2,⟨hk.1.1.1.1.1.2,⟨hk.1.1.1.1.1.1.1,⟨hk.1.1.1.1.2,⟨hk.1.1.1.2,⟨hk.1.1.2,hk.1.2⟩⟩⟩⟩⟩⟩)⟩
   have n4_ : Aside0 (Kd.R (Kd.int .u32) 35 (((w38.setCell ⟨gb701,0,none⟩ (.bool t693)).setCell ⟨gb701,1,none⟩ (.slice Ao43 t694.length co43)).setCell ⟨gb701,2,none⟩ (.slice Ao44 t697.length co44)) w.heap.size (fun k_=>some k_≠(.slice Ao22 t667.length co22 : Value).ownBlock∧some k_≠(.slice Ao23 t670.length co23 : Value).ownBlock∧some k_≠(.slice Ao28 t676.length co28 : Value).ownBlock∧some k_≠(.slice Ao29 t679.length co29 : Value).ownBlock∧some k_≠(.slice Ao36 t688.length co36 : Value).ownBlock∧some k_≠(.slice Ao43 t694.length co43 : Value).ownBlock∧some k_≠(.slice Ao44 t697.length co44 : Value).ownBlock) (.slice Ao35 t685.length co35) t685):=⟨by (with_reducible repeat (first|apply Ra|apply Rn|apply Rd));exact Kd.R_mono (Kd.R_far (p:=⟨gb701,2,none⟩) (Kd.R_far (p:=⟨gb701,1,none⟩) (Kd.R_far (p:=⟨gb701,0,none⟩) (Kd.R_types HO687.out BK701.out (by decide)) (fun _ hk=>hk.2) (.bool t693)) (fun _ hk=>hk.2) (.slice Ao43 t694.length co43)) (fun _ hk=>hk.2) (.slice Ao44 t697.length co44)) (fun _ hk=>⟨hk.1.1.1.1.1.1.2,⟨hk.1.1.1.1.1.2,⟨hk.1.1.1.1.2,⟨hk.1.1.1.2,⟨hk.1.1.1.1.1.1.1,⟨hk.1.1.2,hk.1.2⟩⟩⟩⟩⟩⟩)⟩
   have n5_ : Aside0 (Kd.R (Kd.int .u32) 35 (((w38.setCell ⟨gb701,0,none⟩ (.bool t693)).setCell ⟨gb701,1,none⟩ (.slice Ao43 t694.length co43)).setCell ⟨gb701,2,none⟩ (.slice Ao44 t697.length co44)) w.heap.size (fun k_=>some k_≠(.slice Ao22 t667.length co22 : Value).ownBlock∧some k_≠(.slice Ao23 t670.length co23 : Value).ownBlock∧some k_≠(.slice Ao28 t676.length co28 : Value).ownBlock∧some k_≠(.slice Ao29 t679.length co29 : Value).ownBlock∧some k_≠(.slice Ao35 t685.length co35 : Value).ownBlock∧some k_≠(.slice Ao43 t694.length co43 : Value).ownBlock∧some k_≠(.slice Ao44 t697.length co44 : Value).ownBlock) (.slice Ao36 t688.length co36) t688):=⟨by (with_reducible repeat (first|apply Ra|apply Rn|apply Rd));exact Kd.R_mono (Kd.R_far (p:=⟨gb701,2,none⟩) (Kd.R_far (p:=⟨gb701,1,none⟩) (Kd.R_far (p:=⟨gb701,0,none⟩) (Kd.R_types HO690.out BK701.out (by decide)) (fun _ hk=>hk.2) (.bool t693)) (fun _ hk=>hk.2) (.slice Ao43 t694.length co43)) (fun _ hk=>hk.2) (.slice Ao44 t697.length co44)) (fun _ hk=>⟨hk.1.1.1.1.1.1.2,⟨hk.1.1.1.1.1.2,⟨hk.1.1.1.1.2,⟨hk.1.1.1.2,⟨hk.1.1.1.1.1.1.1,⟨hk.1.1.2,hk.1.2⟩⟩⟩⟩⟩⟩)⟩
   have n6_ : Aside0 (Kd.R (Kd.int .u32) 35 (((w38.setCell ⟨gb701,0,none⟩ (.bool t693)).setCell ⟨gb701,1,none⟩ (.slice Ao43 t694.length co43)).setCell ⟨gb701,2,none⟩ (.slice Ao44 t697.length co44)) w.heap.size (fun k_=>some k_≠(.slice Ao22 t667.length co22 : Value).ownBlock∧some k_≠(.slice Ao23 t670.length co23 : Value).ownBlock∧some k_≠(.slice Ao28 t676.length co28 : Value).ownBlock∧some k_≠(.slice Ao29 t679.length co29 : Value).ownBlock∧some k_≠(.slice Ao35 t685.length co35 : Value).ownBlock∧some k_≠(.slice Ao36 t688.length co36 : Value).ownBlock∧some k_≠(.slice Ao44 t697.length co44 : Value).ownBlock) (.slice Ao43 t694.length co43) t694):=⟨by (with_reducible repeat (first|apply Ra|apply Rn|apply Rd));exact Kd.R_mono (Kd.R_far (p:=⟨gb701,2,none⟩) (Kd.R_far (p:=⟨gb701,1,none⟩) (Kd.R_far (p:=⟨gb701,0,none⟩) (Kd.R_types HO696.out BK701.out (by decide)) (fun _ hk=>hk.2) (.bool t693)) (fun _ hk=>hk.2) (.slice Ao43 t694.length co43)) (fun _ hk=>hk.2) (.slice Ao44 t697.length co44)) (fun _ hk=>⟨hk.1.1.1.1.1.1.2,⟨hk.1.1.1.1.1.2,⟨hk.1.1.1.1.2,⟨hk.1.1.1.2,⟨hk.1.1.2,⟨hk.1.2,hk.1.1.1.1.1.1.1⟩⟩⟩⟩⟩⟩)⟩
   have n7_ : Aside0 (Kd.R (Kd.int .u32) 35 (((w38.setCell ⟨gb701,0,none⟩ (.bool t693)).setCell ⟨gb701,1,none⟩ (.slice Ao43 t694.length co43)).setCell ⟨gb701,2,none⟩ (.slice Ao44 t697.length co44)) w.heap.size (fun k_=>some k_≠(.slice Ao22 t667.length co22 : Value).ownBlock∧some k_≠(.slice Ao23 t670.length co23 : Value).ownBlock∧some k_≠(.slice Ao28 t676.length co28 : Value).ownBlock∧some k_≠(.slice Ao29 t679.length co29 : Value).ownBlock∧some k_≠(.slice Ao35 t685.length co35 : Value).ownBlock∧some k_≠(.slice Ao36 t688.length co36 : Value).ownBlock∧some k_≠(.slice Ao43 t694.length co43 : Value).ownBlock) (.slice Ao44 t697.length co44) t697):=⟨by (with_reducible repeat (first|apply Ra|apply Rn|apply Rd));exact Kd.R_mono (Kd.R_far (p:=⟨gb701,2,none⟩) (Kd.R_far (p:=⟨gb701,1,none⟩) (Kd.R_far (p:=⟨gb701,0,none⟩) (Kd.R_types HO699.out BK701.out (by decide)) (fun _ hk=>hk.2) (.bool t693)) (fun _ hk=>hk.2) (.slice Ao43 t694.length co43)) (fun _ hk=>hk.2) (.slice Ao44 t697.length co44)) (fun _ hk=>⟨hk.1.1.1.1.1.1.2,⟨hk.1.1.1.1.1.2,⟨hk.1.1.1.1.2,⟨hk.1.1.1.2,⟨hk.1.1.2,⟨hk.1.2,hk.1.1.1.1.1.1.1⟩⟩⟩⟩⟩⟩)⟩
   have n8_ : Aside0 ((((w38.setCell ⟨gb701,0,none⟩ (.bool t693)).setCell ⟨gb701,1,none⟩ (.slice Ao43 t694.length co43)).setCell ⟨gb701,2,none⟩ (.slice Ao44 t697.length co44)).heap[gb674]? = some (.cells #[.bool t666,.slice Ao22 t667.length co22,.slice Ao23 t670.length co23] 25 (0,0))):=⟨by (with_reducible repeat (first|refine blk_drewN ?_ _|refine blk_drew ?_|refine blk_alloc ?_ _));refine blk_far ?_ NB674_701.out _;(with_reducible repeat (first|refine blk_drewN ?_ _|refine blk_drew ?_|refine blk_alloc ?_ _));refine blk_far ?_ NB674_701.out _;(with_reducible repeat (first|refine blk_drewN ?_ _|refine blk_drew ?_|refine blk_alloc ?_ _));refine blk_far ?_ NB674_701.out _;(with_reducible repeat (first|refine blk_drewN ?_ _|refine blk_drew ?_|refine blk_alloc ?_ _));exact BK674.out⟩
   have n9_ : Aside0 ((((w38.setCell ⟨gb701,0,none⟩ (.bool t693)).setCell ⟨gb701,1,none⟩ (.slice Ao43 t694.length co43)).setCell ⟨gb701,2,none⟩ (.slice Ao44 t697.length co44)).heap[gb683]? = some (.cells #[.bool t675,.slice Ao28 t676.length co28,.slice Ao29 t679.length co29] 25 (0,0))):=⟨by (with_reducible repeat (first|refine blk_drewN ?_ _|refine blk_drew ?_|refine blk_alloc ?_ _));refine blk_far ?_ NB683_701.out _;(with_reducible repeat (first|refine blk_drewN ?_ _|refine blk_drew ?_|refine blk_alloc ?_ _));refine blk_far ?_ NB683_701.out _;(with_reducible repeat (first|refine blk_drewN ?_ _|refine blk_drew ?_|refine blk_alloc ?_ _));refine blk_far ?_ NB683_701.out _;(with_reducible repeat (first|refine blk_drewN ?_ _|refine blk_drew ?_|refine blk_alloc ?_ _));exact BK683.out⟩
   have n10_ : Aside0 ((((w38.setCell ⟨gb701,0,none⟩ (.bool t693)).setCell ⟨gb701,1,none⟩ (.slice Ao43 t694.length co43)).setCell ⟨gb701,2,none⟩ (.slice Ao44 t697.length co44)).heap[gb692]? = some (.cells #[.bool t684,.slice Ao35 t685.length co35,.slice Ao36 t688.length co36] 25 (0,0))):=⟨by (with_reducible repeat (first|refine blk_drewN ?_ _|refine blk_drew ?_|refine blk_alloc ?_ _));refine blk_far ?_ NB692_701.out _;(with_reducible repeat (first|refine blk_drewN ?_ _|refine blk_drew ?_|refine blk_alloc ?_ _));refine blk_far ?_ NB692_701.out _;(with_reducible repeat (first|refine blk_drewN ?_ _|refine blk_drew ?_|refine blk_alloc ?_ _));refine blk_far ?_ NB692_701.out _;(with_reducible repeat (first|refine blk_drewN ?_ _|refine blk_drew ?_|refine blk_alloc ?_ _));exact BK692.out⟩
   have n11_ : Aside0 ((((w38.setCell ⟨gb701,0,none⟩ (.bool t693)).setCell ⟨gb701,1,none⟩ (.slice Ao43 t694.length co43)).setCell ⟨gb701,2,none⟩ (.slice Ao44 t697.length co44)).heap[gb701]? = some (.cells #[.bool t693,.slice Ao43 t694.length co43,.slice Ao44 t697.length co44] 25 (0,0))):=⟨by (with_reducible repeat (first|refine blk_drewN ?_ _|refine blk_drew ?_|refine blk_alloc ?_ _));refine blk_put (cs:=#[.bool t693,.slice Ao43 t694.length co43,.slice none 0 0]) ?_ 2 _ rfl;(with_reducible repeat (first|refine blk_drewN ?_ _|refine blk_drew ?_|refine blk_alloc ?_ _));refine blk_put (cs:=#[.bool t693,.slice none 0 0,.slice none 0 0]) ?_ 1 _ rfl;(with_reducible repeat (first|refine blk_drewN ?_ _|refine blk_drew ?_|refine blk_alloc ?_ _));refine blk_put (cs:=#[.bool false,.slice none 0 0,.slice none 0 0]) ?_ 0 _ rfl;(with_reducible repeat (first|refine blk_drewN ?_ _|refine blk_drew ?_|refine blk_alloc ?_ _));exact BK701.out⟩
   have n12_ : Aside0 (Below w.heap.size w (((w38.setCell ⟨gb701,0,none⟩ (.bool t693)).setCell ⟨gb701,1,none⟩ (.slice Ao43 t694.length co43)).setCell ⟨gb701,2,none⟩ (.slice Ao44 t697.length co44))):=⟨by repeat (first|with_reducible exact HB.out|apply ba|apply bn|apply b1|refine below_set ?_ GE674.out|refine below_set ?_ GE683.out|refine below_set ?_ GE692.out|refine below_set ?_ GE701.out)⟩
   (try clear HO669)
   (try clear HO672)
   (try clear HO678)
   (try clear HO681)
   (try clear HO687)
   (try clear HO690)
   (try clear HO696)
   (try clear HO699)
   (try clear BK674)
   (try clear BK683)
   (try clear BK692)
   (try clear BK701)
   (try clear HB)
   generalize (((w38.setCell ⟨gb701,0,none⟩ (.bool t693)).setCell ⟨gb701,1,none⟩ (.slice Ao43 t694.length co43)).setCell ⟨gb701,2,none⟩ (.slice Ao44 t697.length co44))=w45 at n0_ n1_ n2_ n3_ n4_ n5_ n6_ n7_ n8_ n9_ n10_ n11_ n12_ ⊢
   have HO669:=n0_
   have HO672:=n1_
   have HO678:=n2_
   have HO681:=n3_
   have HO687:=n4_
   have HO690:=n5_
   have HO696:=n6_
   have HO699:=n7_
   have BK674:=n8_
   have BK683:=n9_
   have BK692:=n10_
   have BK701:=n11_
   have HB:=n12_
   clear n0_ n1_ n2_ n3_ n4_ n5_ n6_ n7_ n8_ n9_ n10_ n11_ n12_
   have n0_:=Aside0.mk (Rd HO669.out)
   have n1_:=Aside0.mk (Rd HO672.out)
   have n2_:=Aside0.mk (Rd HO678.out)
   have n3_:=Aside0.mk (Rd HO681.out)
   have n4_:=Aside0.mk (Rd HO687.out)
   have n5_:=Aside0.mk (Rd HO690.out)
   have n6_:=Aside0.mk (Rd HO696.out)
   have n7_:=Aside0.mk (Rd HO699.out)
   have n8_:=Aside0.mk (blk_drew BK674.out)
   have n9_:=Aside0.mk (blk_drew BK683.out)
   have n10_:=Aside0.mk (blk_drew BK692.out)
   have n11_:=Aside0.mk (blk_drew BK701.out)
   have n12_:=Aside0.mk (b1 HB.out)
   clear HO669
   clear HO672
   clear HO678
   clear HO681
   clear HO687
   clear HO690
   clear HO696
   clear HO699
   clear BK674
   clear BK683
   clear BK692
   clear BK701
   clear HB
   have HO669:=n0_
   have HO672:=n1_
   have HO678:=n2_
   have HO681:=n3_
   have HO687:=n4_
   have HO690:=n5_
   have HO696:=n6_
   have HO699:=n7_
   have BK674:=n8_
   have BK683:=n9_
   have BK692:=n10_
   have BK701:=n11_
   have HB:=n12_
   clear n0_ n1_ n2_ n3_ n4_ n5_ n6_ n7_ n8_ n9_ n10_ n11_ n12_
   refine start_ (n:=35) (S:=fun w'=>w'.cell? ⟨gb674,0,none⟩=some (.bool t666)∧w'.cell? ⟨gb674,1,none⟩=some (.slice Ao22 t667.length co22)∧w'.cell? ⟨gb674,2,none⟩=some (.slice Ao23 t670.length co23)∧w'.cell? ⟨gb683,0,none⟩=some (.bool t675)∧w'.cell? ⟨gb683,1,none⟩=some (.slice Ao28 t676.length co28)∧w'.cell? ⟨gb683,2,none⟩=some (.slice Ao29 t679.length co29)) (ds:=[]) #[false,false,false,false,false,false,false,false,false,false,false,false,false,false,false,false,false,false,false,false,false,false,false,false,false,false,false,false,false,false,false,false,false,false,false] (by kernel_rfl) rfl rfl ⟨(blk_cell BK674.out 0).trans rfl,(blk_cell BK674.out 1).trans rfl,(blk_cell BK674.out 2).trans rfl,(blk_cell BK683.out 0).trans rfl,(blk_cell BK683.out 1).trans rfl,(blk_cell BK683.out 2).trans rfl⟩ (fun hHeld=>?_);refine with_tabW penumbralaw04_fixed.tab5 penumbralaw04_fixed.bits5 (fun HT_ HW_=>?_)
   generalize w45.drew=w46 at HO669 HO672 HO678 HO681 HO687 HO690 HO696 HO699 BK674 BK683 BK692 BK701 HB hHeld ⊢
   refine pv (i:=0) (N:=some 25) (v:=?_) (a':=?_) rfl rfl (any_of HT_.out (by kernel_rfl)) (Or.inl ⟨by rfl,?_⟩) ?_ ?_
   rotate_left
   ·intro w'
    go_simp
    with_reducible rfl
   rotate_left
   ·simp only [Act.put,s0,s1,s2,i64_w,i32_w]
    rfl
   refine pv (i:=1) (N:=some 26) (v:=?_) (a':=?_) rfl rfl (any_of HT_.out (by kernel_rfl)) (Or.inl ⟨by rfl,?_⟩) ?_ ?_
   rotate_left
   ·intro w'
    go_simp
    with_reducible rfl
   rotate_left
   ·simp only [Act.put,s0,s1,s2,i64_w,i32_w]
    rfl
   refine pv (i:=2) (N:=some 27) (v:=?_) (a':=?_) rfl rfl (any_of HT_.out (by kernel_rfl)) (Or.inl ⟨by rfl,?_⟩) ?_ ?_
   rotate_left
   ·intro w'
    go_simp
    with_reducible rfl
   rotate_left
   ·simp only [Act.put,s0,s1,s2,i64_w,i32_w]
    rfl
   refine take_ (i:=3) (N:=some 28) (v:=?_) (a':=?_) #[true,true,true,true,false,false,false,false,false,false,false,false,false,false,false,false,false,false,false,false,false,false,false,false,false,false,false,false,false,false,false,false,false,false,false] rfl rfl (take_ofW HT_.out HW_.out (by kernel_rfl)) (fun _ _ _ h=>h) (Or.inl ⟨by rfl,?_⟩) hHeld ?_ ?_
   rotate_left
   ·rintro w' ⟨s0,s1,s2,s3,s4,s5⟩
    go_simp
    with_reducible rfl
   rotate_left
   ·simp only [Act.put,s0,s1,s2,i64_w,i32_w]
    rfl
   refine one_ (i:=4) (N:=some 29) #[true,true,true,true,true,false,false,false,false,false,false,false,false,false,false,false,false,false,false,false,false,false,false,false,false,false,false,false,false,false,false,false,false,false,false] rfl rfl (one_of HT_.out (by kernel_rfl)) (by decide) (fun K hK=>?_)
   refine goes_ Tryd.func23 (by kernel_rfl) rfl #[.int .i64 1,.int .i64 8] (by rfl) rfl rfl (by (try simp only [List.map_toArray,List.map_cons,List.map_nil]);first|done|rfl) ?_
   with_reducible refine (penumbraref03_Of.calls k 1 8 t702 t703 t706 _ A6.out).mono ?_
   rintro e w47 ⟨v704,v707,rfl,ho0,ho1,hb⟩
   refine ⟨_,rfl,?_⟩
   have n0_:=Aside0.mk (Kd.R_mono (Kd.R_told (Kd.R_told (Kd.R_old (Ru HO669.out) hb) (Kd.R_base ho0)) (Kd.R_base ho1)) (fun _ h_=>h_.1))
   have n1_:=Aside0.mk (Kd.R_mono (Kd.R_told (Kd.R_told (Kd.R_old (Ru HO672.out) hb) (Kd.R_base ho0)) (Kd.R_base ho1)) (fun _ h_=>h_.1))
   have n2_:=Aside0.mk (Kd.R_mono (Kd.R_told (Kd.R_told (Kd.R_old (Ru HO678.out) hb) (Kd.R_base ho0)) (Kd.R_base ho1)) (fun _ h_=>h_.1))
   have n3_:=Aside0.mk (Kd.R_mono (Kd.R_told (Kd.R_told (Kd.R_old (Ru HO681.out) hb) (Kd.R_base ho0)) (Kd.R_base ho1)) (fun _ h_=>h_.1))
   have n4_:=Aside0.mk (Kd.R_mono (Kd.R_told (Kd.R_told (Kd.R_old (Ru HO687.out) hb) (Kd.R_base ho0)) (Kd.R_base ho1)) (fun _ h_=>h_.1))
   have n5_:=Aside0.mk (Kd.R_mono (Kd.R_told (Kd.R_told (Kd.R_old (Ru HO690.out) hb) (Kd.R_base ho0)) (Kd.R_base ho1)) (fun _ h_=>h_.1))
   have n6_:=Aside0.mk (Kd.R_mono (Kd.R_told (Kd.R_told (Kd.R_old (Ru HO696.out) hb) (Kd.R_base ho0)) (Kd.R_base ho1)) (fun _ h_=>h_.1))
   have n7_:=Aside0.mk (Kd.R_mono (Kd.R_told (Kd.R_told (Kd.R_old (Ru HO699.out) hb) (Kd.R_base ho0)) (Kd.R_base ho1)) (fun _ h_=>h_.1))
   have n8_:=Aside0.mk (Kd.R_lower (Kd.R_new' (Kd.R_new' (Kd.R_new' (Kd.R_new' (Kd.R_new' (Kd.R_new' (Kd.R_new' (Kd.R_new' ho0 (Kd.R_lt (Ru HO669.out))) (Kd.R_lt (Ru HO672.out))) (Kd.R_lt (Ru HO678.out))) (Kd.R_lt (Ru HO681.out))) (Kd.R_lt (Ru HO687.out))) (Kd.R_lt (Ru HO690.out))) (Kd.R_lt (Ru HO696.out))) (Kd.R_lt (Ru HO699.out))) (below_size (by repeat (first|with_reducible exact HB.out|apply ba|apply bn|apply b1|refine below_set ?_ GE674.out|refine below_set ?_ GE683.out|refine below_set ?_ GE692.out|refine below_set ?_ GE701.out))))
   have n9_:=Aside0.mk (Kd.R_lower (Kd.R_new' (Kd.R_new' (Kd.R_new' (Kd.R_new' (Kd.R_new' (Kd.R_new' (Kd.R_new' (Kd.R_new' ho1 (Kd.R_lt (Ru HO669.out))) (Kd.R_lt (Ru HO672.out))) (Kd.R_lt (Ru HO678.out))) (Kd.R_lt (Ru HO681.out))) (Kd.R_lt (Ru HO687.out))) (Kd.R_lt (Ru HO690.out))) (Kd.R_lt (Ru HO696.out))) (Kd.R_lt (Ru HO699.out))) (below_size (by repeat (first|with_reducible exact HB.out|apply ba|apply bn|apply b1|refine below_set ?_ GE674.out|refine below_set ?_ GE683.out|refine below_set ?_ GE692.out|refine below_set ?_ GE701.out))))
   have n10_:=Aside0.mk (blk_below (g:=gb674) (o:=.cells #[.bool t666,.slice Ao22 t667.length co22,.slice Ao23 t670.length co23] 25 (0,0)) (Bu BK674.out) hb)
   have n11_:=Aside0.mk (blk_below (g:=gb683) (o:=.cells #[.bool t675,.slice Ao28 t676.length co28,.slice Ao29 t679.length co29] 25 (0,0)) (Bu BK683.out) hb)
   have n12_:=Aside0.mk (blk_below (g:=gb692) (o:=.cells #[.bool t684,.slice Ao35 t685.length co35,.slice Ao36 t688.length co36] 25 (0,0)) (Bu BK692.out) hb)
   have n13_:=Aside0.mk (blk_below (g:=gb701) (o:=.cells #[.bool t693,.slice Ao43 t694.length co43,.slice Ao44 t697.length co44] 25 (0,0)) (Bu BK701.out) hb)
   have n14_:=Aside0.mk (below_step (by repeat (first|with_reducible exact HB.out|apply ba|apply bn|apply b1|refine below_set ?_ GE674.out|refine below_set ?_ GE683.out|refine below_set ?_ GE692.out|refine below_set ?_ GE701.out)) hb)
   clear HO669
   clear HO672
   clear HO678
   clear HO681
   clear HO687
   clear HO690
   clear HO696
   clear HO699
   clear BK674
   clear BK683
   clear BK692
   clear BK701
   clear HB
   have HO669:=n0_
   have HO672:=n1_
   have HO678:=n2_
   have HO681:=n3_
   have HO687:=n4_
   have HO690:=n5_
   have HO696:=n6_
   have HO699:=n7_
   have HO705:=n8_
   have HO708:=n9_
   have BK674:=n10_
   have BK683:=n11_
   have BK692:=n12_
   have BK701:=n13_
   have HB:=n14_
   clear n0_ n1_ n2_ n3_ n4_ n5_ n6_ n7_ n8_ n9_ n10_ n11_ n12_ n13_ n14_
   (try clear hb)
   (try clear hb2)
   (try clear hk)
   (try clear hi)
   (try clear ho0)
   (try clear ho1)
   obtain ⟨Ao48,co48,eo48⟩:=Kd.R_slice HO705.out
   (first|subst eo48|(injection eo48 with f1_ f2_ f3_;have f4_:=f1_.symm;have f5_:=f3_.symm;clear f1_ f2_ f3_;subst f4_;subst f5_))
   obtain ⟨Ao49,co49,eo49⟩:=Kd.R_slice HO708.out
   (first|subst eo49|(injection eo49 with f1_ f2_ f3_;have f4_:=f1_.symm;have f5_:=f3_.symm;clear f1_ f2_ f3_;subst f4_;subst f5_))
   refine hK.out _ _ ⟨(blk_cell BK674.out 0).trans rfl,(blk_cell BK674.out 1).trans rfl,(blk_cell BK674.out 2).trans rfl,(blk_cell BK683.out 0).trans rfl,(blk_cell BK683.out 1).trans rfl,(blk_cell BK683.out 2).trans rfl⟩ (fun hHeld=>?_)
   clear hK K
   refine norm_ (a':=?_) ?_ ?_
   rotate_left
   ·show Act.put _ (some 29) _=_
    simp only [Act.put,s0,s1,s2,i64_w,i32_w]
    rfl
   refine one_ (i:=5) (N:=some 30) #[true,true,true,true,true,true,false,false,false,false,false,false,false,false,false,false,false,false,false,false,false,false,false,false,false,false,false,false,false,false,false,false,false,false,false] rfl rfl (one_of HT_.out (by kernel_rfl)) (by decide) (fun K hK=>?_)
   refine goes_ Tryd.func11 (by kernel_rfl) rfl #[.agg #[.bool t666,.slice Ao22 t667.length co22,.slice Ao23 t670.length co23],.agg #[.bool t702,.slice Ao48 t703.length co48,.slice Ao49 t706.length co49]] (by rfl) rfl rfl (by (try simp only [List.map_toArray,List.map_cons,List.map_nil]);first|done|rfl) ?_
   with_reducible refine (penumbraref03_Is.calls k t666 _ _ t667 _ _ t670 t702 _ _ t703 _ _ t706 true _ ?side1 ?side2 ?side3 ?side4 ?side5 ?side6 ?side7 ?side8 A7.out).mono ?_
   (case side1=>exact Cu (Kd.R_reads' HO669.out).2.2)
   (case side2=>exact (Kd.R_reads' HO669.out).2.1)
   (case side3=>exact Cu (Kd.R_reads' HO672.out).2.2)
   (case side4=>exact (Kd.R_reads' HO672.out).2.1)
   (case side5=>exact Cu (Kd.R_reads' HO705.out).2.2)
   (case side6=>exact (Kd.R_reads' HO705.out).2.1)
   (case side7=>exact Cu (Kd.R_reads' HO708.out).2.2)
   (case side8=>exact (Kd.R_reads' HO708.out).2.1)
   rintro e w50 ⟨rfl,hb⟩
   refine ⟨_,rfl,?_⟩
   have n0_:=Aside0.mk (Kd.R_below (Ru HO669.out) hb)
   have n1_:=Aside0.mk (Kd.R_below (Ru HO672.out) hb)
   have n2_:=Aside0.mk (Kd.R_below (Ru HO678.out) hb)
   have n3_:=Aside0.mk (Kd.R_below (Ru HO681.out) hb)
   have n4_:=Aside0.mk (Kd.R_below (Ru HO687.out) hb)
   have n5_:=Aside0.mk (Kd.R_below (Ru HO690.out) hb)
   have n6_:=Aside0.mk (Kd.R_below (Ru HO696.out) hb)
   have n7_:=Aside0.mk (Kd.R_below (Ru HO699.out) hb)
   have n8_:=Aside0.mk (Kd.R_below (Ru HO705.out) hb)
   have n9_:=Aside0.mk (Kd.R_below (Ru HO708.out) hb)
   have n10_:=Aside0.mk (blk_below (g:=gb674) (o:=.cells #[.bool t666,.slice Ao22 t667.length co22,.slice Ao23 t670.length co23] 25 (0,0)) (Bu BK674.out) hb)
   have n11_:=Aside0.mk (blk_below (g:=gb683) (o:=.cells #[.bool t675,.slice Ao28 t676.length co28,.slice Ao29 t679.length co29] 25 (0,0)) (Bu BK683.out) hb)
   have n12_:=Aside0.mk (blk_below (g:=gb692) (o:=.cells #[.bool t684,.slice Ao35 t685.length co35,.slice Ao36 t688.length co36] 25 (0,0)) (Bu BK692.out) hb)
   have n13_:=Aside0.mk (blk_below (g:=gb701) (o:=.cells #[.bool t693,.slice Ao43 t694.length co43,.slice Ao44 t697.length co44] 25 (0,0)) (Bu BK701.out) hb)
   have n14_:=Aside0.mk (below_step (by repeat (first|with_reducible exact HB.out|apply ba|apply bn|apply b1|refine below_set ?_ GE674.out|refine below_set ?_ GE683.out|refine below_set ?_ GE692.out|refine below_set ?_ GE701.out)) hb)
   clear HO669
   clear HO672
   clear HO678
   clear HO681
   clear HO687
   clear HO690
   clear HO696
   clear HO699
   clear HO705
   clear HO708
   clear BK674
   clear BK683
   clear BK692
   clear BK701
   clear HB
   have HO669:=n0_
   have HO672:=n1_
   have HO678:=n2_
   have HO681:=n3_
   have HO687:=n4_
   have HO690:=n5_
   have HO696:=n6_
   have HO699:=n7_
   have HO705:=n8_
   have HO708:=n9_
   have BK674:=n10_
   have BK683:=n11_
   have BK692:=n12_
   have BK701:=n13_
   have HB:=n14_
   clear n0_ n1_ n2_ n3_ n4_ n5_ n6_ n7_ n8_ n9_ n10_ n11_ n12_ n13_ n14_
   (try clear hb)
   (try clear hb2)
   (try clear hk)
   (try clear hi)
   refine hK.out _ _ ⟨(blk_cell BK674.out 0).trans rfl,(blk_cell BK674.out 1).trans rfl,(blk_cell BK674.out 2).trans rfl,(blk_cell BK683.out 0).trans rfl,(blk_cell BK683.out 1).trans rfl,(blk_cell BK683.out 2).trans rfl⟩ (fun hHeld=>?_)
   clear hK K
   refine norm_ (a':=?_) ?_ ?_
   rotate_left
   ·show Act.put _ (some 30) _=_
    simp only [Act.put,s0,s1,s2,i64_w,i32_w]
    rfl
   refine pv (i:=6) (N:=some 31) (v:=?_) (a':=?_) rfl rfl (any_of HT_.out (by kernel_rfl)) (Or.inl ⟨by rfl,?_⟩) ?_ ?_
   rotate_left
   ·intro w'
    go_simp
    with_reducible rfl
   rotate_left
   ·simp only [Act.put,s0,s1,s2,i64_w,i32_w]
    rfl
   refine pv (i:=7) (N:=some 32) (v:=?_) (a':=?_) rfl rfl (any_of HT_.out (by kernel_rfl)) (Or.inl ⟨by rfl,?_⟩) ?_ ?_
   rotate_left
   ·intro w'
    go_simp
    with_reducible rfl
   rotate_left
   ·simp only [Act.put,s0,s1,s2,i64_w,i32_w]
    rfl
   refine pv (i:=8) (N:=some 33) (v:=?_) (a':=?_) rfl rfl (any_of HT_.out (by kernel_rfl)) (Or.inl ⟨by rfl,?_⟩) ?_ ?_
   rotate_left
   ·intro w'
    go_simp
    with_reducible rfl
   rotate_left
   ·simp only [Act.put,s0,s1,s2,i64_w,i32_w]
    rfl
   refine pv (i:=9) (N:=some 34) (v:=?_) (a':=?_) rfl rfl (any_of HT_.out (by kernel_rfl)) (Or.inl ⟨by rfl,?_⟩) ?_ ?_
   rotate_left
   ·intro w'
    go_simp
    with_reducible rfl
   rotate_left
   ·simp only [Act.put,s0,s1,s2,i64_w,i32_w]
    rfl
   refine pv (i:=10) (N:=some 35) (v:=?_) (a':=?_) rfl rfl (any_of HT_.out (by kernel_rfl)) (Or.inl ⟨by rfl,?_⟩) ?_ ?_
   rotate_left
   ·intro w'
    go_simp
    with_reducible rfl
   rotate_left
   ·simp only [Act.put,s0,s1,s2,i64_w,i32_w]
    rfl
   refine pv (i:=11) (N:=some 36) (v:=?_) (a':=?_) rfl rfl (any_of HT_.out (by kernel_rfl)) (Or.inl ⟨by rfl,?_⟩) ?_ ?_
   rotate_left
   ·intro w'
    go_simp
    with_reducible rfl
   rotate_left
   ·simp only [Act.put,s0,s1,s2,i64_w,i32_w]
    rfl
   refine take_ (i:=12) (N:=some 37) (v:=?_) (a':=?_) #[true,true,true,true,true,true,true,true,true,true,true,true,true,false,false,false,false,false,false,false,false,false,false,false,false,false,false,false,false,false,false,false,false,false,false] rfl rfl (take_ofW HT_.out HW_.out (by kernel_rfl)) (fun _ _ _ h=>h) (Or.inl ⟨by rfl,?_⟩) hHeld ?_ ?_
   rotate_left
   ·rintro w' ⟨s0,s1,s2,s3,s4,s5⟩
    go_simp
    with_reducible rfl
   rotate_left
   ·simp only [Act.put,s0,s1,s2,i64_w,i32_w]
    rfl
   refine one_ (i:=13) (N:=some 38) #[true,true,true,true,true,true,true,true,true,true,true,true,true,true,false,false,false,false,false,false,false,false,false,false,false,false,false,false,false,false,false,false,false,false,false] rfl rfl (one_of HT_.out (by kernel_rfl)) (by decide) (fun K hK=>?_)
   refine goes_ Tryd.func23 (by kernel_rfl) rfl #[.int .i64 1,.int .i64 2] (by rfl) rfl rfl (by (try simp only [List.map_toArray,List.map_cons,List.map_nil]);first|done|rfl) ?_
   with_reducible refine (penumbraref03_Of.calls k 1 2 t710 t711 t714 _ A10.out).mono ?_
   rintro e w51 ⟨v712,v715,rfl,ho0,ho1,hb⟩
   refine ⟨_,rfl,?_⟩
   have n0_:=Aside0.mk (Kd.R_mono (Kd.R_told (Kd.R_told (Kd.R_old (Ru HO669.out) hb) (Kd.R_base ho0)) (Kd.R_base ho1)) (fun _ h_=>h_.1))
   have n1_:=Aside0.mk (Kd.R_mono (Kd.R_told (Kd.R_told (Kd.R_old (Ru HO672.out) hb) (Kd.R_base ho0)) (Kd.R_base ho1)) (fun _ h_=>h_.1))
   have n2_:=Aside0.mk (Kd.R_mono (Kd.R_told (Kd.R_told (Kd.R_old (Ru HO678.out) hb) (Kd.R_base ho0)) (Kd.R_base ho1)) (fun _ h_=>h_.1))
   have n3_:=Aside0.mk (Kd.R_mono (Kd.R_told (Kd.R_told (Kd.R_old (Ru HO681.out) hb) (Kd.R_base ho0)) (Kd.R_base ho1)) (fun _ h_=>h_.1))
   have n4_:=Aside0.mk (Kd.R_mono (Kd.R_told (Kd.R_told (Kd.R_old (Ru HO687.out) hb) (Kd.R_base ho0)) (Kd.R_base ho1)) (fun _ h_=>h_.1))
   have n5_:=Aside0.mk (Kd.R_mono (Kd.R_told (Kd.R_told (Kd.R_old (Ru HO690.out) hb) (Kd.R_base ho0)) (Kd.R_base ho1)) (fun _ h_=>h_.1))
   have n6_:=Aside0.mk (Kd.R_mono (Kd.R_told (Kd.R_told (Kd.R_old (Ru HO696.out) hb) (Kd.R_base ho0)) (Kd.R_base ho1)) (fun _ h_=>h_.1))
   have n7_:=Aside0.mk (Kd.R_mono (Kd.R_told (Kd.R_told (Kd.R_old (Ru HO699.out) hb) (Kd.R_base ho0)) (Kd.R_base ho1)) (fun _ h_=>h_.1))
   have n8_:=Aside0.mk (Kd.R_mono (Kd.R_told (Kd.R_told (Kd.R_old (Ru HO705.out) hb) (Kd.R_base ho0)) (Kd.R_base ho1)) (fun _ h_=>h_.1))
   have n9_:=Aside0.mk (Kd.R_mono (Kd.R_told (Kd.R_told (Kd.R_old (Ru HO708.out) hb) (Kd.R_base ho0)) (Kd.R_base ho1)) (fun _ h_=>h_.1))
   have n10_:=Aside0.mk (Kd.R_lower (Kd.R_new' (Kd.R_new' (Kd.R_new' (Kd.R_new' (Kd.R_new' (Kd.R_new' (Kd.R_new' (Kd.R_new' (Kd.R_new' (Kd.R_new' ho0 (Kd.R_lt (Ru HO669.out))) (Kd.R_lt (Ru HO672.out))) (Kd.R_lt (Ru HO678.out))) (Kd.R_lt (Ru HO681.out))) (Kd.R_lt (Ru HO687.out))) (Kd.R_lt (Ru HO690.out))) (Kd.R_lt (Ru HO696.out))) (Kd.R_lt (Ru HO699.out))) (Kd.R_lt (Ru HO705.out))) (Kd.R_lt (Ru HO708.out))) (below_size (by repeat (first|with_reducible exact HB.out|apply ba|apply bn|apply b1|refine below_set ?_ GE674.out|refine below_set ?_ GE683.out|refine below_set ?_ GE692.out|refine below_set ?_ GE701.out))))
   have n11_:=Aside0.mk (Kd.R_lower (Kd.R_new' (Kd.R_new' (Kd.R_new' (Kd.R_new' (Kd.R_new' (Kd.R_new' (Kd.R_new' (Kd.R_new' (Kd.R_new' (Kd.R_new' ho1 (Kd.R_lt (Ru HO669.out))) (Kd.R_lt (Ru HO672.out))) (Kd.R_lt (Ru HO678.out))) (Kd.R_lt (Ru HO681.out))) (Kd.R_lt (Ru HO687.out))) (Kd.R_lt (Ru HO690.out))) (Kd.R_lt (Ru HO696.out))) (Kd.R_lt (Ru HO699.out))) (Kd.R_lt (Ru HO705.out))) (Kd.R_lt (Ru HO708.out))) (below_size (by repeat (first|with_reducible exact HB.out|apply ba|apply bn|apply b1|refine below_set ?_ GE674.out|refine below_set ?_ GE683.out|refine below_set ?_ GE692.out|refine below_set ?_ GE701.out))))
   have n12_:=Aside0.mk (blk_below (g:=gb674) (o:=.cells #[.bool t666,.slice Ao22 t667.length co22,.slice Ao23 t670.length co23] 25 (0,0)) (Bu BK674.out) hb)
   have n13_:=Aside0.mk (blk_below (g:=gb683) (o:=.cells #[.bool t675,.slice Ao28 t676.length co28,.slice Ao29 t679.length co29] 25 (0,0)) (Bu BK683.out) hb)
   have n14_:=Aside0.mk (blk_below (g:=gb692) (o:=.cells #[.bool t684,.slice Ao35 t685.length co35,.slice Ao36 t688.length co36] 25 (0,0)) (Bu BK692.out) hb)
   have n15_:=Aside0.mk (blk_below (g:=gb701) (o:=.cells #[.bool t693,.slice Ao43 t694.length co43,.slice Ao44 t697.length co44] 25 (0,0)) (Bu BK701.out) hb)
   have n16_:=Aside0.mk (below_step (by repeat (first|with_reducible exact HB.out|apply ba|apply bn|apply b1|refine below_set ?_ GE674.out|refine below_set ?_ GE683.out|refine below_set ?_ GE692.out|refine below_set ?_ GE701.out)) hb)
   clear HO669
   clear HO672
   clear HO678
   clear HO681
   clear HO687
   clear HO690
   clear HO696
   clear HO699
   clear HO705
   clear HO708
   clear BK674
   clear BK683
   clear BK692
   clear BK701
   clear HB
   have HO669:=n0_
   have HO672:=n1_
   have HO678:=n2_
   have HO681:=n3_
   have HO687:=n4_
   have HO690:=n5_
   have HO696:=n6_
   have HO699:=n7_
   have HO705:=n8_
   have HO708:=n9_
   have HO713:=n10_
   have HO716:=n11_
   have BK674:=n12_
   have BK683:=n13_
   have BK692:=n14_
   have BK701:=n15_
   have HB:=n16_
   clear n0_ n1_ n2_ n3_ n4_ n5_ n6_ n7_ n8_ n9_ n10_ n11_ n12_ n13_ n14_ n15_ n16_
   (try clear hb)
   (try clear hb2)
   (try clear hk)
   (try clear hi)
   (try clear ho0)
   (try clear ho1)
   obtain ⟨Ao52,co52,eo52⟩:=Kd.R_slice HO713.out
   (first|subst eo52|(injection eo52 with f1_ f2_ f3_;have f4_:=f1_.symm;have f5_:=f3_.symm;clear f1_ f2_ f3_;subst f4_;subst f5_))
   obtain ⟨Ao53,co53,eo53⟩:=Kd.R_slice HO716.out
   (first|subst eo53|(injection eo53 with f1_ f2_ f3_;have f4_:=f1_.symm;have f5_:=f3_.symm;clear f1_ f2_ f3_;subst f4_;subst f5_))
   refine hK.out _ _ ⟨(blk_cell BK674.out 0).trans rfl,(blk_cell BK674.out 1).trans rfl,(blk_cell BK674.out 2).trans rfl,(blk_cell BK683.out 0).trans rfl,(blk_cell BK683.out 1).trans rfl,(blk_cell BK683.out 2).trans rfl⟩ (fun hHeld=>?_)
   clear hK K
   refine norm_ (a':=?_) ?_ ?_
   rotate_left
   ·show Act.put _ (some 38) _=_
    simp only [Act.put,s0,s1,s2,i64_w,i32_w]
    rfl
   refine one_ (i:=14) (N:=some 39) #[true,true,true,true,true,true,true,true,true,true,true,true,true,true,true,false,false,false,false,false,false,false,false,false,false,false,false,false,false,false,false,false,false,false,false] rfl rfl (one_of HT_.out (by kernel_rfl)) (by decide) (fun K hK=>?_)
   refine goes_ Tryd.func11 (by kernel_rfl) rfl #[.agg #[.bool t675,.slice Ao28 t676.length co28,.slice Ao29 t679.length co29],.agg #[.bool t710,.slice Ao52 t711.length co52,.slice Ao53 t714.length co53]] (by rfl) rfl rfl (by (try simp only [List.map_toArray,List.map_cons,List.map_nil]);first|done|rfl) ?_
   with_reducible refine (penumbraref03_Is.calls k t675 _ _ t676 _ _ t679 t710 _ _ t711 _ _ t714 true _ ?side1 ?side2 ?side3 ?side4 ?side5 ?side6 ?side7 ?side8 A11.out).mono ?_
   (case side1=>exact Cu (Kd.R_reads' HO678.out).2.2)
   (case side2=>exact (Kd.R_reads' HO678.out).2.1)
   (case side3=>exact Cu (Kd.R_reads' HO681.out).2.2)
   (case side4=>exact (Kd.R_reads' HO681.out).2.1)
   (case side5=>exact Cu (Kd.R_reads' HO713.out).2.2)
   (case side6=>exact (Kd.R_reads' HO713.out).2.1)
   (case side7=>exact Cu (Kd.R_reads' HO716.out).2.2)
   (case side8=>exact (Kd.R_reads' HO716.out).2.1)
   rintro e w54 ⟨rfl,hb⟩
   refine ⟨_,rfl,?_⟩
   have n0_:=Aside0.mk (Kd.R_below (Ru HO669.out) hb)
   have n1_:=Aside0.mk (Kd.R_below (Ru HO672.out) hb)
   have n2_:=Aside0.mk (Kd.R_below (Ru HO678.out) hb)
   have n3_:=Aside0.mk (Kd.R_below (Ru HO681.out) hb)
   have n4_:=Aside0.mk (Kd.R_below (Ru HO687.out) hb)
   have n5_:=Aside0.mk (Kd.R_below (Ru HO690.out) hb)
   have n6_:=Aside0.mk (Kd.R_below (Ru HO696.out) hb)
   have n7_:=Aside0.mk (Kd.R_below (Ru HO699.out) hb)
   have n8_:=Aside0.mk (Kd.R_below (Ru HO705.out) hb)
   have n9_:=Aside0.mk (Kd.R_below (Ru HO708.out) hb)
   have n10_:=Aside0.mk (Kd.R_below (Ru HO713.out) hb)
   have n11_:=Aside0.mk (Kd.R_below (Ru HO716.out) hb)
   have n12_:=Aside0.mk (blk_below (g:=gb674) (o:=.cells #[.bool t666,.slice Ao22 t667.length co22,.slice Ao23 t670.length co23] 25 (0,0)) (Bu BK674.out) hb)
   have n13_:=Aside0.mk (blk_below (g:=gb683) (o:=.cells #[.bool t675,.slice Ao28 t676.length co28,.slice Ao29 t679.length co29] 25 (0,0)) (Bu BK683.out) hb)
   have n14_:=Aside0.mk (blk_below (g:=gb692) (o:=.cells #[.bool t684,.slice Ao35 t685.length co35,.slice Ao36 t688.length co36] 25 (0,0)) (Bu BK692.out) hb)
   have n15_:=Aside0.mk (blk_below (g:=gb701) (o:=.cells #[.bool t693,.slice Ao43 t694.length co43,.slice Ao44 t697.length co44] 25 (0,0)) (Bu BK701.out) hb)
   have n16_:=Aside0.mk (below_step (by repeat (first|with_reducible exact HB.out|apply ba|apply bn|apply b1|refine below_set ?_ GE674.out|refine below_set ?_ GE683.out|refine below_set ?_ GE692.out|refine below_set ?_ GE701.out)) hb)
   clear HO669
   clear HO672
   clear HO678
   clear HO681
   clear HO687
   clear HO690
   clear HO696
   clear HO699
   clear HO705
   clear HO708
   clear HO713
   clear HO716
   clear BK674
   clear BK683
   clear BK692
   clear BK701
   clear HB
   have HO669:=n0_
   have HO672:=n1_
   have HO678:=n2_
   have HO681:=n3_
   have HO687:=n4_
   have HO690:=n5_
   have HO696:=n6_
   have HO699:=n7_
   have HO705:=n8_
   have HO708:=n9_
   have HO713:=n10_
   have HO716:=n11_
   have BK674:=n12_
   have BK683:=n13_
   have BK692:=n14_
   have BK701:=n15_
   have HB:=n16_
   clear n0_ n1_ n2_ n3_ n4_ n5_ n6_ n7_ n8_ n9_ n10_ n11_ n12_ n13_ n14_ n15_ n16_
   (try clear hb)
   (try clear hb2)
   (try clear hk)
   (try clear hi)
   refine hK.out _ _ ⟨(blk_cell BK674.out 0).trans rfl,(blk_cell BK674.out 1).trans rfl,(blk_cell BK674.out 2).trans rfl,(blk_cell BK683.out 0).trans rfl,(blk_cell BK683.out 1).trans rfl,(blk_cell BK683.out 2).trans rfl⟩ (fun hHeld=>?_)
   clear hK K
   refine norm_ (a':=?_) ?_ ?_
   rotate_left
   ·show Act.put _ (some 39) _=_
    simp only [Act.put,s0,s1,s2,i64_w,i32_w]
    rfl
   refine pv (i:=15) (N:=some 40) (v:=?_) (a':=?_) rfl rfl (any_of HT_.out (by kernel_rfl)) (Or.inl ⟨by rfl,?_⟩) ?_ ?_
   rotate_left
   ·intro w'
    go_simp
    with_reducible rfl
   rotate_left
   ·simp only [Act.put,s0,s1,s2,i64_w,i32_w]
    rfl
   refine pv (i:=16) (N:=some 41) (v:=?_) (a':=?_) rfl rfl (any_of HT_.out (by kernel_rfl)) (Or.inl ⟨by rfl,?_⟩) ?_ ?_
   rotate_left
   ·intro w'
    go_simp
    with_reducible rfl
   rotate_left
   ·simp only [Act.put,s0,s1,s2,i64_w,i32_w]
    rfl
   refine pv (i:=17) (N:=some 42) (v:=?_) (a':=?_) rfl rfl (any_of HT_.out (by kernel_rfl)) (Or.inl ⟨by rfl,?_⟩) ?_ ?_
   rotate_left
   ·intro w'
    go_simp
    with_reducible rfl
   rotate_left
   ·simp only [Act.put,s0,s1,s2,i64_w,i32_w]
    rfl
   refine pv (i:=18) (N:=some 43) (v:=?_) (a':=?_) rfl rfl (any_of HT_.out (by kernel_rfl)) (Or.inl ⟨by rfl,?_⟩) ?_ ?_
   rotate_left
   ·intro w'
    go_simp
    with_reducible rfl
   rotate_left
   ·simp only [Act.put,s0,s1,s2,i64_w,i32_w]
    rfl
   refine pv (i:=19) (N:=some 44) (v:=?_) (a':=?_) rfl rfl (any_of HT_.out (by kernel_rfl)) (Or.inl ⟨by rfl,?_⟩) ?_ ?_
   rotate_left
   ·intro w'
    go_simp
    with_reducible rfl
   rotate_left
   ·simp only [Act.put,s0,s1,s2,i64_w,i32_w]
    rfl
   refine pv (i:=20) (N:=some 45) (v:=?_) (a':=?_) rfl rfl (any_of HT_.out (by kernel_rfl)) (Or.inl ⟨by rfl,?_⟩) ?_ ?_
   rotate_left
   ·intro w'
    go_simp
    with_reducible rfl
   rotate_left
   ·simp only [Act.put,s0,s1,s2,i64_w,i32_w]
    rfl
   refine pv (i:=21) (N:=some 46) (v:=?_) (a':=?_) rfl rfl (any_of HT_.out (by kernel_rfl)) (Or.inl ⟨by rfl,?_⟩) ?_ ?_
   rotate_left
   ·intro w'
    go_simp
    with_reducible rfl
   rotate_left
   ·simp only [Act.put,s0,s1,s2,i64_w,i32_w]
    rfl
   refine pv (i:=22) (N:=some 47) (v:=?_) (a':=?_) rfl rfl (any_of HT_.out (by kernel_rfl)) (Or.inl ⟨by rfl,?_⟩) ?_ ?_
   rotate_left
   ·intro w'
    go_simp
    with_reducible rfl
   rotate_left
   ·simp only [Act.put,s0,s1,s2,i64_w,i32_w]
    rfl
   refine pv (i:=23) (N:=some 48) (v:=?_) (a':=?_) rfl rfl (any_of HT_.out (by kernel_rfl)) (Or.inl ⟨by rfl,?_⟩) ?_ ?_
   rotate_left
   ·intro w'
    go_simp
    with_reducible rfl
   rotate_left
   ·simp only [Act.put,s0,s1,s2,i64_w,i32_w]
    rfl
   refine pv (i:=24) (N:=some 49) (v:=?_) (a':=?_) rfl rfl (any_of HT_.out (by kernel_rfl)) (Or.inl ⟨by rfl,?_⟩) ?_ ?_
   rotate_left
   ·intro w'
    go_simp
    with_reducible rfl
   rotate_left
   ·simp only [Act.put,s0,s1,s2,i64_w,i32_w]
    rfl
   refine one_ (i:=25) (N:=some 50) #[true,true,true,true,true,true,true,true,true,true,true,true,true,true,true,true,true,true,true,true,true,true,true,true,true,true,false,false,false,false,false,false,false,false,false] rfl rfl (one_of HT_.out (by kernel_rfl)) (by decide) (fun K hK=>?_)
   refine goes_ Tryd.func24 (by kernel_rfl) rfl #[.int .i64 (-3),.int .i64 6] (by rfl) rfl rfl (by (try simp only [List.map_toArray,List.map_cons,List.map_nil]);first|done|rfl) ?_
   with_reducible refine (rat_Of.calls k (-3) 6 t718 t719 t722 _ A15.out).mono ?_
   rintro e w55 ⟨v720,v723,rfl,ho0,ho1,hb⟩
   refine ⟨_,rfl,?_⟩
   have n0_:=Aside0.mk (Kd.R_mono (Kd.R_told (Kd.R_told (Kd.R_old (Ru HO669.out) hb) (Kd.R_base ho0)) (Kd.R_base ho1)) (fun _ h_=>h_.1))
   have n1_:=Aside0.mk (Kd.R_mono (Kd.R_told (Kd.R_told (Kd.R_old (Ru HO672.out) hb) (Kd.R_base ho0)) (Kd.R_base ho1)) (fun _ h_=>h_.1))
   have n2_:=Aside0.mk (Kd.R_mono (Kd.R_told (Kd.R_told (Kd.R_old (Ru HO678.out) hb) (Kd.R_base ho0)) (Kd.R_base ho1)) (fun _ h_=>h_.1))
   have n3_:=Aside0.mk (Kd.R_mono (Kd.R_told (Kd.R_told (Kd.R_old (Ru HO681.out) hb) (Kd.R_base ho0)) (Kd.R_base ho1)) (fun _ h_=>h_.1))
   have n4_:=Aside0.mk (Kd.R_mono (Kd.R_told (Kd.R_told (Kd.R_old (Ru HO687.out) hb) (Kd.R_base ho0)) (Kd.R_base ho1)) (fun _ h_=>h_.1))
   have n5_:=Aside0.mk (Kd.R_mono (Kd.R_told (Kd.R_told (Kd.R_old (Ru HO690.out) hb) (Kd.R_base ho0)) (Kd.R_base ho1)) (fun _ h_=>h_.1))
   have n6_:=Aside0.mk (Kd.R_mono (Kd.R_told (Kd.R_told (Kd.R_old (Ru HO696.out) hb) (Kd.R_base ho0)) (Kd.R_base ho1)) (fun _ h_=>h_.1))
   have n7_:=Aside0.mk (Kd.R_mono (Kd.R_told (Kd.R_told (Kd.R_old (Ru HO699.out) hb) (Kd.R_base ho0)) (Kd.R_base ho1)) (fun _ h_=>h_.1))
   have n8_:=Aside0.mk (Kd.R_mono (Kd.R_told (Kd.R_told (Kd.R_old (Ru HO705.out) hb) (Kd.R_base ho0)) (Kd.R_base ho1)) (fun _ h_=>h_.1))
   have n9_:=Aside0.mk (Kd.R_mono (Kd.R_told (Kd.R_told (Kd.R_old (Ru HO708.out) hb) (Kd.R_base ho0)) (Kd.R_base ho1)) (fun _ h_=>h_.1))
   have n10_:=Aside0.mk (Kd.R_mono (Kd.R_told (Kd.R_told (Kd.R_old (Ru HO713.out) hb) (Kd.R_base ho0)) (Kd.R_base ho1)) (fun _ h_=>h_.1))
   have n11_:=Aside0.mk (Kd.R_mono (Kd.R_told (Kd.R_told (Kd.R_old (Ru HO716.out) hb) (Kd.R_base ho0)) (Kd.R_base ho1)) (fun _ h_=>h_.1))
   have n12_:=Aside0.mk (Kd.R_lower (Kd.R_new' (Kd.R_new' (Kd.R_new' (Kd.R_new' (Kd.R_new' (Kd.R_new' (Kd.R_new' (Kd.R_new' (Kd.R_new' (Kd.R_new' (Kd.R_new' (Kd.R_new' ho0 (Kd.R_lt (Ru HO669.out))) (Kd.R_lt (Ru HO672.out))) (Kd.R_lt (Ru HO678.out))) (Kd.R_lt (Ru HO681.out))) (Kd.R_lt (Ru HO687.out))) (Kd.R_lt (Ru HO690.out))) (Kd.R_lt (Ru HO696.out))) (Kd.R_lt (Ru HO699.out))) (Kd.R_lt (Ru HO705.out))) (Kd.R_lt (Ru HO708.out))) (Kd.R_lt (Ru HO713.out))) (Kd.R_lt (Ru HO716.out))) (below_size (by repeat (first|with_reducible exact HB.out|apply ba|apply bn|apply b1|refine below_set ?_ GE674.out|refine below_set ?_ GE683.out|refine below_set ?_ GE692.out|refine below_set ?_ GE701.out))))
   have n13_:=Aside0.mk (Kd.R_lower (Kd.R_new' (Kd.R_new' (Kd.R_new' (Kd.R_new' (Kd.R_new' (Kd.R_new' (Kd.R_new' (Kd.R_new' (Kd.R_new' (Kd.R_new' (Kd.R_new' (Kd.R_new' ho1 (Kd.R_lt (Ru HO669.out))) (Kd.R_lt (Ru HO672.out))) (Kd.R_lt (Ru HO678.out))) (Kd.R_lt (Ru HO681.out))) (Kd.R_lt (Ru HO687.out))) (Kd.R_lt (Ru HO690.out))) (Kd.R_lt (Ru HO696.out))) (Kd.R_lt (Ru HO699.out))) (Kd.R_lt (Ru HO705.out))) (Kd.R_lt (Ru HO708.out))) (Kd.R_lt (Ru HO713.out))) (Kd.R_lt (Ru HO716.out))) (below_size (by repeat (first|with_reducible exact HB.out|apply ba|apply bn|apply b1|refine below_set ?_ GE674.out|refine below_set ?_ GE683.out|refine below_set ?_ GE692.out|refine below_set ?_ GE701.out))))
   have n14_:=Aside0.mk (blk_below (g:=gb674) (o:=.cells #[.bool t666,.slice Ao22 t667.length co22,.slice Ao23 t670.length co23] 25 (0,0)) (Bu BK674.out) hb)
   have n15_:=Aside0.mk (blk_below (g:=gb683) (o:=.cells #[.bool t675,.slice Ao28 t676.length co28,.slice Ao29 t679.length co29] 25 (0,0)) (Bu BK683.out) hb)
   have n16_:=Aside0.mk (blk_below (g:=gb692) (o:=.cells #[.bool t684,.slice Ao35 t685.length co35,.slice Ao36 t688.length co36] 25 (0,0)) (Bu BK692.out) hb)
   have n17_:=Aside0.mk (blk_below (g:=gb701) (o:=.cells #[.bool t693,.slice Ao43 t694.length co43,.slice Ao44 t697.length co44] 25 (0,0)) (Bu BK701.out) hb)
   have n18_:=Aside0.mk (below_step (by repeat (first|with_reducible exact HB.out|apply ba|apply bn|apply b1|refine below_set ?_ GE674.out|refine below_set ?_ GE683.out|refine below_set ?_ GE692.out|refine below_set ?_ GE701.out)) hb)
   clear HO669
   clear HO672
   clear HO678
   clear HO681
   clear HO687
   clear HO690
   clear HO696
   clear HO699
   clear HO705
   clear HO708
   clear HO713
   clear HO716
   clear BK674
   clear BK683
   clear BK692
   clear BK701
   clear HB
   have HO669:=n0_
   have HO672:=n1_
   have HO678:=n2_
   have HO681:=n3_
   have HO687:=n4_
   have HO690:=n5_
   have HO696:=n6_
   have HO699:=n7_
   have HO705:=n8_
   have HO708:=n9_
   have HO713:=n10_
   have HO716:=n11_
   have HO721:=n12_
   have HO724:=n13_
   have BK674:=n14_
   have BK683:=n15_
   have BK692:=n16_
   have BK701:=n17_
   have HB:=n18_
   clear n0_ n1_ n2_ n3_ n4_ n5_ n6_ n7_ n8_ n9_ n10_ n11_ n12_ n13_ n14_ n15_ n16_ n17_ n18_
   (try clear hb)
   (try clear hb2)
   (try clear hk)
   (try clear hi)
   (try clear ho0)
   (try clear ho1)
   obtain ⟨Ao56,co56,eo56⟩:=Kd.R_slice HO721.out
   (first|subst eo56|(injection eo56 with f1_ f2_ f3_;have f4_:=f1_.symm;have f5_:=f3_.symm;clear f1_ f2_ f3_;subst f4_;subst f5_))
   obtain ⟨Ao57,co57,eo57⟩:=Kd.R_slice HO724.out
   (first|subst eo57|(injection eo57 with f1_ f2_ f3_;have f4_:=f1_.symm;have f5_:=f3_.symm;clear f1_ f2_ f3_;subst f4_;subst f5_))
   refine hK.out _ _ ⟨(blk_cell BK674.out 0).trans rfl,(blk_cell BK674.out 1).trans rfl,(blk_cell BK674.out 2).trans rfl,(blk_cell BK683.out 0).trans rfl,(blk_cell BK683.out 1).trans rfl,(blk_cell BK683.out 2).trans rfl⟩ (fun hHeld=>?_)
   clear hK K
   refine norm_ (a':=?_) ?_ ?_
   rotate_left
   ·show Act.put _ (some 50) _=_
    simp only [Act.put,s0,s1,s2,i64_w,i32_w]
    rfl
   refine one_ (i:=26) (N:=some 51) #[true,true,true,true,true,true,true,true,true,true,true,true,true,true,true,true,true,true,true,true,true,true,true,true,true,true,true,false,false,false,false,false,false,false,false] rfl rfl (one_of HT_.out (by kernel_rfl)) (by decide) (fun K hK=>?_)
   refine goes_ Tryd.func12 (by kernel_rfl) rfl #[.agg #[.bool t718,.slice Ao56 t719.length co56,.slice Ao57 t722.length co57]] (by rfl) rfl rfl (by (try simp only [List.map_toArray,List.map_cons,List.map_nil]);first|done|rfl) ?_
   with_reducible refine (decimal_Print.calls k t718 _ _ t719 _ _ t722 t725 _ ?side1 ?side2 ?side3 ?side4 A16.out).mono ?_
   (case side1=>exact Cu (Kd.R_reads' HO721.out).2.2)
   (case side2=>exact (Kd.R_reads' HO721.out).2.1)
   (case side3=>exact Cu (Kd.R_reads' HO724.out).2.2)
   (case side4=>exact (Kd.R_reads' HO724.out).2.1)
   rintro e w58 ⟨rfl,hb⟩
   refine ⟨_,rfl,?_⟩
   have n0_:=Aside0.mk (Kd.R_below (Ru HO669.out) hb)
   have n1_:=Aside0.mk (Kd.R_below (Ru HO672.out) hb)
   have n2_:=Aside0.mk (Kd.R_below (Ru HO678.out) hb)
   have n3_:=Aside0.mk (Kd.R_below (Ru HO681.out) hb)
   have n4_:=Aside0.mk (Kd.R_below (Ru HO687.out) hb)
   have n5_:=Aside0.mk (Kd.R_below (Ru HO690.out) hb)
   have n6_:=Aside0.mk (Kd.R_below (Ru HO696.out) hb)
   have n7_:=Aside0.mk (Kd.R_below (Ru HO699.out) hb)
   have n8_:=Aside0.mk (Kd.R_below (Ru HO705.out) hb)
   have n9_:=Aside0.mk (Kd.R_below (Ru HO708.out) hb)
   have n10_:=Aside0.mk (Kd.R_below (Ru HO713.out) hb)
   have n11_:=Aside0.mk (Kd.R_below (Ru HO716.out) hb)
   have n12_:=Aside0.mk (Kd.R_below (Ru HO721.out) hb)
   have n13_:=Aside0.mk (Kd.R_below (Ru HO724.out) hb)
   have n14_:=Aside0.mk (blk_below (g:=gb674) (o:=.cells #[.bool t666,.slice Ao22 t667.length co22,.slice Ao23 t670.length co23] 25 (0,0)) (Bu BK674.out) hb)
   have n15_:=Aside0.mk (blk_below (g:=gb683) (o:=.cells #[.bool t675,.slice Ao28 t676.length co28,.slice Ao29 t679.length co29] 25 (0,0)) (Bu BK683.out) hb)
   have n16_:=Aside0.mk (blk_below (g:=gb692) (o:=.cells #[.bool t684,.slice Ao35 t685.length co35,.slice Ao36 t688.length co36] 25 (0,0)) (Bu BK692.out) hb)
   have n17_:=Aside0.mk (blk_below (g:=gb701) (o:=.cells #[.bool t693,.slice Ao43 t694.length co43,.slice Ao44 t697.length co44] 25 (0,0)) (Bu BK701.out) hb)
   have n18_:=Aside0.mk (below_step (by repeat (first|with_reducible exact HB.out|apply ba|apply bn|apply b1|refine below_set ?_ GE674.out|refine below_set ?_ GE683.out|refine below_set ?_ GE692.out|refine below_set ?_ GE701.out)) hb)
   clear HO669
   clear HO672
   clear HO678
   clear HO681
   clear HO687
   clear HO690
   clear HO696
   clear HO699
   clear HO705
   clear HO708
   clear HO713
   clear HO716
   clear HO721
   clear HO724
   clear BK674
   clear BK683
   clear BK692
   clear BK701
   clear HB
   have HO669:=n0_
   have HO672:=n1_
   have HO678:=n2_
   have HO681:=n3_
   have HO687:=n4_
   have HO690:=n5_
   have HO696:=n6_
   have HO699:=n7_
   have HO705:=n8_
   have HO708:=n9_
   have HO713:=n10_
   have HO716:=n11_
   have HO721:=n12_
   have HO724:=n13_
   have BK674:=n14_
   have BK683:=n15_
   have BK692:=n16_
   have BK701:=n17_
   have HB:=n18_
   clear n0_ n1_ n2_ n3_ n4_ n5_ n6_ n7_ n8_ n9_ n10_ n11_ n12_ n13_ n14_ n15_ n16_ n17_ n18_
   (try clear hb)
   (try clear hb2)
   (try clear hk)
   (try clear hi)
   refine hK.out _ _ ⟨(blk_cell BK674.out 0).trans rfl,(blk_cell BK674.out 1).trans rfl,(blk_cell BK674.out 2).trans rfl,(blk_cell BK683.out 0).trans rfl,(blk_cell BK683.out 1).trans rfl,(blk_cell BK683.out 2).trans rfl⟩ (fun hHeld=>?_)
   clear hK K
   refine norm_ (a':=?_) ?_ ?_
   rotate_left
   ·show Act.put _ (some 51) _=_
    simp only [Act.put,s0,s1,s2,i64_w,i32_w]
    rfl
   refine pv (i:=27) (N:=some 52) (v:=?_) (a':=?_) rfl rfl (any_of HT_.out (by kernel_rfl)) (Or.inl ⟨by rfl,?_⟩) ?_ ?_
   rotate_left
   ·intro w'
    go_simp
    with_reducible rfl
   rotate_left
   ·simp only [Act.put,s0,s1,s2,i64_w,i32_w]
    rfl
   refine pv (i:=28) (N:=some 53) (v:=?_) (a':=?_) rfl rfl (any_of HT_.out (by kernel_rfl)) (Or.inl ⟨by rfl,?_⟩) ?_ ?_
   rotate_left
   ·intro w'
    go_simp
    with_reducible rfl
   rotate_left
   ·simp only [Act.put,s0,s1,s2,i64_w,i32_w]
    rfl
   refine pv (i:=29) (N:=some 54) (v:=?_) (a':=?_) rfl rfl (any_of HT_.out (by kernel_rfl)) (Or.inl ⟨by rfl,?_⟩) ?_ ?_
   rotate_left
   ·intro w'
    go_simp
    with_reducible rfl
   rotate_left
   ·simp only [Act.put,s0,s1,s2,i64_w,i32_w]
    rfl
   refine one_ (i:=30) (N:=some 55) #[true,true,true,true,true,true,true,true,true,true,true,true,true,true,true,true,true,true,true,true,true,true,true,true,true,true,true,true,true,true,true,false,false,false,false] rfl rfl (one_of HT_.out (by kernel_rfl)) (by decide) (fun K hK=>?_)
   refine Kd.R_lit_step (Kd.int .u32) _ 35 ?hg (N:=55) ?hd (xs:=([0,1] : List Int)) (inner:=[.int .u32 0,.int .u32 1]) (ok:=fun _=>True) (okp:=fun _=>True) ?hr ?hp (fun _ hk=>hk) trivial (Below.refl _ _) (Nat.le_refl _) (by simp) ?_;(case hd=>rfl);(case hg=>rfl);(case hr=>first|(go_simp;done)|(go_simp;(with_reducible rfl))|(go_simp;rfl)|(go_simp;simp only [hu,Int.emod_sub_emod]));(case hp=>exact (Reps.one (show Kd.M (Kd.int .u32) _ _ _ 0 [.int .u32 0] from rfl) (Reps.one (show Kd.M (Kd.int .u32) _ _ _ 1 [.int .u32 1] from rfl) (Reps.none _ _))))
   intro v727 w59 ho60 hb hg_ hnew_
   clear hg_ hnew_
   (first|rw [← Ny726.out] at ho60|(simp only [Int.reduceToNat] at ho60;rw [← Ny726.out] at ho60))
   have n0_:=Aside0.mk (Kd.R_elder' (Ru HO669.out) (Kd.R_base ho60) hb)
   have n1_:=Aside0.mk (Kd.R_elder' (Ru HO672.out) (Kd.R_base ho60) hb)
   have n2_:=Aside0.mk (Kd.R_elder' (Ru HO678.out) (Kd.R_base ho60) hb)
   have n3_:=Aside0.mk (Kd.R_elder' (Ru HO681.out) (Kd.R_base ho60) hb)
   have n4_:=Aside0.mk (Kd.R_elder' (Ru HO687.out) (Kd.R_base ho60) hb)
   have n5_:=Aside0.mk (Kd.R_elder' (Ru HO690.out) (Kd.R_base ho60) hb)
   have n6_:=Aside0.mk (Kd.R_elder' (Ru HO696.out) (Kd.R_base ho60) hb)
   have n7_:=Aside0.mk (Kd.R_elder' (Ru HO699.out) (Kd.R_base ho60) hb)
   have n8_:=Aside0.mk (Kd.R_elder' (Ru HO705.out) (Kd.R_base ho60) hb)
   have n9_:=Aside0.mk (Kd.R_elder' (Ru HO708.out) (Kd.R_base ho60) hb)
   have n10_:=Aside0.mk (Kd.R_elder' (Ru HO713.out) (Kd.R_base ho60) hb)
   have n11_:=Aside0.mk (Kd.R_elder' (Ru HO716.out) (Kd.R_base ho60) hb)
   have n12_:=Aside0.mk (Kd.R_elder' (Ru HO721.out) (Kd.R_base ho60) hb)
   have n13_:=Aside0.mk (Kd.R_elder' (Ru HO724.out) (Kd.R_base ho60) hb)
   have n14_:=Aside0.mk (Kd.R_lower (Kd.R_new' (Kd.R_new' (Kd.R_new' (Kd.R_new' (Kd.R_new' (Kd.R_new' (Kd.R_new' (Kd.R_new' (Kd.R_new' (Kd.R_new' (Kd.R_new' (Kd.R_new' (Kd.R_new' (Kd.R_new' ho60 (Kd.R_lt (Ru HO669.out))) (Kd.R_lt (Ru HO672.out))) (Kd.R_lt (Ru HO678.out))) (Kd.R_lt (Ru HO681.out))) (Kd.R_lt (Ru HO687.out))) (Kd.R_lt (Ru HO690.out))) (Kd.R_lt (Ru HO696.out))) (Kd.R_lt (Ru HO699.out))) (Kd.R_lt (Ru HO705.out))) (Kd.R_lt (Ru HO708.out))) (Kd.R_lt (Ru HO713.out))) (Kd.R_lt (Ru HO716.out))) (Kd.R_lt (Ru HO721.out))) (Kd.R_lt (Ru HO724.out))) (below_size (by repeat (first|with_reducible exact HB.out|apply ba|apply bn|apply b1|refine below_set ?_ GE674.out|refine below_set ?_ GE683.out|refine below_set ?_ GE692.out|refine below_set ?_ GE701.out))))
   have n15_:=Aside0.mk (blk_below (g:=gb674) (o:=.cells #[.bool t666,.slice Ao22 t667.length co22,.slice Ao23 t670.length co23] 25 (0,0)) (Bu BK674.out) hb)
   have n16_:=Aside0.mk (blk_below (g:=gb683) (o:=.cells #[.bool t675,.slice Ao28 t676.length co28,.slice Ao29 t679.length co29] 25 (0,0)) (Bu BK683.out) hb)
   have n17_:=Aside0.mk (blk_below (g:=gb692) (o:=.cells #[.bool t684,.slice Ao35 t685.length co35,.slice Ao36 t688.length co36] 25 (0,0)) (Bu BK692.out) hb)
   have n18_:=Aside0.mk (blk_below (g:=gb701) (o:=.cells #[.bool t693,.slice Ao43 t694.length co43,.slice Ao44 t697.length co44] 25 (0,0)) (Bu BK701.out) hb)
   have n19_:=Aside0.mk (below_step (by repeat (first|with_reducible exact HB.out|apply ba|apply bn|apply b1|refine below_set ?_ GE674.out|refine below_set ?_ GE683.out|refine below_set ?_ GE692.out|refine below_set ?_ GE701.out)) hb)
   clear HO669
   clear HO672
   clear HO678
   clear HO681
   clear HO687
   clear HO690
   clear HO696
   clear HO699
   clear HO705
   clear HO708
   clear HO713
   clear HO716
   clear HO721
   clear HO724
   clear BK674
   clear BK683
   clear BK692
   clear BK701
   clear HB
   have HO669:=n0_
   have HO672:=n1_
   have HO678:=n2_
   have HO681:=n3_
   have HO687:=n4_
   have HO690:=n5_
   have HO696:=n6_
   have HO699:=n7_
   have HO705:=n8_
   have HO708:=n9_
   have HO713:=n10_
   have HO716:=n11_
   have HO721:=n12_
   have HO724:=n13_
   have HO728:=n14_
   have BK674:=n15_
   have BK683:=n16_
   have BK692:=n17_
   have BK701:=n18_
   have HB:=n19_
   clear n0_ n1_ n2_ n3_ n4_ n5_ n6_ n7_ n8_ n9_ n10_ n11_ n12_ n13_ n14_ n15_ n16_ n17_ n18_ n19_
   clear hb ho60
   obtain ⟨Ao61,co61,eo61⟩:=Kd.R_slice HO728.out
   (first|subst eo61|(injection eo61 with f1_ f2_ f3_;have f4_:=f1_.symm;have f5_:=f3_.symm;clear f1_ f2_ f3_;subst f4_;subst f5_))
   refine hK.out _ _ ⟨(blk_cell BK674.out 0).trans rfl,(blk_cell BK674.out 1).trans rfl,(blk_cell BK674.out 2).trans rfl,(blk_cell BK683.out 0).trans rfl,(blk_cell BK683.out 1).trans rfl,(blk_cell BK683.out 2).trans rfl⟩ (fun hHeld=>?_)
   clear hK K
   refine norm_ (a':=?_) ?_ ?_
   rotate_left
   ·show Act.put _ (some 55) _=_
    simp only [Act.put,s0,s1,s2,i64_w,i32_w]
    rfl
   refine one_ (i:=31) (N:=some 56) #[true,true,true,true,true,true,true,true,true,true,true,true,true,true,true,true,true,true,true,true,true,true,true,true,true,true,true,true,true,true,true,true,false,false,false] rfl rfl (one_of HT_.out (by kernel_rfl)) (by decide) (fun K hK=>?_)
   refine goes_ Tryd.func14 (by kernel_rfl) rfl #[.slice Ao61 y726.length co61] (by rfl) rfl rfl (by (try simp only [List.map_toArray,List.map_cons,List.map_nil]);first|done|rfl) ?_
   with_reducible refine (decimal_Natural.calls k _ _ y726 t729 _ ?side1 ?side2 A18.out).mono ?_
   (case side1=>exact Cu (Kd.R_reads' HO728.out).2.2)
   (case side2=>exact (Kd.R_reads' HO728.out).2.1)
   rintro e w62 ⟨rfl,hb⟩
   refine ⟨_,rfl,?_⟩
   have n0_:=Aside0.mk (Kd.R_below (Ru HO669.out) hb)
   have n1_:=Aside0.mk (Kd.R_below (Ru HO672.out) hb)
   have n2_:=Aside0.mk (Kd.R_below (Ru HO678.out) hb)
   have n3_:=Aside0.mk (Kd.R_below (Ru HO681.out) hb)
   have n4_:=Aside0.mk (Kd.R_below (Ru HO687.out) hb)
   have n5_:=Aside0.mk (Kd.R_below (Ru HO690.out) hb)
   have n6_:=Aside0.mk (Kd.R_below (Ru HO696.out) hb)
   have n7_:=Aside0.mk (Kd.R_below (Ru HO699.out) hb)
   have n8_:=Aside0.mk (Kd.R_below (Ru HO705.out) hb)
   have n9_:=Aside0.mk (Kd.R_below (Ru HO708.out) hb)
   have n10_:=Aside0.mk (Kd.R_below (Ru HO713.out) hb)
   have n11_:=Aside0.mk (Kd.R_below (Ru HO716.out) hb)
   have n12_:=Aside0.mk (Kd.R_below (Ru HO721.out) hb)
   have n13_:=Aside0.mk (Kd.R_below (Ru HO724.out) hb)
   have n14_:=Aside0.mk (Kd.R_below (Ru HO728.out) hb)
   have n15_:=Aside0.mk (blk_below (g:=gb674) (o:=.cells #[.bool t666,.slice Ao22 t667.length co22,.slice Ao23 t670.length co23] 25 (0,0)) (Bu BK674.out) hb)
   have n16_:=Aside0.mk (blk_below (g:=gb683) (o:=.cells #[.bool t675,.slice Ao28 t676.length co28,.slice Ao29 t679.length co29] 25 (0,0)) (Bu BK683.out) hb)
   have n17_:=Aside0.mk (blk_below (g:=gb692) (o:=.cells #[.bool t684,.slice Ao35 t685.length co35,.slice Ao36 t688.length co36] 25 (0,0)) (Bu BK692.out) hb)
   have n18_:=Aside0.mk (blk_below (g:=gb701) (o:=.cells #[.bool t693,.slice Ao43 t694.length co43,.slice Ao44 t697.length co44] 25 (0,0)) (Bu BK701.out) hb)
   have n19_:=Aside0.mk (below_step (by repeat (first|with_reducible exact HB.out|apply ba|apply bn|apply b1|refine below_set ?_ GE674.out|refine below_set ?_ GE683.out|refine below_set ?_ GE692.out|refine below_set ?_ GE701.out)) hb)
   clear HO669
   clear HO672
   clear HO678
   clear HO681
   clear HO687
   clear HO690
   clear HO696
   clear HO699
   clear HO705
   clear HO708
   clear HO713
   clear HO716
   clear HO721
   clear HO724
   clear HO728
   clear BK674
   clear BK683
   clear BK692
   clear BK701
   clear HB
   have HO669:=n0_
   have HO672:=n1_
   have HO678:=n2_
   have HO681:=n3_
   have HO687:=n4_
   have HO690:=n5_
   have HO696:=n6_
   have HO699:=n7_
   have HO705:=n8_
   have HO708:=n9_
   have HO713:=n10_
   have HO716:=n11_
   have HO721:=n12_
   have HO724:=n13_
   have HO728:=n14_
   have BK674:=n15_
   have BK683:=n16_
   have BK692:=n17_
   have BK701:=n18_
   have HB:=n19_
   clear n0_ n1_ n2_ n3_ n4_ n5_ n6_ n7_ n8_ n9_ n10_ n11_ n12_ n13_ n14_ n15_ n16_ n17_ n18_ n19_
   (try clear hb)
   (try clear hb2)
   (try clear hk)
   (try clear hi)
   refine hK.out _ _ ⟨(blk_cell BK674.out 0).trans rfl,(blk_cell BK674.out 1).trans rfl,(blk_cell BK674.out 2).trans rfl,(blk_cell BK683.out 0).trans rfl,(blk_cell BK683.out 1).trans rfl,(blk_cell BK683.out 2).trans rfl⟩ (fun hHeld=>?_)
   clear hK K
   refine norm_ (a':=?_) ?_ ?_
   rotate_left
   ·show Act.put _ (some 56) _=_
    simp only [Act.put,s0,s1,s2,i64_w,i32_w]
    rfl
   refine pv (i:=32) (N:=some 57) (v:=?_) (a':=?_) rfl rfl (any_of HT_.out (by kernel_rfl)) (Or.inl ⟨by rfl,?_⟩) ?_ ?_
   rotate_left
   ·intro w'
    go_simp
    with_reducible rfl
   rotate_left
   ·simp only [Act.put,s0,s1,s2,i64_w,i32_w]
    rfl
   refine pv (i:=33) (N:=some 58) (v:=?_) (a':=?_) rfl rfl (any_of HT_.out (by kernel_rfl)) (Or.inl ⟨by rfl,?_⟩) ?_ ?_
   rotate_left
   ·intro w'
    go_simp
    with_reducible rfl
   rotate_left
   ·simp only [Act.put,s0,s1,s2,i64_w,i32_w]
    rfl
   refine pv (i:=34) (N:=some 0) (v:=?_) (a':=?_) rfl rfl (any_of HT_.out (by kernel_rfl)) (Or.inl ⟨by rfl,?_⟩) ?_ ?_
   rotate_left
   ·intro w'
    go_simp
    with_reducible rfl
   rotate_left
   ·simp only [Act.put,s0,s1,s2,i64_w,i32_w]
    rfl
   refine done_ (done_of HT_.out (by kernel_rfl)) ?_
   try go_wp2
   go_ret
   exact ⟨by first|rfl|(simp [errW_none,errW_some] <;> rfl)|(simp [*,errW_none,errW_some] <;> rfl),by repeat (first|with_reducible exact HB.out|apply ba|apply bn|apply b1|refine below_set ?_ GE674.out|refine below_set ?_ GE683.out|refine below_set ?_ GE692.out|refine below_set ?_ GE701.out)⟩
  ·replace c12:=Bool.eq_false_iff.mpr c12
   subst c12
   rw [if_neg (show ¬ (false=true) by decide)] at H
   exact absurd H (by simp)
 ·replace c8:=Bool.eq_false_iff.mpr c8
  subst c8
  rw [if_neg (show ¬ (false=true) by decide)] at H
  exact absurd H (by simp)
end Go.Proofs.YtncdiodnbkhacaaDoor.Pq
end
end
section
namespace Go.Proofs.YtncdiodnbkhacaaDoor.Pq
open Go.RowKit Go.Proofs.YtncdiodnbkhacaaDoorW.PrintWords Go.Proofs.YtncdiodnbkhacaaDoorW.PrintLast Go.Proofs.YtncdiodnbkhacaaDoorW.PrintMore
attribute [local go_sem] max2_int min2_int max_two min_two max_three min_three max_four min_four   -- for this text's walks alone
set_option linter.unusedVariables false
set_option linter.unusedSimpArgs false
set_option maxHeartbeats 8000000 in
set_option maxRecDepth 100000 in
theorem nat_Sub.calls (k : Nat) (A0 : Option Addr) (c0 : Nat) (l0 : List Int) (A1 : Option Addr) (c1 : Nat) (l1 : List Int) (r1 : List Int) (r2 : Bool) (w : World) (hr0 : Kd.C (Kd.int .u32) w A0 l0.length l0) (hc0 : l0.length≤c0) (hr1 : Kd.C (Kd.int .u32) w A1 l1.length l1) (hc1 : l1.length≤c1) (h : nat_Sub.f k l0 l1=some (r1,r2)) :
  Calls Tryd.prog 77 #[.slice A0 l0.length c0,.slice A1 l1.length c1] w fun e w'=>∃ v0_ : Value,e=.returned (.tuple #[v0_,.bool r2])∧Kd.R (Kd.int .u32) 35 w' w.heap.size (fun _=>True) v0_ r1∧Below w.heap.size w w':=by
 have HR0:=Aside0.mk hr0
 have HC0:=Aside0.mk hc0
 clear hr0 hc0
 have HR1:=Aside0.mk hr1
 have HC1:=Aside0.mk hc1
 clear hr1 hc1
 have HB:=Aside0.mk (Below.refl w.heap.size w)
 have H : ((nat_Cmp.f k l0 l1).bind fun t945=>(if t945 < 0 then (some (([] : List Int),false)) else ((nat_trim.f l0).bind fun t946=>((nat_trim.f l1).bind fun t948=>(if 0≤(t946.length : Int) then (if ((t946.length : Int) : Int).toNat≤70368744177664 then (nat_Sub.l0 k t948 (([] : List Int)) 0 t946 (t946.length : Int) 0) else (none)) else (none))))))=some (r1,r2):=h
 clear h
 replace H:=Option.bind_eq_some_iff.mp H
 obtain ⟨t945,A30,H⟩:=H
 replace H : (if t945 < 0 then (some (([] : List Int),false)) else ((nat_trim.f l0).bind fun t946=>((nat_trim.f l1).bind fun t948=>(if 0≤(t946.length : Int) then (if ((t946.length : Int) : Int).toNat≤70368744177664 then (nat_Sub.l0 k t948 (([] : List Int)) 0 t946 (t946.length : Int) 0) else (none)) else (none)))))=some (r1,r2):=H
 have A3:=Aside0.mk A30
 clear A30
 by_cases c4 : t945 < 0
 ·rw [if_pos c4] at H
  have c4b0 : decide (t945 < 0)=true:=decide_eq_true c4
  clear c4
  simp only [Option.some.injEq,Prod.mk.injEq] at H
  obtain ⟨rfl,rfl⟩:=H
  go_enter Tryd.func77,Tryd.ntmps77
  go_wp2_with (first|((with_reducible refine gate_callee (f:=61) rfl ?_);refine goesL_ (some 14) rfl rfl Tryd.func61 (by kernel_rfl) rfl #[.slice A0 l0.length c0,.slice A1 l1.length c1] rfl (by (try simp only [List.map_toArray,List.map_cons,List.map_nil]);first|done|rfl|(simp only [List.length_drop,List.length_take];rfl)) ?_;(with_reducible refine (nat_Cmp.calls k _ _ l0 _ _ l1 t945 _ ?side1 ?side2 ?side3 ?side4 A3.out).mono ?_);(case side1=>repeat (first|exact HR0.out|(with_reducible refine Kd.C_alloc ?_ _)|(with_reducible refine Kd.C_drewN ?_ _)|(with_reducible refine Kd.C_drew ?_)));(case side2=>exact HC0.out);(case side3=>repeat (first|exact HR1.out|(with_reducible refine Kd.C_alloc ?_ _)|(with_reducible refine Kd.C_drewN ?_ _)|(with_reducible refine Kd.C_drew ?_)));(case side4=>exact HC1.out);rintro e w' ⟨rfl,⟨nd,rfl⟩⟩;refine ⟨_,rfl,?_⟩))
  go_ret2
  exact ⟨_,by first|rfl|(simp [errW_none,errW_some] <;> rfl)|(simp [*,errW_none,errW_some] <;> rfl),by first|exact Kd.R_nil _ _ _ _ _|exact Kd.N_nil _ _ _ _ _|exact Kd.V_nil _ _ _ _ _|exact Kd.Q_nil _ _ _ _ _|exact Kd.S_nil _ _ _ _ _,by repeat (first|(with_reducible first|exact HB.out|apply below_alloc|apply pw_below_drewN|apply below_drew1)|exact HB.out)⟩
 ·rw [if_neg c4] at H
  have c4b0 : decide (t945 < 0)=false:=decide_eq_false c4
  clear c4
  replace H:=Option.bind_eq_some_iff.mp H
  obtain ⟨t946,A50,H⟩:=H
  replace H : ((nat_trim.f l1).bind fun t948=>(if 0≤(t946.length : Int) then (if ((t946.length : Int) : Int).toNat≤70368744177664 then (nat_Sub.l0 k t948 (([] : List Int)) 0 t946 (t946.length : Int) 0) else (none)) else (none)))=some (r1,r2):=H
  have A5:=Aside0.mk A50
  clear A50
  replace H:=Option.bind_eq_some_iff.mp H
  obtain ⟨t948,A60,H⟩:=H
  replace H : (if 0≤(t946.length : Int) then (if ((t946.length : Int) : Int).toNat≤70368744177664 then (nat_Sub.l0 k t948 (([] : List Int)) 0 t946 (t946.length : Int) 0) else (none)) else (none))=some (r1,r2):=H
  have A6:=Aside0.mk A60
  clear A60
  by_cases c7 : 0≤(t946.length : Int)
  ·rw [if_pos c7] at H
   have c7b0:=eq_true c7
   have c7b1 : decide (0≤(t946.length : Int))=true:=decide_eq_true c7
   clear c7
   by_cases c8 : ((t946.length : Int) : Int).toNat≤70368744177664
   ·rw [if_pos c8] at H
    have c8b0:=eq_true c8
    have c8b1 : decide (((t946.length : Int) : Int).toNat≤70368744177664)=true:=decide_eq_true c8
    clear c8
    obtain ⟨y950,hy950⟩ : ∃ y_ : List Int,y_=(([] : List Int)):=⟨_,rfl⟩
    replace H : (nat_Sub.l0 k t948 y950 0 t946 (t946.length : Int) 0)=some (r1,r2):=by first|(rw [hy950];with_reducible exact H)|(have H2_:=(Option.bind_some _ _).symm.trans H;rw [hy950];with_reducible exact H2_)|(have H2_:=(Option.bind_some _ _).symm.trans H;with_reducible exact H2_)|with_reducible exact H|(rw [hy950];exact H)|exact H
    have Ny950:=Aside0.mk hy950
    clear hy950
    have H':=Aside0.mk H
    clear H
    go_enter Tryd.func77,Tryd.ntmps77
    go_wp2_with (first|((with_reducible refine gate_callee (f:=61) rfl ?_);refine goesL_ (some 14) rfl rfl Tryd.func61 (by kernel_rfl) rfl #[.slice A0 l0.length c0,.slice A1 l1.length c1] rfl (by (try simp only [List.map_toArray,List.map_cons,List.map_nil]);first|done|rfl|(simp only [List.length_drop,List.length_take];rfl)) ?_;(with_reducible refine (nat_Cmp.calls k _ _ l0 _ _ l1 t945 _ ?side1 ?side2 ?side3 ?side4 A3.out).mono ?_);(case side1=>repeat (first|exact HR0.out|(with_reducible refine Kd.C_alloc ?_ _)|(with_reducible refine Kd.C_drewN ?_ _)|(with_reducible refine Kd.C_drew ?_)));(case side2=>exact HC0.out);(case side3=>repeat (first|exact HR1.out|(with_reducible refine Kd.C_alloc ?_ _)|(with_reducible refine Kd.C_drewN ?_ _)|(with_reducible refine Kd.C_drew ?_)));(case side4=>exact HC1.out);rintro e w' ⟨rfl,⟨nd,rfl⟩⟩;refine ⟨_,rfl,?_⟩)|((with_reducible refine gate_callee (f:=43) rfl ?_);refine goesL_ (some 17) rfl rfl Tryd.func43 (by kernel_rfl) rfl #[.slice A0 l0.length c0] rfl (by (try simp only [List.map_toArray,List.map_cons,List.map_nil]);first|done|rfl|(simp only [List.length_drop,List.length_take];rfl)) ?_;(with_reducible refine (nat_trim.calls _ _ l0 t946 _ ?side1 ?side2 A5.out).mono ?_);(case side1=>repeat (first|exact HR0.out|(with_reducible refine Kd.C_alloc ?_ _)|(with_reducible refine Kd.C_drewN ?_ _)|(with_reducible refine Kd.C_drew ?_)));(case side2=>exact HC0.out);rintro e w' ⟨rfl,⟨nd,rfl⟩⟩;refine ⟨_,rfl,?_⟩;have HR947:=Aside0.mk (nat_trim.C HR0.out A5.out);have HC947:=Aside0.mk (Nat.le_refl t946.length))|((with_reducible refine gate_callee (f:=43) rfl ?_);refine goesL_ (some 19) rfl rfl Tryd.func43 (by kernel_rfl) rfl #[.slice A1 l1.length c1] rfl (by (try simp only [List.map_toArray,List.map_cons,List.map_nil]);first|done|rfl|(simp only [List.length_drop,List.length_take];rfl)) ?_;(with_reducible refine (nat_trim.calls _ _ l1 t948 _ ?side1 ?side2 A6.out).mono ?_);(case side1=>repeat (first|exact HR1.out|(with_reducible refine Kd.C_alloc ?_ _)|(with_reducible refine Kd.C_drewN ?_ _)|(with_reducible refine Kd.C_drew ?_)));(case side2=>exact HC1.out);rintro e w' ⟨rfl,⟨nd,rfl⟩⟩;refine ⟨_,rfl,?_⟩;have HR949:=Aside0.mk (nat_trim.C HR1.out A6.out);have HC949:=Aside0.mk (Nat.le_refl t948.length))|((with_reducible refine gate_dst (N:=22) rfl ?_);refine Kd.R_make0 (Kd.int .u32) _ 35 rfl (N:=22) rfl 23 _ _ rfl (t946.length : Int) rfl rfl Tryd.underlying23 (.int .u32 0) 4 info35 rfl (by decide) (by omega) (ok:=fun _=>True) trivial (of_decide_eq_true (by first|(with_reducible assumption)|assumption)) (Nat.le_trans (Nat.mul_le_mul_right _ (of_decide_eq_true (by first|(with_reducible assumption)|assumption) : (t946.length : Int).toNat≤70368744177664)) (by omega)) (Below.refl _ _) (Nat.le_refl _) ?_;intro v951 w9 ho10 hb hg_ hnew_;clear hg_ hnew_;(first|rw [← Ny950.out] at ho10|(simp only [Int.reduceToNat] at ho10;rw [← Ny950.out] at ho10));have n0_:=Aside0.mk (Kd.R_lower ho10 (below_size (by repeat (first|(with_reducible first|exact HB.out|apply below_alloc|apply pw_below_drewN|apply below_drew1)|exact HB.out))));have n1_:=Aside0.mk (below_step (by repeat (first|(with_reducible first|exact HB.out|apply below_alloc|apply pw_below_drewN|apply below_drew1)|exact HB.out)) hb);clear HB;have HO952:=n0_;have HB:=n1_;clear n0_ n1_;clear hb ho10))
    go_loopg [6,7,25] k (fun kq v6 v7 v25 w'=>∃ (x6_1 : List Int) (x7_1 : Int) (x25_1 : Int),v7=.int .u32 x7_1∧v25=.int .i64 x25_1∧Aside0 (nat_Sub.l0 kq t948 x6_1 x7_1 t946 (t946.length : Int) x25_1=some (r1,r2))∧Aside0 (kq≤k)∧Aside0 (Kd.R (Kd.int .u32) 35 w' w.heap.size (fun _=>True) v6 x6_1)∧Aside0 (Below w.heap.size w w'))
    case atStart=>exact ⟨(y950),(0),(0),(by first|rfl|(simp;done)|(simp [*];done)),(by first|rfl|(simp;done)|(simp [*];done)),H',⟨Nat.le_refl _⟩,⟨by (with_reducible repeat (first|apply Kd.R_alloc|apply Kd.R_drewN|apply Kd.R_drew));exact HO952.out⟩,⟨by repeat (first|(with_reducible first|exact HB.out|apply below_alloc|apply pw_below_drewN|apply below_drew1)|exact HB.out)⟩⟩
    case round =>
     clear H'
     try clear c1
     try clear p2
     try clear c4
     try clear c4b0
     try clear c6
     try clear c7
     try clear c7b0
     try clear c7b1
     try clear c8
     try clear c8b0
     try clear c8b1
     obtain ⟨x6_1,x7_1,x25_1,rfl,rfl,HA,HK1,HO_6,HB⟩:=hrel
     cases gk with
    |zero=>exact absurd HA.out (by simp [nat_Sub.l0])
    |succ k1 =>
      have H:=HA.out
      clear HA
      simp only [nat_Sub.l0] at H
      by_cases c11 : x25_1 < (t946.length : Int)
      ·rw [if_pos c11] at H
       have c11b0 : decide (x25_1 < (t946.length : Int))=true:=decide_eq_true c11
       clear c11
       by_cases c12 : 0≤x25_1
       ·rw [if_pos c12] at H
        have c12b0 : decide (0≤x25_1)=true:=decide_eq_true c12
        clear c12
        by_cases c13 : x25_1 < (t946.length : Int)
        ·rw [if_pos c13] at H
         have c13b0 : decide (x25_1 < (t946.length : Int))=true:=decide_eq_true c13
         clear c13
         by_cases c14 : x25_1 < (t948.length : Int)
         ·rw [if_pos c14] at H
          have c14b0 : decide (x25_1 < (t948.length : Int))=true:=decide_eq_true c14
          clear c14
          replace H:=Option.bind_eq_some_iff.mp H
          obtain ⟨⟨t955,t956⟩,A150,H⟩:=H
          replace H : (if x6_1.length < 35184372088832 then (nat_Sub.l0 k1 t948 (x6_1++[t955]) t956 t946 (t946.length : Int) (wrap64 (x25_1+1))) else (none))=some (r1,r2):=H
          have A15:=Aside0.mk A150
          clear A150
          by_cases c16 : x6_1.length < 35184372088832
          ·rw [if_pos c16] at H
           have LMc16:=Aside0.mk c16
           clear c16
           obtain ⟨y957,hy957⟩ : ∃ y_ : List Int,y_=(x6_1++[t955]):=⟨_,rfl⟩
           replace H : (nat_Sub.l0 k1 t948 y957 t956 t946 (t946.length : Int) (wrap64 (x25_1+1)))=some (r1,r2):=by first|(rw [hy957];with_reducible exact H)|(have H2_:=(Option.bind_some _ _).symm.trans H;rw [hy957];with_reducible exact H2_)|(have H2_:=(Option.bind_some _ _).symm.trans H;with_reducible exact H2_)|with_reducible exact H|(rw [hy957];exact H)|exact H
           have Ny957:=Aside0.mk hy957
           clear hy957
           have H':=Aside0.mk H
           clear H
           have p953 : 0≤(x25_1 : Int):=of_decide_eq_true (by first|(with_reducible assumption)|assumption)
           have q953 : x25_1 < (t946.length : Int):=of_decide_eq_true (by first|(with_reducible assumption)|assumption)
           obtain ⟨ad953,e953,hx953_0⟩:=Kd.at_int HR947.out x25_1 p953 q953
           cases e953
           replace hx953_0:=(HB.out.cell (World.block_lt_of_cell? w _ hx953_0)).trans hx953_0
           replace p953:=eq_true p953
           replace q953:=eq_true q953
           have p954 : 0≤(x25_1 : Int):=of_decide_eq_true (by first|(with_reducible assumption)|assumption)
           have q954 : x25_1 < (t948.length : Int):=of_decide_eq_true (by first|(with_reducible assumption)|assumption)
           obtain ⟨ad954,e954,hx954_0⟩:=Kd.at_int HR949.out x25_1 p954 q954
           cases e954
           replace hx954_0:=(HB.out.cell (World.block_lt_of_cell? w _ hx954_0)).trans hx954_0
           replace p954:=eq_true p954
           replace q954:=eq_true q954
           go_wp2_with (first|((with_reducible refine gate_callee (f:=96) rfl ?_);refine goesL_ (some 42) rfl rfl Tryd.func96 (by kernel_rfl) rfl #[.int .u32 (rd t946 x25_1),.int .u32 (rd t948 x25_1),.int .u32 x7_1] rfl (by (try simp only [List.map_toArray,List.map_cons,List.map_nil]);first|done|rfl|(simp only [List.length_drop,List.length_take];rfl)) ?_;(with_reducible refine (bits_Sub32.calls (rd t946 x25_1) (rd t948 x25_1) x7_1 t955 t956 _ A15.out).mono ?_);rintro e w' ⟨rfl,⟨nd,rfl⟩⟩;refine ⟨_,rfl,?_⟩)|((with_reducible refine gate_builtin (b:=.append) (xs:=#[.tmp 45,.tmp 47]) rfl ?_);at_builtin;refine Kd.R_append (Kd.int .u32) (w0:=w) w.heap.size rfl (.tmp 45) (.tmp 47) 23 35 (.int .u32 0) 4 rfl Tryd.underlying23 info35 rfl (by decide) (by omega) u6 x6_1 t955 [.int .u32 t955] (fun _=>True) (fun _=>False) rfl rfl ?aP (fun _ hk=>hk.elim) ?aF ?aO ?aB ?aS ?aL ?_;(case aP=>exact rfl);(case aB=>exact (by repeat (first|(with_reducible first|exact HB.out|apply below_alloc|apply pw_below_drewN|apply below_drew1)|exact HB.out)));(case aF=>exact (fun _ _=>trivial));(case aO=>exact (by (with_reducible repeat (first|apply Kd.R_alloc|apply Kd.R_drewN|apply Kd.R_drew));exact HO_6.out));(case aS=>exact (below_size (by repeat (first|(with_reducible first|exact HB.out|apply below_alloc|apply pw_below_drewN|apply below_drew1)|exact HB.out))));(case aL=>have:=LMc16.out;omega);intro v958 w17 ho hb hg hat;rw [← Ny957.out] at ho;have n0_:=Aside0.mk (hb);have n1_:=Aside0.mk (ho);clear HB;clear HO_6;have HB:=n0_;have HO959:=n1_;clear n0_ n1_;clear ho hb hg hat))
           go_roundg k1
           case measure=>have:=HK1.out;omega
           case rel=>exact ⟨(y957),(t956),(wrap64 (x25_1+1)),(by first|rfl|(simp;done)|(simp [*];done)),(by first|rfl|(simp;done)|(simp [*];done)),H',⟨by have:=HK1.out;omega⟩,⟨by (with_reducible repeat (first|apply Kd.R_alloc|apply Kd.R_drewN|apply Kd.R_drew));exact HO959.out⟩,⟨by repeat (first|(with_reducible first|exact HB.out|apply below_alloc|apply pw_below_drewN|apply below_drew1)|exact HB.out)⟩⟩
          ·rw [if_neg c16] at H
           exact absurd H (by simp)
         ·rw [if_neg c14] at H
          have c14b0 : decide (x25_1 < (t948.length : Int))=false:=decide_eq_false c14
          clear c14
          replace H:=Option.bind_eq_some_iff.mp H
          obtain ⟨⟨t960,t961⟩,A180,H⟩:=H
          replace H : (if x6_1.length < 35184372088832 then (nat_Sub.l0 k1 t948 (x6_1++[t960]) t961 t946 (t946.length : Int) (wrap64 (x25_1+1))) else (none))=some (r1,r2):=H
          have A18:=Aside0.mk A180
          clear A180
          by_cases c19 : x6_1.length < 35184372088832
          ·rw [if_pos c19] at H
           have LMc19:=Aside0.mk c19
           clear c19
           obtain ⟨y962,hy962⟩ : ∃ y_ : List Int,y_=(x6_1++[t960]):=⟨_,rfl⟩
           replace H : (nat_Sub.l0 k1 t948 y962 t961 t946 (t946.length : Int) (wrap64 (x25_1+1)))=some (r1,r2):=by first|(rw [hy962];with_reducible exact H)|(have H2_:=(Option.bind_some _ _).symm.trans H;rw [hy962];with_reducible exact H2_)|(have H2_:=(Option.bind_some _ _).symm.trans H;with_reducible exact H2_)|with_reducible exact H|(rw [hy962];exact H)|exact H
           have Ny962:=Aside0.mk hy962
           clear hy962
           have H':=Aside0.mk H
           clear H
           have p953 : 0≤(x25_1 : Int):=of_decide_eq_true (by first|(with_reducible assumption)|assumption)
           have q953 : x25_1 < (t946.length : Int):=of_decide_eq_true (by first|(with_reducible assumption)|assumption)
           obtain ⟨ad953,e953,hx953_0⟩:=Kd.at_int HR947.out x25_1 p953 q953
           cases e953
           replace hx953_0:=(HB.out.cell (World.block_lt_of_cell? w _ hx953_0)).trans hx953_0
           replace p953:=eq_true p953
           replace q953:=eq_true q953
           go_wp2_with (first|((with_reducible refine gate_callee (f:=96) rfl ?_);refine goesL_ (some 42) rfl rfl Tryd.func96 (by kernel_rfl) rfl #[.int .u32 (rd t946 x25_1),.int .u32 0,.int .u32 x7_1] rfl (by (try simp only [List.map_toArray,List.map_cons,List.map_nil]);first|done|rfl|(simp only [List.length_drop,List.length_take];rfl)) ?_;(with_reducible refine (bits_Sub32.calls (rd t946 x25_1) 0 x7_1 t960 t961 _ A18.out).mono ?_);rintro e w' ⟨rfl,⟨nd,rfl⟩⟩;refine ⟨_,rfl,?_⟩)|((with_reducible refine gate_builtin (b:=.append) (xs:=#[.tmp 45,.tmp 47]) rfl ?_);at_builtin;refine Kd.R_append (Kd.int .u32) (w0:=w) w.heap.size rfl (.tmp 45) (.tmp 47) 23 35 (.int .u32 0) 4 rfl Tryd.underlying23 info35 rfl (by decide) (by omega) u6 x6_1 t960 [.int .u32 t960] (fun _=>True) (fun _=>False) rfl rfl ?aP (fun _ hk=>hk.elim) ?aF ?aO ?aB ?aS ?aL ?_;(case aP=>exact rfl);(case aB=>exact (by repeat (first|(with_reducible first|exact HB.out|apply below_alloc|apply pw_below_drewN|apply below_drew1)|exact HB.out)));(case aF=>exact (fun _ _=>trivial));(case aO=>exact (by (with_reducible repeat (first|apply Kd.R_alloc|apply Kd.R_drewN|apply Kd.R_drew));exact HO_6.out));(case aS=>exact (below_size (by repeat (first|(with_reducible first|exact HB.out|apply below_alloc|apply pw_below_drewN|apply below_drew1)|exact HB.out))));(case aL=>have:=LMc19.out;omega);intro v963 w20 ho hb hg hat;rw [← Ny962.out] at ho;have n0_:=Aside0.mk (hb);have n1_:=Aside0.mk (ho);clear HB;clear HO_6;have HB:=n0_;have HO964:=n1_;clear n0_ n1_;clear ho hb hg hat))
           go_roundg k1
           case measure=>have:=HK1.out;omega
           case rel=>exact ⟨(y962),(t961),(wrap64 (x25_1+1)),(by first|rfl|(simp;done)|(simp [*];done)),(by first|rfl|(simp;done)|(simp [*];done)),H',⟨by have:=HK1.out;omega⟩,⟨by (with_reducible repeat (first|apply Kd.R_alloc|apply Kd.R_drewN|apply Kd.R_drew));exact HO964.out⟩,⟨by repeat (first|(with_reducible first|exact HB.out|apply below_alloc|apply pw_below_drewN|apply below_drew1)|exact HB.out)⟩⟩
          ·rw [if_neg c19] at H
           exact absurd H (by simp)
        ·rw [if_neg c13] at H
         exact absurd H (by simp)
       ·rw [if_neg c12] at H
        exact absurd H (by simp)
      ·rw [if_neg c11] at H
       have c11b0 : decide (x25_1 < (t946.length : Int))=false:=decide_eq_false c11
       clear c11
       replace H:=Option.bind_eq_some_iff.mp H
       obtain ⟨t965,A210,H⟩:=H
       replace H : (some (t965,true))=some (r1,r2):=H
       have A21:=Aside0.mk A210
       clear A210
       simp only [Option.some.injEq,Prod.mk.injEq] at H
       obtain ⟨rfl,rfl⟩:=H
       obtain ⟨Ao22,co22,eo22⟩:=Kd.R_slice HO_6.out
       subst eo22
       go_wp2_with (first|((with_reducible refine gate_callee (f:=43) rfl ?_);refine goesL_ (some 51) rfl rfl Tryd.func43 (by kernel_rfl) rfl #[.slice Ao22 x6_1.length co22] rfl (by (try simp only [List.map_toArray,List.map_cons,List.map_nil]);first|done|rfl|(simp only [List.length_drop,List.length_take];rfl)) ?_;(with_reducible refine (nat_trim.calls _ _ x6_1 t965 _ ?side1 ?side2 A21.out).mono ?_);(case side1=>repeat (first|exact (Kd.R_reads' HO_6.out).2.2|(with_reducible refine Kd.C_alloc ?_ _)|(with_reducible refine Kd.C_drewN ?_ _)|(with_reducible refine Kd.C_drew ?_)));(case side2=>exact (Kd.R_reads' HO_6.out).2.1);rintro e w' ⟨rfl,⟨nd,rfl⟩⟩;refine ⟨_,rfl,?_⟩;have HO967:=Aside0.mk (nat_trim.R HO_6.out A21.out);clear HO_6))
       go_ret2
       exact ⟨_,by first|rfl|(simp [errW_none,errW_some] <;> rfl)|(simp [*,errW_none,errW_some] <;> rfl),by (with_reducible repeat (first|apply Kd.R_alloc|apply Kd.R_drewN|apply Kd.R_drew));exact HO967.out,by repeat (first|(with_reducible first|exact HB.out|apply below_alloc|apply pw_below_drewN|apply below_drew1)|exact HB.out)⟩
   ·rw [if_neg c8] at H
    exact absurd H (by simp)
  ·rw [if_neg c7] at H
   exact absurd H (by simp)
end Go.Proofs.YtncdiodnbkhacaaDoor.Pq
end
section
section
namespace Go.Proofs.YtncdiodnbkhacaaDoor.Pq
open Go.RowKit Go.Proofs.YtncdiodnbkhacaaDoorW.PrintWords Go.Proofs.YtncdiodnbkhacaaDoorW.PrintLast Go.Proofs.YtncdiodnbkhacaaDoorW.PrintMore
attribute [local go_sem] max2_int min2_int max_two min_two max_three min_three max_four min_four
set_option linter.unusedVariables false
set_option linter.unusedSimpArgs false
set_option maxHeartbeats 8000000
set_option maxRecDepth 100000
theorem nat_Bits.calls (A0 : Option Addr) (c0 : Nat) (l0 : List Int) (r : Int) (w : World) (hr0 : Kd.C (Kd.int .u32) w A0 l0.length l0) (hc0 : l0.length≤c0) (h : nat_Bits.f l0=some r) :
  Calls Tryd.prog 95 #[.slice A0 l0.length c0] w fun e w'=>e=.returned (.int .i64 r)∧Drawn0 w w':=by
 have HR0:=Aside0.mk hr0
 have HC0:=Aside0.mk hc0
 clear hr0 hc0
 have H : ((nat_trim.f l0).bind fun t890=>(if (t890.length : Int)=0 then (some 0) else (if 0≤(wrap64 ((t890.length : Int) - 1)) then (if (wrap64 ((t890.length : Int) - 1)) < (t890.length : Int) then ((bits_LeadingZeros32.f (rd t890 (wrap64 ((t890.length : Int) - 1)))).bind fun t893=>(some (wrap64 ((wrap64 (32 * (t890.length : Int))) - t893)))) else (none)) else (none))))=some r:=h
 clear h
 replace H:=Option.bind_eq_some_iff.mp H
 obtain ⟨t890,A20,H⟩:=H
 try dsimp only at H
 have A2:=Aside0.mk A20
 clear A20
 by_cases c3 : (t890.length : Int)=0
 ·rw [if_pos c3] at H
  have c3b0 : ((t890.length : Int) == 0)=true:=beq_iff_eq.mpr c3
  have c3b1 : ((t890.length : Int) != 0)=false:=bne_eq_false_iff_eq.mpr c3
  clear c3
  obtain rfl:=Option.some.inj H
  go_enter Tryd.func95,Tryd.ntmps95
  go_wp2_with (first|((with_reducible refine gate_callee (f:=43) rfl ?_);refine goesL_ (some 4) rfl rfl Tryd.func43 (by kernel_rfl) rfl #[.slice A0 l0.length c0] rfl (by (try simp only [List.map_toArray,List.map_cons,List.map_nil]);first|done|rfl) ?_;(with_reducible refine (nat_trim.calls _ _ l0 t890 _ ?side1 ?side2 A2.out).mono ?_);(case side1=>exact Cu HR0.out);(case side2=>exact HC0.out);rintro e w' ⟨rfl,⟨nd,rfl⟩⟩;refine ⟨_,rfl,?_⟩;have HR891:=Aside0.mk (nat_trim.C HR0.out A2.out);have HC891:=Aside0.mk (Nat.le_refl t890.length)))
  go_ret
  exact ⟨by first|rfl|(simp;done)|(simp [*];done),by repeat (first|exact Drawn0.refl _|apply Drawn0.step)⟩
 ·rw [if_neg c3] at H
  have c3b0 : ((t890.length : Int) == 0)=false:=beq_eq_false_iff_ne.mpr c3
  have c3b1 : ((t890.length : Int) != 0)=true:=bne_iff_ne.mpr c3
  have c3b2 : ¬ (t890=[]):=fun h_=>c3 (by rw [h_];rfl)
  obtain ⟨ji4,hji4⟩ : ∃ j_ : Int,(wrap64 ((t890.length : Int) - 1))=j_:=⟨_,rfl⟩
  replace H : (if 0≤(ji4) then (if (ji4) < (t890.length : Int) then ((bits_LeadingZeros32.f (rd t890 (ji4))).bind fun t893=>(some (wrap64 ((wrap64 (32 * (t890.length : Int))) - t893)))) else (none)) else (none))=some r:=by first|(rw [hji4] at H;exact H)|(simp only [hji4] at H ⊢;exact H)
  (try rw [hji4] at A2)
  have hji4w : (IntKind.i64.wrap ((t890.length : Int) - 1))=ji4:=(i64_w _).trans hji4
  by_cases c5 : 0≤(ji4)
  case neg =>rw [if_neg c5] at H;exact absurd H (by simp)
  rw [if_pos c5] at H
  have c5b0 : decide (0≤(ji4))=true:=decide_eq_true c5
  clear c5
  by_cases c6 : (ji4) < (t890.length : Int)
  case neg =>rw [if_neg c6] at H;exact absurd H (by simp)
  rw [if_pos c6] at H
  have c6b0 : decide ((ji4) < (t890.length : Int))=true:=decide_eq_true c6
  clear c6
  replace H:=Option.bind_eq_some_iff.mp H
  obtain ⟨t893,A70,H⟩:=H
  try dsimp only at H
  have A7:=Aside0.mk A70
  clear A70
  obtain rfl:=Option.some.inj H
  go_enter Tryd.func95,Tryd.ntmps95
  go_wp2_with (first|((with_reducible refine gate_callee (f:=43) rfl ?_);refine goesL_ (some 4) rfl rfl Tryd.func43 (by kernel_rfl) rfl #[.slice A0 l0.length c0] rfl (by (try simp only [List.map_toArray,List.map_cons,List.map_nil]);first|done|rfl) ?_;(with_reducible refine (nat_trim.calls _ _ l0 t890 _ ?side1 ?side2 A2.out).mono ?_);(case side1=>exact Cu HR0.out);(case side2=>exact HC0.out);rintro e w' ⟨rfl,⟨nd,rfl⟩⟩;refine ⟨_,rfl,?_⟩;have HR891:=Aside0.mk (nat_trim.C HR0.out A2.out);have HC891:=Aside0.mk (Nat.le_refl t890.length);have p892 : 0≤((ji4) : Int):=of_decide_eq_true (by assumption);have q892 : (ji4) < (t890.length : Int):=of_decide_eq_true (by assumption);obtain ⟨ad892,e892,hx892_0⟩:=Kd.at_int HR891.out (ji4) p892 q892;cases e892;replace p892:=eq_true p892;replace q892:=eq_true q892)|((with_reducible refine gate_callee (f:=86) rfl ?_);refine goesL_ (some 17) rfl rfl Tryd.func86 (by kernel_rfl) rfl #[.int .u32 (rd t890 (ji4))] rfl (by (try simp only [List.map_toArray,List.map_cons,List.map_nil]);first|done|(simp only [hji4];rfl)|rfl|(simp only [List.length_drop,List.length_take];rfl)) ?_;(with_reducible refine (bits_LeadingZeros32.calls (rd t890 (ji4)) t893 _ A7.out).mono ?_);rintro e w' ⟨rfl,⟨nd,rfl⟩⟩;refine ⟨_,rfl,?_⟩))
  go_ret
  exact ⟨by first|rfl|(simp;done)|(simp only [← hji4] <;> (first|rfl|simp))|(simp [*];done),by repeat (first|exact Drawn0.refl _|apply Drawn0.step)⟩
end Go.Proofs.YtncdiodnbkhacaaDoor.Pq
end
end
section
namespace Go.Proofs.YtncdiodnbkhacaaDoor.Pq
open Go.RowKit Go.Proofs.YtncdiodnbkhacaaDoorW.PrintWords Go.Proofs.YtncdiodnbkhacaaDoorW.PrintLast Go.Proofs.YtncdiodnbkhacaaDoorW.PrintMore
attribute [local go_sem] max2_int min2_int max_two min_two max_three min_three max_four min_four   -- for this text's walks alone
set_option linter.unusedVariables false
set_option linter.unusedSimpArgs false
set_option maxHeartbeats 400000 in
theorem rat_whole.reads (S : Nat→Prop) (n : Bool) (A1 : Option Addr) (c1 : Nat) (a : List Int) (A2 : Option Addr) (c2 : Nat) (b : List Int) (m : Bool) (p q : List Int) (w : World) (hS : ∀ k,S k→k < w.heap.size)
  (hr : Rbst S w (fun W=>U32.C W A1 a.length a∧U32.C W A2 b.length b)) (hc1 : a.length≤c1) (hc2 : b.length≤c2) (h : rat_whole.f n a b=some (m,p,q)) :
  Calls Tryd.prog 76 #[.agg #[.bool n,.slice A1 a.length c1,.slice A2 b.length c2]] w fun e w'=>∃ A1' c1' A2' c2',e=.returned (.agg #[.bool m,.slice A1' p.length c1',.slice A2' q.length c2'])∧p.length≤c1'∧q.length≤c2' ∧
   Rbst S w' (fun W=>U32.C W A1' p.length p∧U32.C W A2' q.length q)∧Below w.heap.size w w':=by
 obtain ⟨t,T,h⟩:=Option.bind_eq_some_iff.mp h
 have T:=Aside0.mk T
 have HS : Aside0 (∀ k,(S k∨w.heap.size≤k∧k < w.heap.size+2)→k < w.heap.size+2):=⟨fun k hk=>hk.elim (fun h=>by have:=hS k h;omega) (fun h=>h.2)⟩
 have HR:=Aside0.mk (hr.less (S':=fun k=>S k∨w.heap.size≤k∧k < w.heap.size+2) (fun k hk=>hk.imp_right (·.1)))
 have HC1:=Aside0.mk hc1
 have HC2:=Aside0.mk hc2
 clear hr hS hc1 hc2
 by_cases c : t=0
 ·rw [if_pos c] at h
  obtain ⟨o,O,h⟩:=Option.bind_eq_some_iff.mp h
  have O:=Aside0.mk O
  obtain ⟨rfl,rfl,rfl⟩ : false=m∧[]=p∧o=q:=by simpa using h
  clear h
  have cb : (t == 0)=true:=beq_iff_eq.mpr c
  clear c
  go_enter Tryd.func76,Tryd.ntmps76
  go_wp2_with (first
  |(go_at_call 95;refine (nat_Bits.calls _ _ b _ _ ?h1 HC2.out T.out).mono ?_;(case h1=>exact (HR.out.at ((Kept.refl _ _).alloc _ |>.alloc _)).2);rintro e w5 ⟨rfl,⟨nd,rfl⟩⟩)
  |(go_at_call 47;refine (rat_one.calls _ _ O.out).mono ?_;rintro e w6 ⟨v,rfl,ho,hb⟩;obtain ⟨A',c',rfl,hl,hr⟩:=made ho (fun k hk=>.inl (by simpa using HS.out k hk));obtain ⟨hc,hf⟩:=bcell hb;have HR:=Aside0.mk hr;have HL:=Aside0.mk hl;clear ho hr hl))
  refine bodyPost_ret (v:=.agg #[.bool false,.slice none 0 0,.slice A' o.length c']) (by simp [results,Tryd.results76,go_sem,hc]) rfl ⟨_,_,_,_,rfl,Nat.le_refl _,HL.out,?_,?_⟩
  ·exact (Rbst.mk fun W _=>Kd.C_nil _ W).and (HR.out.step (by repeat (first|exact Kept.refl _ _|(refine Kept.setCell ?_ (.inl (.inr (by simp))) _))) |>.less fun k hk=>.inl (.inl hk))
  ·repeat (first|exact Below.refl _ _|apply below_alloc|apply pw_below_drewN|(refine below_set ?_ (by simp))|(refine below_step ?_ hb))
 ·rw [if_neg c] at h
  obtain ⟨rfl,rfl,rfl⟩ : n=m∧a=p∧b=q:=by simpa using h
  clear h
  have cb : (t == 0)=false:=beq_eq_false_iff_ne.mpr c
  clear c
  go_enter Tryd.func76,Tryd.ntmps76
  go_wp2_with (first
  |(go_at_call 95;refine (nat_Bits.calls _ _ b _ _ ?h1 HC2.out T.out).mono ?_;(case h1=>exact (HR.out.at ((Kept.refl _ _).alloc _ |>.alloc _)).2);rintro e w5 ⟨rfl,⟨nd,rfl⟩⟩))
  refine bodyPost_ret (v:=.agg #[.bool n,.slice A1 a.length c1,.slice A2 b.length c2]) (by simp [results,Tryd.results76,go_sem]) rfl ⟨_,_,_,_,rfl,HC1.out,HC2.out,?_,?_⟩
  ·exact (HR.out.step (by repeat (first|exact Kept.refl _ _|apply Kept.alloc|apply Kept.drewN|(refine Kept.setCell ?_ (.inl (.inr (by simp))) _)))).less fun k hk=>.inl (.inl hk)
  ·repeat (first|exact Below.refl _ _|apply below_alloc|apply pw_below_drewN|(refine below_set ?_ (by simp)))
end Go.Proofs.YtncdiodnbkhacaaDoor.Pq
end
section
namespace Go.Proofs.YtncdiodnbkhacaaDoor.Pq
open Go.RowKit Go.Proofs.YtncdiodnbkhacaaDoorW.PrintWords Go.Proofs.YtncdiodnbkhacaaDoorW.PrintLast Go.Proofs.YtncdiodnbkhacaaDoorW.PrintMore
attribute [local go_sem] max2_int min2_int max_two min_two max_three min_three max_four min_four   -- for this text's walks alone
set_option linter.unusedVariables false
set_option linter.unusedSimpArgs false
def rat_plus.T2 : Bool × List (List Nat × List Nat):=(true,[([],[]),([0],[0]),([],[]),([2],[2]),([1,3],[1,3]),([],[]),([5],[5]),([],[]),([7],[7]),([6,8,4],[6,8]),([4,9,0,1,2,3,4],[4]),([9,10,0,1,2,3,4,5,6,7,8,9,10],[9])])
def rat_plus.B2 : List Nat:=[0,1,0,4,15,0,32,0,128,511,1023,2047]
theorem rat_plus.tab2 : rtab .any (opsOf Tryd.f48 2)=rat_plus.T2:=by kernel_rfl
theorem rat_plus.bits2 : waitsOk rat_plus.T2.2 rat_plus.B2=true:=by kernel_rfl
def rat_plus.T5 : Bool × List (List Nat × List Nat):=(true,[([],[]),([0],[0]),([],[]),([],[]),([2,3],[2,3]),([],[]),([1,4,5,4],[1,4,5]),([6,6,0,1,2,3,4,5,6],[6])])
def rat_plus.B5 : List Nat:=[0,1,0,0,12,0,63,127]
theorem rat_plus.tab5 : rtab .any (opsOf Tryd.f48 5)=rat_plus.T5:=by kernel_rfl
theorem rat_plus.bits5 : waitsOk rat_plus.T5.2 rat_plus.B5=true:=by kernel_rfl
set_option maxHeartbeats 4000000 in
set_option maxRecDepth 100000 in
theorem rat_plus.calls (k : Nat) (a0_0 : Bool) (A0_1 : Option Addr) (c0_1 : Nat) (l0_1 : List Int) (A0_2 : Option Addr) (c0_2 : Nat) (l0_2 : List Int) (a1_0 : Bool) (A1_1 : Option Addr) (c1_1 : Nat) (l1_1 : List Int) (A1_2 : Option Addr) (c1_2 : Nat) (l1_2 : List Int) (r1 : Bool) (r2 : List Int) (r3 : List Int) (w : World) (hr0_1 : Kd.C (Kd.int .u32) w A0_1 l0_1.length l0_1) (hc0_1 : l0_1.length≤c0_1) (hr0_2 : Kd.C (Kd.int .u32) w A0_2 l0_2.length l0_2) (hc0_2 : l0_2.length≤c0_2) (hr1_1 : Kd.C (Kd.int .u32) w A1_1 l1_1.length l1_1) (hc1_1 : l1_1.length≤c1_1) (hr1_2 : Kd.C (Kd.int .u32) w A1_2 l1_2.length l1_2) (hc1_2 : l1_2.length≤c1_2) (h : rat_plus.f k a0_0 l0_1 l0_2 a1_0 l1_1 l1_2=some (r1,r2,r3)) :
  Calls Tryd.prog 48 #[.agg #[.bool a0_0,.slice A0_1 l0_1.length c0_1,.slice A0_2 l0_2.length c0_2],.agg #[.bool a1_0,.slice A1_1 l1_1.length c1_1,.slice A1_2 l1_2.length c1_2]] w fun e w'=>∃ v1_ v2_ : Value,e=.returned (.agg #[.bool r1,v1_,v2_])∧Kd.R (Kd.int .u32) 35 w' w.heap.size (fun k_=>some k_≠(v2_ : Value).ownBlock) v1_ r2∧Kd.R (Kd.int .u32) 35 w' w.heap.size (fun k_=>some k_≠(v1_ : Value).ownBlock) v2_ r3∧Below w.heap.size w w':=by
 obtain ⟨⟨m,a,b⟩,P0,h⟩:=Option.bind_eq_some_iff.mp h
 obtain ⟨⟨n,c,d⟩,P1,h⟩:=Option.bind_eq_some_iff.mp h
 obtain ⟨x,X,h⟩:=Option.bind_eq_some_iff.mp h
 obtain ⟨y,Y,h⟩:=Option.bind_eq_some_iff.mp h
 obtain ⟨z,Z,h⟩:=Option.bind_eq_some_iff.mp h
 dsimp only at X Y Z h
 have P0:=Aside0.mk P0
 have P1:=Aside0.mk P1
 have X:=Aside0.mk X
 have Y:=Aside0.mk Y
 have Z:=Aside0.mk Z
 obtain ⟨S,hS⟩ : ∃ S : Nat→Prop,S=fun k=>w.heap.size≤k∧k < w.heap.size+3:=⟨_,rfl⟩
 have HS : Aside0 (∀ j,j < 3→S (w.heap.size+j)):=⟨fun j hj=>by subst hS;exact ⟨by omega,by omega⟩⟩
 have HS2 : Aside0 (∀ k,S k→k < w.heap.size+3):=⟨fun k hk=>by subst hS;exact hk.2⟩
 have HF : Aside0 (Rbst S w (fun W=>(U32.C W A0_1 l0_1.length l0_1∧U32.C W A0_2 l0_2.length l0_2)∧(U32.C W A1_1 l1_1.length l1_1∧U32.C W A1_2 l1_2.length l1_2))):=by
  have q:=fun {A n xs} (h : U32.C w A n xs)=>came (S:=S) h (Kd.heap_int .u32) (Below.refl _ w) (fun k hk=>by subst hS;exact hk.1)
  exact ⟨((q hr0_1).and (q hr0_2)).and ((q hr1_1).and (q hr1_2))⟩
 have HC:=Aside0.mk (And.intro (And.intro hc0_1 hc0_2) (And.intro hc1_1 hc1_2))
 have HH:=Aside0.mk h
 clear hr0_1 hr0_2 hr1_1 hr1_2 hc0_1 hc0_2 hc1_1 hc1_2 h hS
 go_enter Tryd.func48,Tryd.ntmps48
 go_upto_region 1 with fail
 obtain ⟨W1,hW1⟩ : ∃ W1,((w.alloc (.cells #[.bool a0_0,.slice A0_1 l0_1.length c0_1,.slice A0_2 l0_2.length c0_2] 25)).alloc (.cells #[.bool a1_0,.slice A1_1 l1_1.length c1_1,.slice A1_2 l1_2.length c1_2] 25)).alloc (.cells #[.bool false,.slice none 0 0,.slice none 0 0] 25)=W1:=⟨_,rfl⟩
 obtain ⟨HB,HZ,B0,B1,B2⟩ : Aside0 (Below w.heap.size w W1.drew)∧Aside0 (w.heap.size+3≤W1.drew.heap.size)∧W1.drew.heap[w.heap.size]? = some (.cells #[.bool a0_0,.slice A0_1 l0_1.length c0_1,.slice A0_2 l0_2.length c0_2] 25)∧W1.drew.heap[w.heap.size+1]? = some (.cells #[.bool a1_0,.slice A1_1 l1_1.length c1_1,.slice A1_2 l1_2.length c1_2] 25)∧W1.drew.heap[w.heap.size+1+1]? = some (.cells #[.bool false,.slice none 0 0,.slice none 0 0] 25):=by
  rw [← hW1];exact three w _ _ _
 haveI k1 : Kp S w W1.drew:=by rw [← hW1];infer_instance
 rw [hW1]
 refine start_ (n:=6) (S:=fun w'=>w'.cell? ⟨w.heap.size,0,none⟩=some (.bool a0_0)∧w'.cell? ⟨w.heap.size,1,none⟩=some (.slice A0_1 l0_1.length c0_1)∧w'.cell? ⟨w.heap.size,2,none⟩=some (.slice A0_2 l0_2.length c0_2)∧w'.cell? ⟨w.heap.size+1,0,none⟩=some (.bool a1_0)∧w'.cell? ⟨w.heap.size+1,1,none⟩=some (.slice A1_1 l1_1.length c1_1)∧w'.cell? ⟨w.heap.size+1,2,none⟩=some (.slice A1_2 l1_2.length c1_2)) (ds:=[4,5]) #[false,false,false,false,false,false] (by kernel_rfl) rfl rfl ⟨(cells3 B0).1,(cells3 B0).2.1,(cells3 B0).2.2,(cells3 B1).1,(cells3 B1).2.1,(cells3 B1).2.2⟩ (fun hHeld=>?_)
 refine tq (i:=0) (N:=some 12) (v:=?_) (a':=?_) rfl rfl (by kernel_rfl) hHeld (Or.inl ⟨by rfl,?_⟩) ?_ ?_
 rotate_left
 ·rintro w' ⟨s0,s1,s2,s3,s4,s5⟩
  go_simp
  with_reducible rfl
 rotate_left
 ·simp only [Act.put,s0,s1,s2,i64_w,i32_w]
  rfl
 refine tq (i:=2) (N:=some 14) (v:=?_) (a':=?_) rfl rfl (by kernel_rfl) hHeld (Or.inl ⟨by rfl,?_⟩) ?_ ?_
 rotate_left
 ·rintro w' ⟨s0,s1,s2,s3,s4,s5⟩
  go_simp
  with_reducible rfl
 rotate_left
 ·simp only [Act.put,s0,s1,s2,i64_w,i32_w]
  rfl
 refine one_ (i:=1) (N:=some 13) #[true,true,true,false,false,false] rfl rfl (by kernel_rfl) (by decide) (fun K hK=>?_)
 refine goes_ Tryd.func76 (by kernel_rfl) rfl #[.agg #[.bool a0_0,.slice A0_1 l0_1.length c0_1,.slice A0_2 l0_2.length c0_2]] (by rfl) rfl rfl (by simp only [List.map_toArray,List.map_cons,List.map_nil];rfl) ?_
 with_reducible refine (rat_whole.reads S _ _ _ l0_1 _ _ l0_2 m a b _ (fun k hk=>Nat.lt_of_lt_of_le (HS2.out k hk) HZ.out) ((Rbst.up HF.out).imp fun _ h=>h.1) HC.out.1.1 HC.out.1.2 P0.out).mono ?_
 rintro e W2 ⟨A1,c1,A2,c2,rfl,hl1,hl2,hr,hb⟩
 refine ⟨_,rfl,?_⟩
 have HP:=Aside0.mk hr
 have HL1:=Aside0.mk (And.intro hl1 hl2)
 haveI k2 : ∀ w0,[Kp S w0 W1.drew]→Kp S w0 W2:=fun w0 _=>kp_of hb w0
 replace B0:=blk_below B0 hb
 replace B1:=blk_below B1 hb
 replace B2:=blk_below B2 hb
 replace HB:=Aside0.mk (below_step HB.out hb)
 replace HZ:=Aside0.mk (Nat.le_trans HZ.out hb.size)
 clear hr hl1 hl2 hb
 refine hK.out _ _ ⟨(cells3 B0).1,(cells3 B0).2.1,(cells3 B0).2.2,(cells3 B1).1,(cells3 B1).2.1,(cells3 B1).2.2⟩ (fun hHeld=>?_)
 clear hK K
 refine norm_ (a':=?_) ?_ ?_
 rotate_left
 ·show Act.put _ (some 13) _=_
  simp only [Act.put,s0,s1,s2,i64_w,i32_w]
  rfl
 refine one_ (i:=3) (N:=some 15) #[true,true,true,true,false,false] rfl rfl (by kernel_rfl) (by decide) (fun K hK=>?_)
 refine goes_ Tryd.func76 (by kernel_rfl) rfl #[.agg #[.bool a1_0,.slice A1_1 l1_1.length c1_1,.slice A1_2 l1_2.length c1_2]] (by rfl) rfl rfl (by simp only [List.map_toArray,List.map_cons,List.map_nil];rfl) ?_
 with_reducible refine (rat_whole.reads S _ _ _ l1_1 _ _ l1_2 n c d _ (fun k hk=>Nat.lt_of_lt_of_le (HS2.out k hk) HZ.out) ((Rbst.up HF.out).imp fun _ h=>h.2) HC.out.2.1 HC.out.2.2 P1.out).mono ?_
 rintro e W3 ⟨A3,c3,A4,c4,rfl,hl1,hl2,hr,hb⟩
 refine ⟨_,rfl,?_⟩
 have HQ:=Aside0.mk hr
 have HL2:=Aside0.mk (And.intro hl1 hl2)
 haveI k3 : ∀ w0,[Kp S w0 W2]→Kp S w0 W3:=fun w0 _=>kp_of hb w0
 replace B0:=blk_below B0 hb
 replace B1:=blk_below B1 hb
 replace B2:=blk_below B2 hb
 replace HB:=Aside0.mk (below_step HB.out hb)
 replace HZ:=Aside0.mk (Nat.le_trans HZ.out hb.size)
 clear hr hl1 hl2 hb
 refine hK.out _ _ ⟨(cells3 B0).1,(cells3 B0).2.1,(cells3 B0).2.2,(cells3 B1).1,(cells3 B1).2.1,(cells3 B1).2.2⟩ (fun hHeld=>?_)
 clear hK K
 refine norm_ (a':=?_) ?_ ?_
 rotate_left
 ·show Act.put _ (some 15) _=_
  simp only [Act.put,s0,s1,s2,i64_w,i32_w]
  rfl
 refine last_ (i:=4) (N:=none) #[true,true,true,true,true,false] rfl rfl (by kernel_rfl) (by decide) (fun K hK=>?_)
 have q0:=cells3 B0
 have q1:=free3 B0
 refine skip_ (w1:=?_) (by rfl) rfl ?_ ?_
 rotate_left
 ·go_simp
  rfl
 replace B0:=put3 B0 (.bool m) (.slice A1 a.length c1) (.slice A2 b.length c2)
 clear q0 q1
 refine hK.out _ _ ?_
 clear hK K
 refine last_ (i:=5) (N:=none) #[true,true,true,true,true,true] rfl rfl (by kernel_rfl) (by decide) (fun K hK=>?_)
 have q0:=cells3 B1
 have q1:=free3 B1
 refine skip_ (w1:=?_) (by rfl) rfl ?_ ?_
 rotate_left
 ·go_simp
  rfl
 clear q0 q1
 refine hK.out _ _ ?_
 clear hK K
 refine done_ (by kernel_rfl) ?_
 replace B1:=put3 (far3 B1 (show w.heap.size+1≠w.heap.size by omega) (.bool m) (.slice A1 a.length c1) (.slice A2 b.length c2)) (.bool n) (.slice A3 c.length c3) (.slice A4 d.length c4)
 replace B0:=far3 B0 (show w.heap.size≠w.heap.size+1 by omega) (.bool n) (.slice A3 c.length c3) (.slice A4 d.length c4)
 replace B2:=far3 (far3 B2 (show w.heap.size+1+1≠w.heap.size by omega) (.bool m) (.slice A1 a.length c1) (.slice A2 b.length c2)) (show w.heap.size+1+1≠w.heap.size+1 by omega) (.bool n) (.slice A3 c.length c3) (.slice A4 d.length c4)
 replace HB:=Aside0.mk (low3 (low3 HB.out (Nat.le_refl _) (.bool m) (.slice A1 a.length c1) (.slice A2 b.length c2)) (Nat.le_succ _) (.bool n) (.slice A3 c.length c3) (.slice A4 d.length c4))
 haveI i0 : In S w.heap.size:=⟨HS.out 0 (by omega)⟩
 haveI i1 : In S (w.heap.size+1):=⟨HS.out 1 (by omega)⟩
 haveI i2 : In S (w.heap.size+1+1):=⟨HS.out 2 (by omega)⟩
 obtain ⟨W4,hW4⟩ : ∃ W4,(((((W3.setCell ⟨w.heap.size,0,none⟩ (.bool m)).setCell ⟨w.heap.size,1,none⟩ (.slice A1 a.length c1)).setCell ⟨w.heap.size,2,none⟩ (.slice A2 b.length c2)).setCell ⟨w.heap.size+1,0,none⟩ (.bool n)).setCell ⟨w.heap.size+1,1,none⟩ (.slice A3 c.length c3)).setCell ⟨w.heap.size+1,2,none⟩ (.slice A4 d.length c4)=W4:=⟨_,rfl⟩
 haveI k4 : ∀ w0,[Kp S w0 W3]→Kp S w0 W4:=fun w0 _=>by rw [← hW4];infer_instance
 rw [hW4] at B0 B1 B2 HB ⊢
 replace HZ : Aside0 (w.heap.size+3≤W4.drew.heap.size):=⟨by rw [← hW4];simpa [World.setCell] using HZ.out⟩
 replace B0 : W4.drew.heap[w.heap.size]? = _:=B0
 replace B1 : W4.drew.heap[w.heap.size+1]? = _:=B1
 replace B2 : W4.drew.heap[w.heap.size+1+1]? = _:=B2
 replace HB:=Aside0.mk (below_drew1 HB.out)
 go_wp2
 refine start_ (n:=12) (S:=fun w'=>w'.cell? ⟨w.heap.size,1,none⟩=some (.slice A1 a.length c1)∧w'.cell? ⟨w.heap.size,2,none⟩=some (.slice A2 b.length c2)∧w'.cell? ⟨w.heap.size+1,1,none⟩=some (.slice A3 c.length c3)∧w'.cell? ⟨w.heap.size+1,2,none⟩=some (.slice A4 d.length c4)) (ds:=[]) #[false,false,false,false,false,false,false,false,false,false,false,false] (by kernel_rfl) rfl rfl ⟨(cells3 B0).2.1,(cells3 B0).2.2,(cells3 B1).2.1,(cells3 B1).2.2⟩ (fun hHeld=>?_)
 refine with_tabW rat_plus.tab2 rat_plus.bits2 (fun HT_ HW_=>?_)
 refine pq (i:=0) (N:=some 16) (v:=?_) (a':=?_) rfl rfl (any_of HT_.out (by kernel_rfl)) (Or.inl ⟨by rfl,?_⟩) ?_ ?_
 rotate_left
 ·intro w'
  go_simp
  with_reducible rfl
 rotate_left
 ·simp only [Act.put,s0,s1,s2,i64_w,i32_w]
  rfl
 refine pq (i:=2) (N:=some 18) (v:=?_) (a':=?_) rfl rfl (any_of HT_.out (by kernel_rfl)) (Or.inl ⟨by rfl,?_⟩) ?_ ?_
 rotate_left
 ·intro w'
  go_simp
  with_reducible rfl
 rotate_left
 ·simp only [Act.put,s0,s1,s2,i64_w,i32_w]
  rfl
 refine pq (i:=5) (N:=some 21) (v:=?_) (a':=?_) rfl rfl (any_of HT_.out (by kernel_rfl)) (Or.inl ⟨by rfl,?_⟩) ?_ ?_
 rotate_left
 ·intro w'
  go_simp
  with_reducible rfl
 rotate_left
 ·simp only [Act.put,s0,s1,s2,i64_w,i32_w]
  rfl
 refine pq (i:=7) (N:=some 23) (v:=?_) (a':=?_) rfl rfl (any_of HT_.out (by kernel_rfl)) (Or.inl ⟨by rfl,?_⟩) ?_ ?_
 rotate_left
 ·intro w'
  go_simp
  with_reducible rfl
 rotate_left
 ·simp only [Act.put,s0,s1,s2,i64_w,i32_w]
  rfl
 refine tq (i:=1) (N:=some 17) (v:=?_) (a':=?_) rfl rfl (take_ofW HT_.out HW_.out (by kernel_rfl)) hHeld (Or.inl ⟨by rfl,?_⟩) ?_ ?_
 rotate_left
 ·rintro w' ⟨s0,s1,s2,s3⟩
  go_simp
  with_reducible rfl
 rotate_left
 ·simp only [Act.put,s0,s1,s2,i64_w,i32_w]
  rfl
 refine tq (i:=3) (N:=some 19) (v:=?_) (a':=?_) rfl rfl (take_ofW HT_.out HW_.out (by kernel_rfl)) hHeld (Or.inl ⟨by rfl,?_⟩) ?_ ?_
 rotate_left
 ·rintro w' ⟨s0,s1,s2,s3⟩
  go_simp
  with_reducible rfl
 rotate_left
 ·simp only [Act.put,s0,s1,s2,i64_w,i32_w]
  rfl
 refine tq (i:=6) (N:=some 22) (v:=?_) (a':=?_) rfl rfl (take_ofW HT_.out HW_.out (by kernel_rfl)) hHeld (Or.inl ⟨by rfl,?_⟩) ?_ ?_
 rotate_left
 ·rintro w' ⟨s0,s1,s2,s3⟩
  go_simp
  with_reducible rfl
 rotate_left
 ·simp only [Act.put,s0,s1,s2,i64_w,i32_w]
  rfl
 refine tq (i:=8) (N:=some 24) (v:=?_) (a':=?_) rfl rfl (take_ofW HT_.out HW_.out (by kernel_rfl)) hHeld (Or.inl ⟨by rfl,?_⟩) ?_ ?_
 rotate_left
 ·rintro w' ⟨s0,s1,s2,s3⟩
  go_simp
  with_reducible rfl
 rotate_left
 ·simp only [Act.put,s0,s1,s2,i64_w,i32_w]
  rfl
 refine one_ (i:=4) (N:=some 20) #[true,true,true,true,true,true,true,true,true,false,false,false] rfl rfl (one_of HT_.out (by kernel_rfl)) (by decide) (fun K hK=>?_)
 refine goes_ Tryd.func16 (by kernel_rfl) rfl #[.slice A1 a.length c1,.slice A4 d.length c4] (by rfl) rfl rfl (by simp only [List.map_toArray,List.map_cons,List.map_nil];rfl) ?_
 with_reducible refine (nat_Mul.calls k _ _ a _ _ d x _ HP.out.now'.1 HL1.out.1 HQ.out.now'.2 HL2.out.2 X.out).mono ?_
 rintro e W5 ⟨v,rfl,ho,hb⟩
 refine ⟨_,rfl,?_⟩
 obtain ⟨Ax,cx,rfl,hl,hr⟩:=made ho (fun k hk=>.inl (Nat.lt_of_lt_of_le (HS2.out k hk) HZ.out))
 have HX:=Aside0.mk hr
 have LX:=Aside0.mk hl
 haveI kW5 : ∀ w0,[Kp S w0 W4.drew]→Kp S w0 W5:=fun w0 _=>kp_of hb w0
 replace B0:=blk_below B0 hb
 replace B1:=blk_below B1 hb
 replace B2:=blk_below B2 hb
 replace HB:=Aside0.mk (below_step HB.out hb)
 replace HZ:=Aside0.mk (Nat.le_trans HZ.out hb.size)
 clear hr hl hb ho
 refine hK.out _ _ ⟨(cells3 B0).2.1,(cells3 B0).2.2,(cells3 B1).2.1,(cells3 B1).2.2⟩ (fun hHeld=>?_)
 clear hK K
 refine norm_ (a':=?_) ?_ ?_
 rotate_left
 ·show Act.put _ (some 20) _=_
  simp only [Act.put,s0,s1,s2,i64_w,i32_w]
  rfl
 refine one_ (i:=9) (N:=some 25) #[true,true,true,true,true,true,true,true,true,true,false,false] rfl rfl (one_of HT_.out (by kernel_rfl)) (by decide) (fun K hK=>?_)
 refine goes_ Tryd.func16 (by kernel_rfl) rfl #[.slice A3 c.length c3,.slice A2 b.length c2] (by rfl) rfl rfl (by simp only [List.map_toArray,List.map_cons,List.map_nil];rfl) ?_
 with_reducible refine (nat_Mul.calls k _ _ c _ _ b y _ HQ.out.now'.1 HL2.out.1 HP.out.now'.2 HL1.out.2 Y.out).mono ?_
 rintro e W6 ⟨v,rfl,ho,hb⟩
 refine ⟨_,rfl,?_⟩
 obtain ⟨Ay,cy,rfl,hl,hr⟩:=made ho (fun k hk=>.inl (Nat.lt_of_lt_of_le (HS2.out k hk) HZ.out))
 have HY:=Aside0.mk hr
 have LY:=Aside0.mk hl
 haveI kW6 : ∀ w0,[Kp S w0 W5]→Kp S w0 W6:=fun w0 _=>kp_of hb w0
 replace B0:=blk_below B0 hb
 replace B1:=blk_below B1 hb
 replace B2:=blk_below B2 hb
 replace HB:=Aside0.mk (below_step HB.out hb)
 replace HZ:=Aside0.mk (Nat.le_trans HZ.out hb.size)
 clear hr hl hb ho
 refine hK.out _ _ ⟨(cells3 B0).2.1,(cells3 B0).2.2,(cells3 B1).2.1,(cells3 B1).2.2⟩ (fun hHeld=>?_)
 clear hK K
 refine norm_ (a':=?_) ?_ ?_
 rotate_left
 ·show Act.put _ (some 25) _=_
  simp only [Act.put,s0,s1,s2,i64_w,i32_w]
  rfl
 refine one_ (i:=10) (N:=some 5) #[true,true,true,true,true,true,true,true,true,true,true,false] rfl rfl (one_of HT_.out (by kernel_rfl)) (by decide) (fun K hK=>?_)
 refine value_ (w1:=?_) (v:=?_) (by rfl) rfl ?_ ?_
 rotate_left 2
 ·go_simp
  constructor
  ·rfl
  ·rfl
 refine hK.out _ _ ⟨(cells3 B0).2.1,(cells3 B0).2.2,(cells3 B1).2.1,(cells3 B1).2.2⟩ (fun hHeld=>?_)
 clear hK K
 refine norm_ (a':=?_) ?_ ?_
 rotate_left
 ·show Act.put _ (some 5) _=_
  simp only [Act.put,s0,s1,s2,i64_w,i32_w]
  rfl
 refine one_ (i:=11) (N:=some 6) #[true,true,true,true,true,true,true,true,true,true,true,true] rfl rfl (one_of HT_.out (by kernel_rfl)) (by decide) (fun K hK=>?_)
 refine value_ (w1:=?_) (v:=?_) (by rfl) rfl ?_ ?_
 rotate_left 2
 ·go_simp
  constructor
  ·rfl
  ·rfl
 refine hK.out _ _ ⟨(cells3 B0).2.1,(cells3 B0).2.2,(cells3 B1).2.1,(cells3 B1).2.2⟩ (fun hHeld=>?_)
 clear hK K
 refine norm_ (a':=?_) ?_ ?_
 rotate_left
 ·show Act.put _ (some 6) _=_
  simp only [Act.put,s0,s1,s2,i64_w,i32_w]
  rfl
 refine done_ (done_of HT_.out (by kernel_rfl)) ?_
 have q0:=cells3 B0
 have q1:=cells3 B1
 by_cases cb : m=n
 ·have cb1 : (m == n)=true:=by simpa using cb
  have cb2 : decide (m=n)=true:=by simpa using cb
  have H:=HH.out
  rw [if_pos cb1] at H
  obtain ⟨s,A,H⟩:=Option.bind_eq_some_iff.mp H
  have A:=Aside0.mk A
  have M:=Aside0.mk H
  clear H HH cb
  go_wp2_with (first|(go_at_call 16;(with_reducible refine (nat_Mul.calls k _ _ b _ _ d z _ HP.out.now'.2 HL1.out.2 HQ.out.now'.2 HL2.out.2 Z.out).mono ?_);rintro e W7 ⟨v,rfl,ho,hb⟩;obtain ⟨Az,cz,rfl,hl,hr⟩:=made ho (fun k hk=>.inl (Nat.lt_of_lt_of_le (HS2.out k hk) HZ.out));have HD:=Aside0.mk hr;have LD:=Aside0.mk hl;haveI kW7 : ∀ w0,[Kp S w0 W6]→Kp S w0 W7:=fun w0 _=>kp_of hb w0;replace B0:=blk_below B0 hb;replace B1:=blk_below B1 hb;replace B2:=blk_below B2 hb;replace HB:=Aside0.mk (below_step HB.out hb);replace HZ:=Aside0.mk (Nat.le_trans HZ.out hb.size);replace q0:=cells3 B0;replace q1:=cells3 B1;clear hr hl hb ho))
  replace B0 : W7.drew.heap[w.heap.size]? = _:=B0
  replace B1 : W7.drew.heap[w.heap.size+1]? = _:=B1
  replace B2 : W7.drew.heap[w.heap.size+1+1]? = _:=B2
  replace HB:=Aside0.mk (below_drew1 HB.out)
  replace HZ : Aside0 (w.heap.size+3≤W7.drew.heap.size):=HZ
  clear q0 q1
  refine start_ (n:=8) (S:=fun w'=>w'.cell? ⟨w.heap.size,0,none⟩=some (.bool m)) (ds:=[7]) #[false,false,false,false,false,false,false,false] (by kernel_rfl) rfl rfl ((cells3 B0).1) (fun hHeld=>?_)
  refine with_tabW rat_plus.tab5 rat_plus.bits5 (fun HT_ HW_=>?_)
  refine pq (i:=0) (N:=some 36) (v:=?_) (a':=?_) rfl rfl (any_of HT_.out (by kernel_rfl)) (Or.inl ⟨by rfl,?_⟩) ?_ ?_
  rotate_left
  ·intro w'
   go_simp
   with_reducible rfl
  rotate_left
  ·simp only [Act.put,s0,s1,s2,i64_w,i32_w]
   rfl
  refine pq (i:=2) (N:=some 38) (v:=?_) (a':=?_) rfl rfl (any_of HT_.out (by kernel_rfl)) (Or.inl ⟨by rfl,?_⟩) ?_ ?_
  rotate_left
  ·intro w'
   go_simp
   with_reducible rfl
  rotate_left
  ·simp only [Act.put,s0,s1,s2,i64_w,i32_w]
   rfl
  refine pq (i:=3) (N:=some 39) (v:=?_) (a':=?_) rfl rfl (any_of HT_.out (by kernel_rfl)) (Or.inl ⟨by rfl,?_⟩) ?_ ?_
  rotate_left
  ·intro w'
   go_simp
   with_reducible rfl
  rotate_left
  ·simp only [Act.put,s0,s1,s2,i64_w,i32_w]
   rfl
  refine pq (i:=5) (N:=some 41) (v:=?_) (a':=?_) rfl rfl (any_of HT_.out (by kernel_rfl)) (Or.inl ⟨by rfl,?_⟩) ?_ ?_
  rotate_left
  ·intro w'
   go_simp
   with_reducible rfl
  rotate_left
  ·simp only [Act.put,s0,s1,s2,i64_w,i32_w]
   rfl
  refine tq (i:=1) (N:=some 37) (v:=?_) (a':=?_) rfl rfl (take_ofW HT_.out HW_.out (by kernel_rfl)) hHeld (Or.inl ⟨by rfl,?_⟩) ?_ ?_
  rotate_left
  ·intro w' s0
   go_simp
   with_reducible rfl
  rotate_left
  ·simp only [Act.put,s0,s1,s2,i64_w,i32_w]
   rfl
  refine one_ (i:=4) (N:=some 40) #[true,true,true,true,true,true,false,false] rfl rfl (one_of HT_.out (by kernel_rfl)) (by decide) (fun K hK=>?_)
  refine goes_ Tryd.func56 (by kernel_rfl) rfl #[.slice Ax x.length cx,.slice Ay y.length cy] (by rfl) rfl rfl (by simp only [List.map_toArray,List.map_cons,List.map_nil];rfl) ?_
  with_reducible refine (nat_Add.calls k _ _ x _ _ y s _ HX.out.now' LX.out HY.out.now' LY.out A.out).mono ?_
  rintro e W8 ⟨v,rfl,ho,hb⟩
  refine ⟨_,rfl,?_⟩
  obtain ⟨An,cn,rfl,hl,hr⟩:=made ho (fun k hk=>.inl (Nat.lt_of_lt_of_le (HS2.out k hk) HZ.out))
  have HN:=Aside0.mk hr
  have LN:=Aside0.mk hl
  haveI kW8 : ∀ w0,[Kp S w0 W7.drew]→Kp S w0 W8:=fun w0 _=>kp_of hb w0
  replace B0:=blk_below B0 hb
  replace B1:=blk_below B1 hb
  replace B2:=blk_below B2 hb
  replace HB:=Aside0.mk (below_step HB.out hb)
  replace HZ:=Aside0.mk (Nat.le_trans HZ.out hb.size)
  clear hr hl hb ho
  refine hK.out _ _ ((cells3 B0).1) (fun hHeld=>?_)
  clear hK K
  refine norm_ (a':=?_) ?_ ?_
  rotate_left
  ·show Act.put _ (some 40) _=_
   simp only [Act.put,s0,s1,s2,i64_w,i32_w]
   rfl
  refine one_ (i:=6) (N:=some 42) #[true,true,true,true,true,true,true,false] rfl rfl (one_of HT_.out (by kernel_rfl)) (by decide) (fun K hK=>?_)
  refine goes_ Tryd.func45 (by kernel_rfl) rfl #[.bool m,.slice An s.length cn,.slice Az z.length cz] (by rfl) rfl rfl (by simp only [List.map_toArray,List.map_cons,List.map_nil];rfl) ?_
  with_reducible refine (rat_made.calls k m _ _ s _ _ z r1 r2 r3 _ HN.out.now' LN.out HD.out.now' LD.out M.out).mono ?_
  rintro e W9 ⟨v1,v2,rfl,h1,h2,hb⟩
  refine ⟨_,rfl,?_⟩
  obtain ⟨Av,cv,ev⟩:=Kd.R_slice h1
  obtain ⟨Au,cu,eu⟩:=Kd.R_slice h2
  subst ev;subst eu
  replace B0:=blk_below B0 hb
  replace B2:=blk_below B2 hb
  replace HB:=Aside0.mk (below_step HB.out hb)
  refine hK.out _ _ ((cells3 B0).1) (fun hHeld=>?_)
  clear hK K
  refine norm_ (a':=?_) ?_ ?_
  rotate_left
  ·show Act.put _ (some 42) _=_
   simp only [Act.put,s0,s1,s2,i64_w,i32_w]
   rfl
  refine last_ (i:=7) (N:=none) #[true,true,true,true,true,true,true,true] rfl rfl (one_of HT_.out (by kernel_rfl)) (by decide) (fun K hK=>?_)
  have q2:=cells3 B2
  have q3:=free3 B2
  refine skip_ (w1:=?_) (by rfl) rfl ?_ ?_
  rotate_left
  ·go_simp
   rfl
  refine hK.out _ _ ?_
  clear hK K
  refine done_ (done_of HT_.out (by kernel_rfl)) ?_
  have H1:=Aside0.mk h1
  have H2:=Aside0.mk h2
  clear h1 h2 hb
  go_wp2
  refine bodyPost_ret (results_cell_row rfl _ _ (w.heap.size+1+1) 25 _ (0,0) _ rfl (put3 B2 _ _ _) Tryd.underlying25 rfl (by kernel_rfl)) rfl ⟨_,_,rfl,R3 H1.out (Nat.le_trans (Nat.le_add_right _ 3) HZ.out) B2 (by decide) _ _ _,R3 H2.out (Nat.le_trans (Nat.le_add_right _ 3) HZ.out) B2 (by decide) _ _ _,low3 HB.out (by omega) _ _ _⟩
 ·have cb1 : (m == n)=false:=by simpa using cb
  have cb2 : decide (m=n)=false:=by simpa using cb
  have H:=HH.out
  rw [if_neg (by simp [cb1])] at H
  obtain ⟨⟨s,o⟩,A,H⟩:=Option.bind_eq_some_iff.mp H
  have A:=Aside0.mk A
  dsimp only at H
  by_cases co : o=true
  ·subst co
   rw [if_pos rfl] at H
   have M:=Aside0.mk H
   clear H HH cb
   go_wp2_with (first
   |(go_at_call 16;(with_reducible refine (nat_Mul.calls k _ _ b _ _ d z _ HP.out.now'.2 HL1.out.2 HQ.out.now'.2 HL2.out.2 Z.out).mono ?_);rintro e W7 ⟨v,rfl,ho,hb⟩;obtain ⟨Az,cz,rfl,hl,hr⟩:=made ho (fun k hk=>.inl (Nat.lt_of_lt_of_le (HS2.out k hk) HZ.out));have HD:=Aside0.mk hr;have LD:=Aside0.mk hl;haveI kW7 : ∀ w0,[Kp S w0 W6]→Kp S w0 W7:=fun w0 _=>kp_of hb w0;replace B0:=blk_below B0 hb;replace B1:=blk_below B1 hb;replace B2:=blk_below B2 hb;replace HB:=Aside0.mk (below_step HB.out hb);replace HZ:=Aside0.mk (Nat.le_trans HZ.out hb.size);replace q0:=cells3 B0;replace q1:=cells3 B1;clear hr hl hb ho)
   |(go_at_call 77;(with_reducible refine (nat_Sub.calls k _ _ x _ _ y s true _ HX.out.now' LX.out HY.out.now' LY.out A.out).mono ?_);rintro e W8 ⟨v,rfl,ho,hb⟩;obtain ⟨An,cn,rfl,hl,hr⟩:=made ho (fun k hk=>.inl (Nat.lt_of_lt_of_le (HS2.out k hk) HZ.out));have HN:=Aside0.mk hr;have LN:=Aside0.mk hl;haveI kW8 : ∀ w0,[Kp S w0 W7]→Kp S w0 W8:=fun w0 _=>kp_of hb w0;replace B0:=blk_below B0 hb;replace B1:=blk_below B1 hb;replace B2:=blk_below B2 hb;replace HB:=Aside0.mk (below_step HB.out hb);replace HZ:=Aside0.mk (Nat.le_trans HZ.out hb.size);replace q0:=cells3 B0;replace q1:=cells3 B1;clear hr hl hb ho)
   |(go_at_call 45;(with_reducible refine (rat_made.calls k m _ _ s _ _ z r1 r2 r3 _ HN.out.now' LN.out HD.out.now' LD.out M.out).mono ?_);rintro e W9 ⟨v1,v2,rfl,h1,h2,hb⟩;obtain ⟨Av,cv,ev⟩:=Kd.R_slice h1;obtain ⟨Au,cu,eu⟩:=Kd.R_slice h2;subst ev;subst eu;replace B2:=blk_below B2 hb;replace HB:=Aside0.mk (below_step HB.out hb);have q2:=cells3 B2;have q3:=free3 B2;have H1:=Aside0.mk h1;have H2:=Aside0.mk h2;clear h1 h2 hb))
   refine bodyPost_ret (results_cell_row rfl _ _ (w.heap.size+1+1) 25 _ (0,0) _ rfl (put3 B2 _ _ _) Tryd.underlying25 rfl (by kernel_rfl)) rfl ⟨_,_,rfl,R3 H1.out (Nat.le_trans (Nat.le_add_right _ 3) HZ.out) B2 (by decide) _ _ _,R3 H2.out (Nat.le_trans (Nat.le_add_right _ 3) HZ.out) B2 (by decide) _ _ _,low3 HB.out (by omega) _ _ _⟩
  ·obtain rfl : o=false:=by simpa using co
   rw [if_neg (by simp)] at H
   obtain ⟨⟨t,o⟩,A2,H⟩:=Option.bind_eq_some_iff.mp H
   have A2:=Aside0.mk A2
   have M:=Aside0.mk H
   dsimp only at M
   clear H HH cb co
   go_wp2_with (first
   |(go_at_call 16;(with_reducible refine (nat_Mul.calls k _ _ b _ _ d z _ HP.out.now'.2 HL1.out.2 HQ.out.now'.2 HL2.out.2 Z.out).mono ?_);rintro e W7 ⟨v,rfl,ho,hb⟩;obtain ⟨Az,cz,rfl,hl,hr⟩:=made ho (fun k hk=>.inl (Nat.lt_of_lt_of_le (HS2.out k hk) HZ.out));have HD:=Aside0.mk hr;have LD:=Aside0.mk hl;haveI kW7 : ∀ w0,[Kp S w0 W6]→Kp S w0 W7:=fun w0 _=>kp_of hb w0;replace B0:=blk_below B0 hb;replace B1:=blk_below B1 hb;replace B2:=blk_below B2 hb;replace HB:=Aside0.mk (below_step HB.out hb);replace HZ:=Aside0.mk (Nat.le_trans HZ.out hb.size);replace q0:=cells3 B0;replace q1:=cells3 B1;clear hr hl hb ho)
   |((have gd:=A);go_at_call 77;(with_reducible refine (nat_Sub.calls k _ _ x _ _ y s false _ HX.out.now' LX.out HY.out.now' LY.out A.out).mono ?_);rintro e W8 ⟨v,rfl,ho,hb⟩;obtain ⟨An,cn,rfl,hl,hr⟩:=made ho (fun k hk=>.inl (Nat.lt_of_lt_of_le (HS2.out k hk) HZ.out));have HN:=Aside0.mk hr;have LN:=Aside0.mk hl;haveI kW8 : ∀ w0,[Kp S w0 W7]→Kp S w0 W8:=fun w0 _=>kp_of hb w0;replace B0:=blk_below B0 hb;replace B1:=blk_below B1 hb;replace B2:=blk_below B2 hb;replace HB:=Aside0.mk (below_step HB.out hb);replace HZ:=Aside0.mk (Nat.le_trans HZ.out hb.size);replace q0:=cells3 B0;replace q1:=cells3 B1;clear hr hl hb ho;clear A gd)
   |(go_at_call 77;(with_reducible refine (nat_Sub.calls k _ _ y _ _ x t o _ HY.out.now' LY.out HX.out.now' LX.out A2.out).mono ?_);rintro e W10 ⟨v,rfl,ho,hb⟩;obtain ⟨At,ct,rfl,hl,hr⟩:=made ho (fun k hk=>.inl (Nat.lt_of_lt_of_le (HS2.out k hk) HZ.out));have HU:=Aside0.mk hr;have LU:=Aside0.mk hl;haveI kW10 : ∀ w0,[Kp S w0 W8]→Kp S w0 W10:=fun w0 _=>kp_of hb w0;replace B0:=blk_below B0 hb;replace B1:=blk_below B1 hb;replace B2:=blk_below B2 hb;replace HB:=Aside0.mk (below_step HB.out hb);replace HZ:=Aside0.mk (Nat.le_trans HZ.out hb.size);replace q0:=cells3 B0;replace q1:=cells3 B1;clear hr hl hb ho)
   |(go_at_call 45;(with_reducible refine (rat_made.calls k n _ _ t _ _ z r1 r2 r3 _ HU.out.now' LU.out HD.out.now' LD.out M.out).mono ?_);rintro e W9 ⟨v1,v2,rfl,h1,h2,hb⟩;obtain ⟨Av,cv,ev⟩:=Kd.R_slice h1;obtain ⟨Au,cu,eu⟩:=Kd.R_slice h2;subst ev;subst eu;replace B2:=blk_below B2 hb;replace HB:=Aside0.mk (below_step HB.out hb);have q2:=cells3 B2;have q3:=free3 B2;have H1:=Aside0.mk h1;have H2:=Aside0.mk h2;clear h1 h2 hb))
   refine bodyPost_ret (results_cell_row rfl _ _ (w.heap.size+1+1) 25 _ (0,0) _ rfl (put3 B2 _ _ _) Tryd.underlying25 rfl (by kernel_rfl)) rfl ⟨_,_,rfl,R3 H1.out (Nat.le_trans (Nat.le_add_right _ 3) HZ.out) B2 (by decide) _ _ _,R3 H2.out (Nat.le_trans (Nat.le_add_right _ 3) HZ.out) B2 (by decide) _ _ _,low3 HB.out (by omega) _ _ _⟩
end Go.Proofs.YtncdiodnbkhacaaDoor.Pq
end
section
namespace Go.Proofs.YtncdiodnbkhacaaDoor.Pq
open Go.RowKit Go.Proofs.YtncdiodnbkhacaaDoorW.PrintWords Go.Proofs.YtncdiodnbkhacaaDoorW.PrintLast Go.Proofs.YtncdiodnbkhacaaDoorW.PrintMore
attribute [local go_sem] max2_int min2_int max_two min_two max_three min_three max_four min_four   -- for this text's walks alone
set_option linter.unusedVariables false
set_option linter.unusedSimpArgs false
theorem rat_Sum.at_step {k : Nat} {l : List S25} {i : Nat} {o R : Bool × List Int × List Int} (h : rat_Sum.at k l i o=some R) (hl : i < l.length) :
  ∃ x,(if i=0 then rat_Read.f k (rd_T25 l (i : Int)).f0 (rd_T25 l (i : Int)).f1 (rd_T25 l (i : Int)).f2 else rat_plus.f k o.1 o.2.1 o.2.2 (rd_T25 l (i : Int)).f0 (rd_T25 l (i : Int)).f1 (rd_T25 l (i : Int)).f2)=some x∧rat_Sum.at k l (i+1) x=some R:=by
 have e : rd_T25 l (i : Int)=l[i]:=by unfold rd_T25;rw [Int.toNat_natCast,List.getD_eq_getElem?_getD,List.getElem?_eq_getElem hl];rfl
 rw [e]
 by_cases h0 : i=0
 ·subst h0
  rw [if_pos rfl]
  cases l with
 |nil=>simp at hl
 |cons x r =>
   obtain ⟨y,hy,h2⟩:=Option.bind_eq_some_iff.mp (show (rat_Read.f k x.f0 x.f1 x.f2).bind (rat_Sum.n k r)=some R from h)
   exact ⟨y,hy,h2⟩
 ·rw [if_neg h0]
  rw [rat_Sum.at,if_neg h0,List.drop_eq_getElem_cons hl] at h
  obtain ⟨y,hy,h2⟩:=Option.bind_eq_some_iff.mp (show (rat_plus.f k o.1 o.2.1 o.2.2 (l[i]).f0 (l[i]).f1 (l[i]).f2).bind (rat_Sum.n k (l.drop (i+1)))=some R from h)
  exact ⟨y,hy,h2⟩
theorem rat_Sum.at_end {k : Nat} {l : List S25} {o R : Bool × List Int × List Int} (h : rat_Sum.at k l l.length o=some R) (h0 : l=[]→o=(false,[],[1])) : o=R:=by
 by_cases e : l.length=0
 ·obtain rfl:=List.eq_nil_of_length_eq_zero e
  rw [h0 rfl]
  exact Option.some.inj h
 ·rw [rat_Sum.at,if_neg e,List.drop_length] at h
  exact Option.some.inj h
set_option maxHeartbeats 4000000 in
set_option maxRecDepth 100000 in
theorem rat_Sum.calls (k : Nat) (A0 : Option Addr) (c0 : Nat) (l0 : List (S25)) (r1 : Bool) (r2 : List Int) (r3 : List Int) (w : World) (hr0 : Kd.C k25 w A0 l0.length l0) (hc0 : l0.length≤c0) (h : rat_Sum.f k l0=some (r1,r2,r3)) :
  Calls Tryd.prog 22 #[.slice A0 l0.length c0] w fun e w'=>∃ v1_ v2_ : Value,e=.returned (.agg #[.bool r1,v1_,v2_])∧Kd.R (Kd.int .u32) 35 w' w.heap.size (fun k_=>some k_≠(v2_ : Value).ownBlock) v1_ r2∧Kd.R (Kd.int .u32) 35 w' w.heap.size (fun k_=>some k_≠(v1_ : Value).ownBlock) v2_ r3∧Below w.heap.size w w':=by
 have hmax : l0.length≤9223372036854775807:=Kd.C_max hr0
 have HR:=Aside0.mk hr0
 have HH:=Aside0.mk h
 clear hr0 h
 have O1 : Aside0 (rat_one.f=some [1]):=⟨rfl⟩
 go_enter Tryd.func22,Tryd.ntmps22
 go_wp2_with (first|(go_at_call 47;(with_reducible refine (rat_one.calls [1] _ O1.out).mono ?_);rintro e W1 ⟨v,rfl,ho,hb⟩;obtain ⟨A1,c1,ev⟩:=Kd.R_slice ho;subst ev;have HO:=Aside0.mk ho;have HB:=Aside0.mk hb;clear ho hb))
 have hz:=HB.out.size
 simp only [World.alloc,Array.size_push] at hz
 obtain ⟨G,hG⟩ : ∃ G,W1.heap.size=G:=⟨_,rfl⟩
 have HG : Aside0 (w.heap.size≤G∧w.heap.size≠G):=⟨by omega,by omega⟩
 obtain ⟨W2,hW2⟩ : ∃ W2,W1.alloc (.cells #[.bool false,.slice none 0 0,.slice A1 1 c1] 25)=W2:=⟨_,rfl⟩
 have HA : Aside0 (Below w.heap.size w W2∧W2.heap[w.heap.size]? = some (.cells #[.bool false,.slice none 0 0,.slice none 0 0] 25)∧W2.heap[G]? = some (.cells #[.bool false,.slice none 0 0,.slice A1 1 c1] 25)):=⟨by
  rw [← hW2,← hG]
  exact ⟨below_alloc (below_step (below_alloc (Below.refl _ _) _) HB.out) _,blk_alloc (blk_below (blk_new _ _) HB.out) _,blk_new _ _⟩⟩
 have HV : Aside0 (Kd.R U32 35 W2 w.heap.size (fun k=>some k≠(Value.slice A1 1 c1).ownBlock) (.slice none 0 0) []∧Kd.R U32 35 W2 w.heap.size (fun k=>some k≠(Value.slice none 0 0).ownBlock) (.slice A1 1 c1) [1]):=⟨Kd.R_nil _ _ _ _ _,by
  rw [← hW2]
  exact Kd.R_alloc (Kd.R_mono (Kd.R_lower HO.out (by simp)) (fun _ _=>by simp [Value.ownBlock])) _⟩
 rw [hW2,hG]
 clear hz hG hW2 HB HO
 go_loopw [10] (fun i wr=>∃ (j : Nat) (o : Bool × List Int × List Int) (A1 : Option Addr) (c1 : Nat) (A2 : Option Addr) (c2 : Nat),j≤l0.length∧i=.int .i64 j∧Aside0 (rat_Sum.at k l0 j o=some (r1,r2,r3)∧(l0=[]→o=(false,[],[1]))) ∧
  Aside0 (Below w.heap.size w wr∧wr.heap[w.heap.size]? = some (.cells #[.bool false,.slice none 0 0,.slice none 0 0] 25)∧wr.heap[G]? = some (.cells #[.bool o.1,.slice A1 o.2.1.length c1,.slice A2 o.2.2.length c2] 25)) ∧
  Aside0 (Kd.R U32 35 wr w.heap.size (fun k=>some k≠(Value.slice A2 o.2.2.length c2).ownBlock) (.slice A1 o.2.1.length c1) o.2.1∧Kd.R U32 35 wr w.heap.size (fun k=>some k≠(Value.slice A1 o.2.1.length c1).ownBlock) (.slice A2 o.2.2.length c2) o.2.2)) (fun i _=>l0.length - (intOf i).toNat)
 case atStart=>exact ⟨0,(false,[],[1]),none,0,A1,c1,Nat.zero_le _,rfl,⟨HH.out,fun _=>rfl⟩,HA,HV⟩
 case round =>
  clear HA HV HH
  obtain ⟨j,⟨o1,o2,o3⟩,A1,c1,A2,c2,hj,rfl,HT,HA,HV⟩:=hrel
  dsimp only at HT HA HV
  by_cases hlt : j < l0.length
  ·obtain ⟨ad,A5,c5,A6,c6,rfl,p0,p1,p2,l1,g1,l2,g2⟩:=at_T25 (Kd.C_below HR.out HA.out.1) (j : Int) (by omega) (by omega)
   rw [Int.toNat_natCast] at p0 p1 p2
   have q3:=cells3 HA.out.2.2
   have q4:=free3 HA.out.2.2
   have eg : G < wr.heap.size:=World.block_lt_of_cell? wr _ q3.1
   have G1:=Aside0.mk (And.intro l1 g1)
   have G2:=Aside0.mk (And.intro l2 g2)
   clear l1 g1 l2 g2
   have hlb : decide ((j : Int) < (l0.length : Int))=true:=decide_eq_true (by omega)
   obtain ⟨⟨x1,x2,x3⟩,X,X2⟩:=rat_Sum.at_step HT.out.1 hlt
   have X2:=Aside0.mk X2
   obtain ⟨x,hx⟩ : ∃ x,rd_T25 l0 (j : Int)=x:=⟨_,rfl⟩
   rw [hx] at X p0 p1 p2 G1 G2
   clear hx
   by_cases hz : j=0
   ·have cz : ((j : Int) == 0)=true:=beq_iff_eq.mpr (by omega)
    rw [if_pos hz] at X
    clear hz
    have X:=Aside0.mk X
    go_wp2_with (first|(go_at_call 18;(with_reducible refine (rat_Read.calls k x.f0 _ _ x.f1 _ _ x.f2 x1 x2 x3 _ (Kd.C_alloc G1.out.2 _) G1.out.1 (Kd.C_alloc G2.out.2 _) G2.out.1 X.out).mono ?_);rintro e W3 ⟨v3,v4,rfl,h3,h4,hb⟩;obtain ⟨A3,c3,e3⟩:=Kd.R_slice h3;obtain ⟨A4,c4,e4⟩:=Kd.R_slice h4;subst e3;subst e4;have HX:=Aside0.mk (And.intro h3 h4);have HB3:=Aside0.mk (below_step HA.out.1 (below_step (below_alloc (Below.refl _ _) _) hb));have B03:=Aside0.mk (blk_below (blk_alloc HA.out.2.1 _) hb);have B13:=Aside0.mk (blk_below (blk_alloc HA.out.2.2 _) hb);have q5:=cells3 B13.out;have eg2 : W3.heap.size≠G:=World.new_ne W3 _ q5.1;have q6:=free3 B13.out;clear h3 h4 hb))
    go_roundw
    case rel=>exact ⟨j+1,(x1,x2,x3),_,_,_,_,hlt,by go_num,⟨X2.out,fun h=>by subst h;simp at hlt⟩,⟨low3 HB3.out HG.out.1 _ _ _,far3 B03.out HG.out.2 _ _ _,put3 B13.out _ _ _⟩,⟨R3 HX.out.1 (by have:=HA.out.1.size;simp;omega) B13.out (by decide) _ _ _,R3 HX.out.2 (by have:=HA.out.1.size;simp;omega) B13.out (by decide) _ _ _⟩⟩
    case measure=>simp [intOf];omega
   ·have cz : ((j : Int) == 0)=false:=beq_eq_false_iff_ne.mpr (by omega)
    rw [if_neg hz] at X
    dsimp only at X
    clear hz
    have X:=Aside0.mk X
    go_wp2_with (first|(go_at_call 48;(with_reducible refine (rat_plus.calls k o1 _ _ o2 _ _ o3 x.f0 _ _ x.f1 _ _ x.f2 x1 x2 x3 _ (Kd.C_alloc (Kd.R_reads' HV.out.1).2.2 _) (Kd.R_reads' HV.out.1).2.1 (Kd.C_alloc (Kd.R_reads' HV.out.2).2.2 _) (Kd.R_reads' HV.out.2).2.1 (Kd.C_alloc G1.out.2 _) G1.out.1 (Kd.C_alloc G2.out.2 _) G2.out.1 X.out).mono ?_);rintro e W3 ⟨v3,v4,rfl,h3,h4,hb⟩;obtain ⟨A3,c3,e3⟩:=Kd.R_slice h3;obtain ⟨A4,c4,e4⟩:=Kd.R_slice h4;subst e3;subst e4;have HX:=Aside0.mk (And.intro h3 h4);have HB3:=Aside0.mk (below_step HA.out.1 (below_step (below_alloc (Below.refl _ _) _) hb));have B03:=Aside0.mk (blk_below (blk_alloc HA.out.2.1 _) hb);have B13:=Aside0.mk (blk_below (blk_alloc HA.out.2.2 _) hb);have q5:=cells3 B13.out;have eg2 : W3.heap.size≠G:=World.new_ne W3 _ q5.1;have q6:=free3 B13.out;clear h3 h4 hb))
    go_roundw
    case rel=>exact ⟨j+1,(x1,x2,x3),_,_,_,_,hlt,by go_num,⟨X2.out,fun h=>by subst h;simp at hlt⟩,⟨low3 HB3.out HG.out.1 _ _ _,far3 B03.out HG.out.2 _ _ _,put3 B13.out _ _ _⟩,⟨R3 HX.out.1 (by have:=HA.out.1.size;simp;omega) B13.out (by decide) _ _ _,R3 HX.out.2 (by have:=HA.out.1.size;simp;omega) B13.out (by decide) _ _ _⟩⟩
    case measure=>simp [intOf];omega
  ·obtain rfl : j=l0.length:=by omega
   obtain ⟨rfl,rfl,rfl⟩ : o1=r1∧o2=r2∧o3=r3:=by simpa using rat_Sum.at_end HT.out.1 HT.out.2
   have q3:=cells3 HA.out.2.2
   have q5:=cells3 HA.out.2.1
   have q6:=free3 HA.out.2.1
   have hlb : decide ((l0.length : Int) < (l0.length : Int))=false:=by simp
   go_wp2
   refine bodyPost_ret (results_cell_row rfl _ _ w.heap.size 25 _ (0,0) _ rfl (put3 HA.out.2.1 _ _ _) Tryd.underlying25 rfl (by kernel_rfl)) rfl ⟨_,_,rfl,R3 HV.out.1 (Nat.le_refl _) HA.out.2.1 (by decide) _ _ _,R3 HV.out.2 (Nat.le_refl _) HA.out.2.1 (by decide) _ _ _,low3 HA.out.1 (Nat.le_refl _) _ _ _⟩
end Go.Proofs.YtncdiodnbkhacaaDoor.Pq
end
section
namespace Go.Proofs.YtncdiodnbkhacaaDoor.Pq
open Go.RowKit Go.Proofs.YtncdiodnbkhacaaDoorW.PrintWords Go.Proofs.YtncdiodnbkhacaaDoorW.PrintLast Go.Proofs.YtncdiodnbkhacaaDoorW.PrintMore
attribute [local go_sem] max2_int min2_int max_two min_two max_three min_three max_four min_four   -- for this text's walks alone
set_option linter.unusedVariables false
set_option linter.unusedSimpArgs false
set_option maxHeartbeats 8000000 in
set_option maxRecDepth 100000 in
theorem rat_Neg.calls (k : Nat) (a0_0 : Bool) (A0_1 : Option Addr) (c0_1 : Nat) (l0_1 : List Int) (A0_2 : Option Addr) (c0_2 : Nat) (l0_2 : List Int) (r1 : Bool) (r2 : List Int) (r3 : List Int) (w : World) (hr0_1 : Kd.C (Kd.int .u32) w A0_1 l0_1.length l0_1) (hc0_1 : l0_1.length≤c0_1) (hr0_2 : Kd.C (Kd.int .u32) w A0_2 l0_2.length l0_2) (hc0_2 : l0_2.length≤c0_2) (h : rat_Neg.f k a0_0 l0_1 l0_2=some (r1,r2,r3)) :
  Calls Tryd.prog 21 #[.agg #[.bool a0_0,.slice A0_1 l0_1.length c0_1,.slice A0_2 l0_2.length c0_2]] w fun e w'=>∃ v1_ v2_ : Value,e=.returned (.agg #[.bool r1,v1_,v2_])∧Kd.R (Kd.int .u32) 35 w' w.heap.size (fun k_=>some k_≠(v2_ : Value).ownBlock) v1_ r2∧Kd.R (Kd.int .u32) 35 w' w.heap.size (fun k_=>some k_≠(v1_ : Value).ownBlock) v2_ r3∧Below w.heap.size w w':=by
 have hu25:=Tryd.underlying25
 have HR0_1:=Aside0.mk hr0_1
 have HC0_1:=Aside0.mk hc0_1
 clear hr0_1 hc0_1
 have HR0_2:=Aside0.mk hr0_2
 have HC0_2:=Aside0.mk hc0_2
 clear hr0_2 hc0_2
 have HB:=Aside0.mk (Below.refl w.heap.size w)
 have H : ((rat_made.f k (!a0_0) l0_1 l0_2).bind fun bt938=>(some (bt938.1,bt938.2.1,bt938.2.2)))=some (r1,r2,r3):=h
 clear h
 replace H:=Option.bind_eq_some_iff.mp H
 obtain ⟨⟨t938,t939,t942⟩,A20,H⟩:=H
 replace H : (some (t938,t939,t942))=some (r1,r2,r3):=H
 have A2:=Aside0.mk A20
 clear A20
 simp only [Option.some.injEq,Prod.mk.injEq] at H
 obtain ⟨rfl,rfl,rfl⟩:=H
 go_enter Tryd.func21,Tryd.ntmps21
 go_wp2_with (first|((with_reducible refine gate_dst (N:=1) rfl ?_);refine box_event ?hg (N:=1) ?hd (cs:=#[.bool a0_0,.slice A0_1 l0_1.length c0_1,.slice A0_2 l0_2.length c0_2]) (t:=25) ?hr ?_;(case hd=>rfl);(case hg=>rfl);(case hr=>first|(go_simp;done)|(go_simp;(with_reducible rfl))|(go_simp;rfl)|(go_simp;have hu_ : ∀ x : Int,IntKind.u32.wrap x=HMod.hMod x (4294967296 : Int):=(fun x=>by simp only [IntKind.wrap,IntKind.bits,IntKind.signed];simp);simp only [hu_,Int.emod_sub_emod]));intro gb936 hg w3 hbox hb;have n0_:=Aside0.mk (below_step (by repeat (first|(with_reducible first|exact HB.out|apply below_alloc|apply pw_below_drewN|apply below_drew1)|exact HB.out)) hb);have n1_:=Aside0.mk (hbox);have n2_:=Aside0.mk ((by rw [hg];exact (below_size (by repeat (first|(with_reducible first|exact HB.out|apply below_alloc|apply pw_below_drewN|apply below_drew1)|exact HB.out))) : w.heap.size≤gb936));have n3_:=Aside0.mk ((by rw [hg];exact (below_size (by repeat (first|(with_reducible first|exact HB.out|apply below_alloc|apply pw_below_drewN|apply below_drew1)|exact HB.out))) : w.heap.size≤gb936));clear HB;have HB:=n0_;have BK936:=n1_;have GW936:=n2_;have GE936:=n3_;clear n0_ n1_ n2_ n3_;clear hb hbox hg)|((with_reducible refine gate_dst (N:=2) rfl ?_);refine box_event ?hg (N:=2) ?hd (cs:=#[.bool false,.slice none 0 0,.slice none 0 0]) (t:=25) ?hr ?_;(case hd=>rfl);(case hg=>rfl);(case hr=>first|(go_simp;done)|(go_simp;(with_reducible rfl))|(go_simp;rfl)|(go_simp;have hu_ : ∀ x : Int,IntKind.u32.wrap x=HMod.hMod x (4294967296 : Int):=(fun x=>by simp only [IntKind.wrap,IntKind.bits,IntKind.signed];simp);simp only [hu_,Int.emod_sub_emod]));intro gb937 hg w4 hbox hb;have n0_:=Aside0.mk (blk_below (g:=gb936) (o:=.cells #[.bool a0_0,.slice A0_1 l0_1.length c0_1,.slice A0_2 l0_2.length c0_2] 25 (0,0)) (by (with_reducible repeat (first|refine blk_drewN ?_ _|refine blk_drew ?_|refine blk_alloc ?_ _));exact BK936.out) hb);have n1_:=Aside0.mk (below_step (by repeat (first|(with_reducible first|exact HB.out|apply below_alloc|apply pw_below_drewN|apply below_drew1|refine below_set ?_ GE936.out)|exact HB.out)) hb);have n2_:=Aside0.mk (hbox);have n3_:=Aside0.mk ((by rw [hg];exact (below_size (by repeat (first|(with_reducible first|exact HB.out|apply below_alloc|apply pw_below_drewN|apply below_drew1|refine below_set ?_ GE936.out)|exact HB.out))) : w.heap.size≤gb937));have n4_:=Aside0.mk ((by rw [hg];exact (below_size (by repeat (first|(with_reducible first|exact HB.out|apply below_alloc|apply pw_below_drewN|apply below_drew1|refine below_set ?_ GE936.out)|exact HB.out))) : w.heap.size≤gb937));have n5_:=Aside0.mk ((by rw [hg];exact Nat.ne_of_lt (blk_lt (g:=gb936) (o:=.cells #[.bool a0_0,.slice A0_1 l0_1.length c0_1,.slice A0_2 l0_2.length c0_2] 25 (0,0)) (by (with_reducible repeat (first|refine blk_drewN ?_ _|refine blk_drew ?_|refine blk_alloc ?_ _));exact BK936.out)) : gb936≠gb937));have n6_:=Aside0.mk ((by rw [hg];exact Nat.ne_of_gt (blk_lt (g:=gb936) (o:=.cells #[.bool a0_0,.slice A0_1 l0_1.length c0_1,.slice A0_2 l0_2.length c0_2] 25 (0,0)) (by (with_reducible repeat (first|refine blk_drewN ?_ _|refine blk_drew ?_|refine blk_alloc ?_ _));exact BK936.out)) : gb937≠gb936));clear BK936;clear HB;have BK936:=n0_;have HB:=n1_;have BK937:=n2_;have GW937:=n3_;have GE937:=n4_;have NB936_937:=n5_;have NB937_936:=n6_;clear n0_ n1_ n2_ n3_ n4_ n5_ n6_;clear hb hbox hg;have hnb5:=NB936_937.out;have hnc5:=NB937_936.out;have hcz6_0 : w4.cell? ⟨gb936,0,none⟩=some (.bool a0_0):=(blk_cell BK936.out 0).trans rfl;have hcz6_1 : w4.cell? ⟨gb936,1,none⟩=some (.slice A0_1 l0_1.length c0_1):=(blk_cell BK936.out 1).trans rfl;have hcz6_2 : w4.cell? ⟨gb936,2,none⟩=some (.slice A0_2 l0_2.length c0_2):=(blk_cell BK936.out 2).trans rfl;have hfz6_0:=blk_frozen BK936.out 0;have hfz6_1:=blk_frozen BK936.out 1;have hfz6_2:=blk_frozen BK936.out 2)|((with_reducible refine gate_callee (f:=45) rfl ?_);refine goesL_ (some 10) rfl rfl Tryd.func45 (by kernel_rfl) rfl #[.bool (!a0_0),.slice A0_1 l0_1.length c0_1,.slice A0_2 l0_2.length c0_2] rfl (by (try simp only [List.map_toArray,List.map_cons,List.map_nil]);first|done|rfl|(simp only [List.length_drop,List.length_take];rfl)) ?_;(with_reducible refine (rat_made.calls k (!a0_0) _ _ l0_1 _ _ l0_2 t938 t939 t942 _ ?side1 ?side2 ?side3 ?side4 A2.out).mono ?_);(case side1=>repeat (first|exact (Kd.C_below HR0_1.out HB.out)|(with_reducible refine Kd.C_alloc ?_ _)|(with_reducible refine Kd.C_drewN ?_ _)|(with_reducible refine Kd.C_drew ?_)));(case side2=>exact HC0_1.out);(case side3=>repeat (first|exact (Kd.C_below HR0_2.out HB.out)|(with_reducible refine Kd.C_alloc ?_ _)|(with_reducible refine Kd.C_drewN ?_ _)|(with_reducible refine Kd.C_drew ?_)));(case side4=>exact HC0_2.out);rintro e w7 ⟨v940,v943,rfl,ho0,ho1,hb⟩;refine ⟨_,rfl,?_⟩;have n0_:=Aside0.mk (Kd.R_lower ho0 (below_size (by repeat (first|(with_reducible first|exact HB.out|apply below_alloc|apply pw_below_drewN|apply below_drew1|refine below_set ?_ GE936.out|refine below_set ?_ GE937.out)|exact HB.out))));have n1_:=Aside0.mk (Kd.R_lower ho1 (below_size (by repeat (first|(with_reducible first|exact HB.out|apply below_alloc|apply pw_below_drewN|apply below_drew1|refine below_set ?_ GE936.out|refine below_set ?_ GE937.out)|exact HB.out))));have n2_:=Aside0.mk (blk_below (g:=gb936) (o:=.cells #[.bool a0_0,.slice A0_1 l0_1.length c0_1,.slice A0_2 l0_2.length c0_2] 25 (0,0)) (by (with_reducible repeat (first|refine blk_drewN ?_ _|refine blk_drew ?_|refine blk_alloc ?_ _));exact BK936.out) hb);have n3_:=Aside0.mk (blk_below (g:=gb937) (o:=.cells #[.bool false,.slice none 0 0,.slice none 0 0] 25 (0,0)) (by (with_reducible repeat (first|refine blk_drewN ?_ _|refine blk_drew ?_|refine blk_alloc ?_ _));exact BK937.out) hb);have n4_:=Aside0.mk (below_step (by repeat (first|(with_reducible first|exact HB.out|apply below_alloc|apply pw_below_drewN|apply below_drew1|refine below_set ?_ GE936.out|refine below_set ?_ GE937.out)|exact HB.out)) hb);clear BK936;clear BK937;clear HB;have HO941:=n0_;have HO944:=n1_;have BK936:=n2_;have BK937:=n3_;have HB:=n4_;clear n0_ n1_ n2_ n3_ n4_;(try clear hb);(try clear hb2);(try clear hk);(try clear hi);(try clear ho0);(try clear ho1);have hcz8_0 : w7.cell? ⟨gb937,0,none⟩=some (.bool false):=(blk_cell BK937.out 0).trans rfl;have hcz8_1 : w7.cell? ⟨gb937,1,none⟩=some (.slice none 0 0):=(blk_cell BK937.out 1).trans rfl;have hcz8_2 : w7.cell? ⟨gb937,2,none⟩=some (.slice none 0 0):=(blk_cell BK937.out 2).trans rfl;have hfz8_0:=blk_frozen BK937.out 0;have hfz8_1:=blk_frozen BK937.out 1;have hfz8_2:=blk_frozen BK937.out 2;obtain ⟨Ao9,co9,eo9⟩:=Kd.R_slice HO941.out;subst eo9;obtain ⟨Ao10,co10,eo10⟩:=Kd.R_slice HO944.out;subst eo10))
 refine bodyPost_ret (results_cell_row rfl _ _ gb937 25 #[.bool t938,.slice Ao9 t939.length co9,.slice Ao10 t942.length co10] (0,0) _ rfl (by (with_reducible repeat (first|refine blk_drewN ?_ _|refine blk_drew ?_|refine blk_alloc ?_ _));refine blk_put (cs:=#[.bool t938,.slice Ao9 t939.length co9,.slice none 0 0]) ?_ 2 _ rfl;(with_reducible repeat (first|refine blk_drewN ?_ _|refine blk_drew ?_|refine blk_alloc ?_ _));refine blk_put (cs:=#[.bool t938,.slice none 0 0,.slice none 0 0]) ?_ 1 _ rfl;(with_reducible repeat (first|refine blk_drewN ?_ _|refine blk_drew ?_|refine blk_alloc ?_ _));refine blk_put (cs:=#[.bool false,.slice none 0 0,.slice none 0 0]) ?_ 0 _ rfl;(with_reducible repeat (first|refine blk_drewN ?_ _|refine blk_drew ?_|refine blk_alloc ?_ _));exact BK937.out) Tryd.underlying25 rfl (by kernel_rfl)) rfl ?_
 exact ⟨_,_,by first|rfl|(simp [errW_none,errW_some] <;> rfl)|(simp [*,errW_none,errW_some] <;> rfl),by (with_reducible repeat (first|apply Kd.R_alloc|apply Kd.R_drewN|apply Kd.R_drew));exact Kd.R_mono (Kd.R_far (p:=⟨gb937,2,none⟩) (Kd.R_far (p:=⟨gb937,1,none⟩) (Kd.R_far (p:=⟨gb937,0,none⟩) (Kd.R_types HO941.out BK937.out (by decide)) (fun _ hk=>hk.2) (.bool t938)) (fun _ hk=>hk.2) (.slice Ao9 t939.length co9)) (fun _ hk=>hk.2) (.slice Ao10 t942.length co10)) (fun _ hk=>hk.1),by (with_reducible repeat (first|apply Kd.R_alloc|apply Kd.R_drewN|apply Kd.R_drew));exact Kd.R_mono (Kd.R_far (p:=⟨gb937,2,none⟩) (Kd.R_far (p:=⟨gb937,1,none⟩) (Kd.R_far (p:=⟨gb937,0,none⟩) (Kd.R_types HO944.out BK937.out (by decide)) (fun _ hk=>hk.2) (.bool t938)) (fun _ hk=>hk.2) (.slice Ao9 t939.length co9)) (fun _ hk=>hk.2) (.slice Ao10 t942.length co10)) (fun _ hk=>hk.1),by repeat (first|(with_reducible first|exact HB.out|apply below_alloc|apply pw_below_drewN|apply below_drew1|refine below_set ?_ GE936.out|refine below_set ?_ GE937.out)|exact HB.out)⟩
end Go.Proofs.YtncdiodnbkhacaaDoor.Pq
end
section
namespace Go.Proofs.YtncdiodnbkhacaaDoor.Pq
open Go.RowKit Go.Proofs.YtncdiodnbkhacaaDoorW.PrintWords Go.Proofs.YtncdiodnbkhacaaDoorW.PrintLast Go.Proofs.YtncdiodnbkhacaaDoorW.PrintMore
set_option linter.unusedVariables false
set_option linter.unusedSimpArgs false
def nz : Nat→ByteArray
|0=>⟨#[]⟩
|i+1=>nz i++(⟨#[48]⟩ : ByteArray)
def no : Nat→ByteArray
|0=>⟨#[49]⟩
|i+1=>no i++(⟨#[48]⟩ : ByteArray)
theorem nz_size : ∀ i,(nz i).size=i
|0=>rfl
|i+1=>by unfold nz;rw [ByteArray.size_append,nz_size i];rfl
theorem no_size : ∀ i,(no i).size=i+1
|0=>rfl
|i+1=>by unfold no;rw [ByteArray.size_append,no_size i];rfl
structure Pts (k : Nat) (s t : ByteArray) (N : Nat) (a c d p : Bool × List Int × List Int) : Prop where
 pA : decimal_Parse.f k ((s++(⟨#[46]⟩ : ByteArray))++t)=some (a.1,a.2.1,a.2.2,0)
 pB : decimal_Parse.f k (((s++t)++(⟨#[47]⟩ : ByteArray))++no t.size)=some (a.1,a.2.1,a.2.2,0)
 pC : decimal_Parse.f k ((((((⟨#[45]⟩ : ByteArray)++nz N)++s)++(⟨#[46]⟩ : ByteArray))++t)++nz N)=some (c.1,c.2.1,c.2.2,0)
 pS : decimal_Parse.f k s=some (d.1,d.2.1,d.2.2,0)
 pP : decimal_Parse.f k ((⟨#[48,46]⟩ : ByteArray)++t)=some (p.1,p.2.1,p.2.2,0)
 nN : rat_Neg.f k c.1 c.2.1 c.2.2=some a
 sS : rat_Sum.f k [(⟨d.1,d.2.1,d.2.2⟩ : S25),⟨p.1,p.2.1,p.2.2⟩]=some a
 iI : penumbraref03_Is.f k a.1 a.2.1 a.2.2 a.1 a.2.1 a.2.2=some true
theorem two25 {W : World} {g t : Nat} {x y : S25} {a b c d e f : Value} (h : W.heap[g]? = some (.cells #[a,b,c,d,e,f] t (0,0))) (hx : k25.K W x [a,b,c]) (hy : k25.K W y [d,e,f]) : Kd.C k25 W (some ⟨g,0,none⟩) 2 [x,y]:=by
 refine ⟨rfl,by decide,fun _=>⟨_,rfl,fun j p hj=>?_⟩⟩
 match j,hj with
|0,hj =>
  obtain rfl : x=p:=by simpa using hj
  exact ⟨_,rfl,hx,fun i u hu=>by
   match i,hu with
  |0,hu=>rw [add_plain];exact (blk_cell h 0).trans hu
  |1,hu=>rw [add_plain];exact (blk_cell h 1).trans hu
  |2,hu=>rw [add_plain];exact (blk_cell h 2).trans hu⟩
|1,hj =>
  obtain rfl : y=p:=by simpa using hj
  exact ⟨_,rfl,hy,fun i u hu=>by
   match i,hu with
  |0,hu=>rw [add_plain];exact (blk_cell h 3).trans hu
  |1,hu=>rw [add_plain];exact (blk_cell h 4).trans hu
  |2,hu=>rw [add_plain];exact (blk_cell h 5).trans hu⟩
def points.T18 : Bool × List (List Nat × List Nat):=(true,[([],[]),([0],[0]),([1],[1]),([2],[2]),([3,2],[2,3]),([2,4],[2,4]),([5,2],[5]),([6],[6]),([7,6],[6,7]),([6,8],[6,8]),([9,6],[9]),([10],[10]),([11,10],[10,11]),([10,12],[10,12]),([13,10],[13]),([14],[14]),([15,14],[14,15]),([14,16],[14,16]),([17,14],[17]),([18],[18]),([18],[18]),([19,20,18,18],[18,19,20]),([18,21],[18,21]),([22,21],[22]),([23],[23]),([23],[23]),([25,23,23],[23,25]),([24,26,26,23],[23,24,26]),([23,27],[23,27]),([28,27],[28]),([29],[29]),([29],[29]),([29],[29]),([31,32,29],[29,31,32]),([33,29,29],[29,33]),([30,34,34,29],[29,30,34]),([29,35],[29,35]),([36,35,0,1,2,3,4,5,6,7,8,9,10,11,12,13,14,15,16,17,18,19,20,21,22,23,24,25,26,27,28,29,30,31,32,33,34,35,36],[36])])
def points.B18 : List Nat:=[0,1,3,7,15,31,63,127,255,511,1023,2047,4095,8191,16383,32767,65535,131071,262143,524287,524287,2097151,4194303,8388607,16777215,16777215,50331647,134217727,268435455,536870911,1073741823,1073741823,1073741823,7516192767,16106127359,34359738367,68719476735,137438953471]
theorem points.tab18 : rtab .any (opsOf Tryd.f7 18)=points.T18:=by kernel_rfl
theorem points.bits18 : waitsOk points.T18.2 points.B18=true:=by kernel_rfl
set_option maxHeartbeats 4000000 in
set_option maxRecDepth 100000 in
theorem points_early (k : Nat) (A0 : Option Addr) (c0 : Nat) (l0 : List Int) (A1 : Option Addr) (c1 : Nat) (l1 : List Int) (n : Int) (w : World) (hr0 : Kd.C (Kd.int .u8) w A0 l0.length l0) (hc0 : l0.length≤c0) (hr1 : Kd.C (Kd.int .u8) w A1 l1.length l1) (hc1 : l1.length≤c1)
  (s t : ByteArray) (hs : penumbralaw04_digits.f k l0=some s) (ht : penumbralaw04_digits.f k l1=some t) (hf : penumbralaw04_fixed.f k=some true) (h : s.toList=[]∨t.toList=[]∨n < 0∨20 < n) :
  Calls Tryd.prog 7 #[.slice A0 l0.length c0,.slice A1 l1.length c1,.int .i64 n] w fun e w'=>e=.returned (.bool true)∧Below w.heap.size w w':=by
 have HR:=Aside0.mk (And.intro (And.intro hr0 hc0) (And.intro hr1 hc1))
 have HS:=Aside0.mk hs
 have HT:=Aside0.mk ht
 have HF:=Aside0.mk hf
 clear hr0 hc0 hr1 hc1 hs ht hf
 obtain ⟨b0,h0⟩ : ∃ b,s.toList.isEmpty=b:=⟨_,rfl⟩
 obtain ⟨b1,h1⟩ : ∃ b,t.toList.isEmpty=b:=⟨_,rfl⟩
 obtain ⟨b2,h2⟩ : ∃ b,decide (n < 0)=b:=⟨_,rfl⟩
 obtain ⟨b3,h3⟩ : ∃ b,decide (20 < n)=b:=⟨_,rfl⟩
 have hb : (b0 || b1 || b2 || b3)=true:=by
  subst h0;subst h1;subst h2;subst h3
  rcases h with h|h|h|h <;> simp [h]
 clear h
 go_enter Tryd.func7,Tryd.ntmps7
 cases b0 <;> cases b1 <;> cases b2 <;> cases b3 <;> first|(simp at hb;done)|skip
 all_goals
  clear hb
  go_wp2_with (first
  |((have gd:=HS);go_at_call 20;(with_reducible refine (penumbralaw04_digits.calls k _ _ l0 s _ HR.out.1.1 HR.out.1.2 HS.out).mono ?_);rintro e w1 ⟨rfl,⟨n1,rfl⟩⟩;clear HS gd)
  |(go_at_call 20;(with_reducible refine (penumbralaw04_digits.calls k _ _ l1 t _ (Kd.C_drewN HR.out.2.1 _) HR.out.2.2 HT.out).mono ?_);rintro e w1 ⟨rfl,⟨n2,rfl⟩⟩)
  |((have gd:=HT);go_at_call 8;(with_reducible refine (penumbralaw04_fixed.calls k true _ HF.out).mono ?_);rintro e w2 ⟨rfl,hb2⟩;clear HT gd)
  |(go_at_call 8;(with_reducible refine (penumbralaw04_fixed.calls k true _ HF.out).mono ?_);rintro e w3 ⟨rfl,hb3⟩))
  go_ret
  exact ⟨rfl,below_step (below_step (pw_below_drewN (Below.refl _ _) _) hb2) hb3⟩
set_option maxHeartbeats 4000000 in
set_option maxRecDepth 100000 in
theorem points_main (k : Nat) (A0 : Option Addr) (c0 : Nat) (l0 : List Int) (A1 : Option Addr) (c1 : Nat) (l1 : List Int) (N : Nat) (w : World) (hr0 : Kd.C (Kd.int .u8) w A0 l0.length l0) (hc0 : l0.length≤c0) (hr1 : Kd.C (Kd.int .u8) w A1 l1.length l1) (hc1 : l1.length≤c1)
  (s t : ByteArray) (a c d p : Bool × List Int × List Int) (hs : penumbralaw04_digits.f k l0=some s) (ht : penumbralaw04_digits.f k l1=some t) (hf : penumbralaw04_fixed.f k=some true) (hs0 : s.toList.isEmpty=false) (ht0 : t.toList.isEmpty=false) (hN : N≤20)
  (hs1 : s.size≤60) (ht1 : t.size≤60) (h : Pts k s t N a c d p) :
  Calls Tryd.prog 7 #[.slice A0 l0.length c0,.slice A1 l1.length c1,.int .i64 N] w fun e w'=>e=.returned (.bool true)∧Below w.heap.size w w':=by
 have HR:=Aside0.mk (And.intro (And.intro hr0 hc0) (And.intro hr1 hc1))
 have HS:=Aside0.mk hs
 have HT:=Aside0.mk ht
 have HF:=Aside0.mk hf
 have HP:=Aside0.mk h
 clear hr0 hc0 hr1 hc1 hs ht hf h
 have n0 : decide ((N : Int) < 0)=false:=by simp
 have n1 : decide (20 < (N : Int))=false:=by simp;omega
 go_enter Tryd.func7,Tryd.ntmps7
 go_wp2_with (first
  |((have gd:=HS);go_at_call 20;(with_reducible refine (penumbralaw04_digits.calls k _ _ l0 s _ HR.out.1.1 HR.out.1.2 HS.out).mono ?_);rintro e w1 ⟨rfl,⟨n1,rfl⟩⟩;clear HS gd)
  |(go_at_call 20;(with_reducible refine (penumbralaw04_digits.calls k _ _ l1 t _ (Kd.C_drewN HR.out.2.1 _) HR.out.2.2 HT.out).mono ?_);rintro e w1 ⟨rfl,⟨n2,rfl⟩⟩)
  |(go_at_call 8;(with_reducible refine (penumbralaw04_fixed.calls k true _ HF.out).mono ?_);rintro e w2 ⟨rfl,hb2⟩;have HB:=Aside0.mk (below_step (pw_below_drewN (Below.refl _ _) _) hb2);clear hb2))
 go_loop [9,11] (fun z i=>∃ j : Nat,j≤N∧i=.int .i64 j∧z=.string (nz j)) (fun _ i=>N - (intOf i).toNat)
 case atStart=>exact ⟨0,Nat.zero_le _,rfl,rfl⟩
 case round =>
  obtain ⟨j,hj,rfl,rfl⟩:=hrel
  have hz:=nz_size j
  by_cases hlt : j < N
  ·have e1 : nz j++(⟨#[48]⟩ : ByteArray)=nz (j+1):=rfl
   go_wp2
   go_round
   case rel=>exact ⟨j+1,hlt,by go_num,rfl⟩
   case measure=>simp [intOf];omega
  ·obtain rfl : j=N:=by omega
   go_wp2
   go_loop [10,12] (fun o i=>∃ m : Nat,m≤t.size∧i=.int .i64 m∧o=.string (no m)) (fun _ i=>t.size - (intOf i).toNat)
   case atStart=>exact ⟨0,Nat.zero_le _,rfl,rfl⟩
   case round =>
    obtain ⟨m,hm,rfl,rfl⟩:=hrel
    have ho:=no_size m
    by_cases hlt2 : m < t.size
    ·have e1 : no m++(⟨#[48]⟩ : ByteArray)=no (m+1):=rfl
     go_wp2
     go_round
     case rel=>exact ⟨m+1,hlt2,by go_num,rfl⟩
     case measure=>simp [intOf];omega
    ·obtain rfl : m=t.size:=by omega
     obtain ⟨a1,a2,a3⟩:=a
     obtain ⟨c1,c2,c3⟩:=c
     obtain ⟨d1,d2,d3⟩:=d
     obtain ⟨p1,p2,p3⟩:=p
     have zs1 : (s++(⟨#[46]⟩ : ByteArray)).size=s.size+1:=by rw [ByteArray.size_append];rfl
     have zs2 : (s++t).size=s.size+t.size:=ByteArray.size_append ..
     have zs3 : ((s++t)++(⟨#[47]⟩ : ByteArray)).size=s.size+t.size+1:=by rw [ByteArray.size_append,ByteArray.size_append];rfl
     have zs4 : ((⟨#[45]⟩ : ByteArray)++nz j).size=j+1:=by rw [ByteArray.size_append,nz_size];exact Nat.add_comm 1 j
     have zs5 : (((⟨#[45]⟩ : ByteArray)++nz j)++s).size=j+1+s.size:=by rw [ByteArray.size_append,zs4]
     have zs6 : ((((⟨#[45]⟩ : ByteArray)++nz j)++s)++(⟨#[46]⟩ : ByteArray)).size=j+1+s.size+1:=by rw [ByteArray.size_append,zs5];rfl
     have zs7 : (((((⟨#[45]⟩ : ByteArray)++nz j)++s)++(⟨#[46]⟩ : ByteArray))++t).size=j+1+s.size+1+t.size:=by rw [ByteArray.size_append,zs6]
     go_upto_region 18 with (first
     |(go_at_call_of 9 (Value.string ((s++(⟨#[46]⟩ : ByteArray))++t));(with_reducible refine (decimal_Parse.calls k _ a1 a2 a3 0 _ HP.out.pA).mono ?_);rintro e w3 ⟨v1,v2,rfl,h1,h2,hb⟩;obtain ⟨A1,g1,q1⟩:=Kd.R_slice h1;obtain ⟨A2,g2,q2⟩:=Kd.R_slice h2;subst q1;subst q2;have HA:=Aside0.mk (And.intro (Kd.R_reads' h1).2 (Kd.R_reads' h2).2);haveI kw3 : ∀ w0,[Up w0 w2]→Up w0 w3:=fun w0 h=>⟨below_step h.b hb⟩;clear h1 h2 hb)
     |(go_at_call_of 9 (Value.string (((s++t)++(⟨#[47]⟩ : ByteArray))++no t.size));(with_reducible refine (decimal_Parse.calls k _ a1 a2 a3 0 _ HP.out.pB).mono ?_);rintro e w4 ⟨v1,v2,rfl,h1,h2,hb⟩;obtain ⟨A3,g3,q1⟩:=Kd.R_slice h1;obtain ⟨A4,g4,q2⟩:=Kd.R_slice h2;subst q1;subst q2;have HB2:=Aside0.mk (And.intro (Kd.R_reads' h1).2 (Kd.R_reads' h2).2);haveI kw4 : ∀ w0,[Up w0 (w3.alloc (.cells #[.bool a1,.slice A1 a2.length g1,.slice A2 a3.length g2] 25))]→Up w0 w4:=fun w0 h=>⟨below_step h.b hb⟩;clear h1 h2 hb)
     |(go_at_call_of 9 (Value.string ((((((⟨#[45]⟩ : ByteArray)++nz j)++s)++(⟨#[46]⟩ : ByteArray))++t)++nz j));(with_reducible refine (decimal_Parse.calls k _ c1 c2 c3 0 _ HP.out.pC).mono ?_);rintro e w5 ⟨v1,v2,rfl,h1,h2,hb⟩;obtain ⟨A5,g5,q1⟩:=Kd.R_slice h1;obtain ⟨A6,g6,q2⟩:=Kd.R_slice h2;subst q1;subst q2;have HC:=Aside0.mk (And.intro (Kd.R_reads' h1).2 (Kd.R_reads' h2).2);haveI kw5 : ∀ w0,[Up w0 (w4.alloc (.cells #[.bool a1,.slice A3 a2.length g3,.slice A4 a3.length g4] 25))]→Up w0 w5:=fun w0 h=>⟨below_step h.b hb⟩;clear h1 h2 hb)
     |(go_at_call_of 9 (Value.string s);(with_reducible refine (decimal_Parse.calls k _ d1 d2 d3 0 _ HP.out.pS).mono ?_);rintro e w6 ⟨v1,v2,rfl,h1,h2,hb⟩;obtain ⟨A7,g7,q1⟩:=Kd.R_slice h1;obtain ⟨A8,g8,q2⟩:=Kd.R_slice h2;subst q1;subst q2;have HD:=Aside0.mk (And.intro (Kd.R_reads' h1).2 (Kd.R_reads' h2).2);haveI kw6 : ∀ w0,[Up w0 (w5.alloc (.cells #[.bool c1,.slice A5 c2.length g5,.slice A6 c3.length g6] 25))]→Up w0 w6:=fun w0 h=>⟨below_step h.b hb⟩;clear h1 h2 hb)
     |(go_at_call_of 9 (Value.string ((⟨#[48,46]⟩ : ByteArray)++t));(with_reducible refine (decimal_Parse.calls k _ p1 p2 p3 0 _ HP.out.pP).mono ?_);rintro e w7 ⟨v1,v2,rfl,h1,h2,hb⟩;obtain ⟨A9,g9,q1⟩:=Kd.R_slice h1;obtain ⟨B1,e1,q2⟩:=Kd.R_slice h2;subst q1;subst q2;have HE:=Aside0.mk (And.intro (Kd.R_reads' h1).2 (Kd.R_reads' h2).2);haveI kw7 : ∀ w0,[Up w0 (w6.alloc (.cells #[.bool d1,.slice A7 d2.length g7,.slice A8 d3.length g8] 25))]→Up w0 w7:=fun w0 h=>⟨below_step h.b hb⟩;clear h1 h2 hb))
     have BA:=blk_new w3 (.cells #[.bool a1,.slice A1 a2.length g1,.slice A2 a3.length g2] 25)
     have BB:=blk_new w4 (.cells #[.bool a1,.slice A3 a2.length g3,.slice A4 a3.length g4] 25)
     have BC:=blk_new w5 (.cells #[.bool c1,.slice A5 c2.length g5,.slice A6 c3.length g6] 25)
     have BD:=blk_new w6 (.cells #[.bool d1,.slice A7 d2.length g7,.slice A8 d3.length g8] 25)
     have BE:=blk_new w7 (.cells #[.bool p1,.slice A9 p2.length g9,.slice B1 p3.length e1] 25)
     refine start_ (n:=38) (S:=fun w'=>w'.cell? ⟨w3.heap.size,0,none⟩=some (.bool a1)∧w'.cell? ⟨w3.heap.size,1,none⟩=some (.slice A1 a2.length g1)∧w'.cell? ⟨w3.heap.size,2,none⟩=some (.slice A2 a3.length g2)∧w'.cell? ⟨w4.heap.size,0,none⟩=some (.bool a1)∧w'.cell? ⟨w4.heap.size,1,none⟩=some (.slice A3 a2.length g3)∧w'.cell? ⟨w4.heap.size,2,none⟩=some (.slice A4 a3.length g4)∧w'.cell? ⟨w5.heap.size,0,none⟩=some (.bool c1)∧w'.cell? ⟨w5.heap.size,1,none⟩=some (.slice A5 c2.length g5)∧w'.cell? ⟨w5.heap.size,2,none⟩=some (.slice A6 c3.length g6)∧w'.cell? ⟨w6.heap.size,0,none⟩=some (.bool d1)∧w'.cell? ⟨w6.heap.size,1,none⟩=some (.slice A7 d2.length g7)∧w'.cell? ⟨w6.heap.size,2,none⟩=some (.slice A8 d3.length g8)∧w'.cell? ⟨w7.heap.size,0,none⟩=some (.bool p1)∧w'.cell? ⟨w7.heap.size,1,none⟩=some (.slice A9 p2.length g9)∧w'.cell? ⟨w7.heap.size,2,none⟩=some (.slice B1 p3.length e1)) (ds:=[]) #[false,false,false,false,false,false,false,false,false,false,false,false,false,false,false,false,false,false,false,false,false,false,false,false,false,false,false,false,false,false,false,false,false,false,false,false,false,false] (by kernel_rfl) rfl rfl ⟨(cells3 (Bu BA)).1,(cells3 (Bu BA)).2.1,(cells3 (Bu BA)).2.2,(cells3 (Bu BB)).1,(cells3 (Bu BB)).2.1,(cells3 (Bu BB)).2.2,(cells3 (Bu BC)).1,(cells3 (Bu BC)).2.1,(cells3 (Bu BC)).2.2,(cells3 (Bu BD)).1,(cells3 (Bu BD)).2.1,(cells3 (Bu BD)).2.2,(cells3 (Bu BE)).1,(cells3 (Bu BE)).2.1,(cells3 (Bu BE)).2.2⟩ (fun hHeld=>?_)
     refine with_tabW points.tab18 points.bits18 (fun HT_ HW_=>?_)
     refine pq (i:=0) (N:=some 103) (v:=?_) (a':=?_) rfl rfl (any_of HT_.out (by kernel_rfl)) (Or.inl ⟨by rfl,?_⟩) ?_ ?_
     rotate_left
     ·intro w'
      go_simp
      with_reducible rfl
     rotate_left
     ·simp only [Act.put,s0,s1,s2,i64_w,i32_w]
      rfl
     refine pq (i:=1) (N:=some 104) (v:=?_) (a':=?_) rfl rfl (any_of HT_.out (by kernel_rfl)) (Or.inl ⟨by rfl,?_⟩) ?_ ?_
     rotate_left
     ·intro w'
      go_simp
      with_reducible rfl
     rotate_left
     ·simp only [Act.put,s0,s1,s2,i64_w,i32_w]
      rfl
     refine pq (i:=2) (N:=some 105) (v:=?_) (a':=?_) rfl rfl (any_of HT_.out (by kernel_rfl)) (Or.inl ⟨by rfl,?_⟩) ?_ ?_
     rotate_left
     ·intro w'
      go_simp
      with_reducible rfl
     rotate_left
     ·simp only [Act.put,s0,s1,s2,i64_w,i32_w]
      rfl
     refine pq (i:=3) (N:=some 106) (v:=?_) (a':=?_) rfl rfl (any_of HT_.out (by kernel_rfl)) (Or.inl ⟨by rfl,?_⟩) ?_ ?_
     rotate_left
     ·intro w'
      go_simp
      with_reducible rfl
     rotate_left
     ·simp only [Act.put,s0,s1,s2,i64_w,i32_w]
      rfl
     refine pq (i:=4) (N:=some 107) (v:=?_) (a':=?_) rfl rfl (any_of HT_.out (by kernel_rfl)) (Or.inl ⟨by rfl,?_⟩) ?_ ?_
     rotate_left
     ·intro w'
      go_simp
      with_reducible rfl
     rotate_left
     ·simp only [Act.put,s0,s1,s2,i64_w,i32_w]
      rfl
     refine pq (i:=5) (N:=some 108) (v:=?_) (a':=?_) rfl rfl (any_of HT_.out (by kernel_rfl)) (Or.inl ⟨by rfl,?_⟩) ?_ ?_
     rotate_left
     ·intro w'
      go_simp
      with_reducible rfl
     rotate_left
     ·simp only [Act.put,s0,s1,s2,i64_w,i32_w]
      rfl
     refine pq (i:=6) (N:=some 109) (v:=?_) (a':=?_) rfl rfl (any_of HT_.out (by kernel_rfl)) (Or.inl ⟨by rfl,?_⟩) ?_ ?_
     rotate_left
     ·intro w'
      go_simp
      with_reducible rfl
     rotate_left
     ·simp only [Act.put,s0,s1,s2,i64_w,i32_w]
      rfl
     refine pq (i:=7) (N:=some 110) (v:=?_) (a':=?_) rfl rfl (any_of HT_.out (by kernel_rfl)) (Or.inl ⟨by rfl,?_⟩) ?_ ?_
     rotate_left
     ·intro w'
      go_simp
      with_reducible rfl
     rotate_left
     ·simp only [Act.put,s0,s1,s2,i64_w,i32_w]
      rfl
     refine pq (i:=8) (N:=some 111) (v:=?_) (a':=?_) rfl rfl (any_of HT_.out (by kernel_rfl)) (Or.inl ⟨by rfl,?_⟩) ?_ ?_
     rotate_left
     ·intro w'
      go_simp
      with_reducible rfl
     rotate_left
     ·simp only [Act.put,s0,s1,s2,i64_w,i32_w]
      rfl
     refine pq (i:=9) (N:=some 112) (v:=?_) (a':=?_) rfl rfl (any_of HT_.out (by kernel_rfl)) (Or.inl ⟨by rfl,?_⟩) ?_ ?_
     rotate_left
     ·intro w'
      go_simp
      with_reducible rfl
     rotate_left
     ·simp only [Act.put,s0,s1,s2,i64_w,i32_w]
      rfl
     refine pq (i:=10) (N:=some 113) (v:=?_) (a':=?_) rfl rfl (any_of HT_.out (by kernel_rfl)) (Or.inl ⟨by rfl,?_⟩) ?_ ?_
     rotate_left
     ·intro w'
      go_simp
      with_reducible rfl
     rotate_left
     ·simp only [Act.put,s0,s1,s2,i64_w,i32_w]
      rfl
     refine pq (i:=11) (N:=some 114) (v:=?_) (a':=?_) rfl rfl (any_of HT_.out (by kernel_rfl)) (Or.inl ⟨by rfl,?_⟩) ?_ ?_
     rotate_left
     ·intro w'
      go_simp
      with_reducible rfl
     rotate_left
     ·simp only [Act.put,s0,s1,s2,i64_w,i32_w]
      rfl
     refine pq (i:=12) (N:=some 115) (v:=?_) (a':=?_) rfl rfl (any_of HT_.out (by kernel_rfl)) (Or.inl ⟨by rfl,?_⟩) ?_ ?_
     rotate_left
     ·intro w'
      go_simp
      with_reducible rfl
     rotate_left
     ·simp only [Act.put,s0,s1,s2,i64_w,i32_w]
      rfl
     refine pq (i:=13) (N:=some 116) (v:=?_) (a':=?_) rfl rfl (any_of HT_.out (by kernel_rfl)) (Or.inl ⟨by rfl,?_⟩) ?_ ?_
     rotate_left
     ·intro w'
      go_simp
      with_reducible rfl
     rotate_left
     ·simp only [Act.put,s0,s1,s2,i64_w,i32_w]
      rfl
     refine pq (i:=14) (N:=some 117) (v:=?_) (a':=?_) rfl rfl (any_of HT_.out (by kernel_rfl)) (Or.inl ⟨by rfl,?_⟩) ?_ ?_
     rotate_left
     ·intro w'
      go_simp
      with_reducible rfl
     rotate_left
     ·simp only [Act.put,s0,s1,s2,i64_w,i32_w]
      rfl
     refine pq (i:=15) (N:=some 118) (v:=?_) (a':=?_) rfl rfl (any_of HT_.out (by kernel_rfl)) (Or.inl ⟨by rfl,?_⟩) ?_ ?_
     rotate_left
     ·intro w'
      go_simp
      with_reducible rfl
     rotate_left
     ·simp only [Act.put,s0,s1,s2,i64_w,i32_w]
      rfl
     refine pq (i:=16) (N:=some 119) (v:=?_) (a':=?_) rfl rfl (any_of HT_.out (by kernel_rfl)) (Or.inl ⟨by rfl,?_⟩) ?_ ?_
     rotate_left
     ·intro w'
      go_simp
      with_reducible rfl
     rotate_left
     ·simp only [Act.put,s0,s1,s2,i64_w,i32_w]
      rfl
     refine pq (i:=17) (N:=some 120) (v:=?_) (a':=?_) rfl rfl (any_of HT_.out (by kernel_rfl)) (Or.inl ⟨by rfl,?_⟩) ?_ ?_
     rotate_left
     ·intro w'
      go_simp
      with_reducible rfl
     rotate_left
     ·simp only [Act.put,s0,s1,s2,i64_w,i32_w]
      rfl
     refine pq (i:=18) (N:=some 121) (v:=?_) (a':=?_) rfl rfl (any_of HT_.out (by kernel_rfl)) (Or.inl ⟨by rfl,?_⟩) ?_ ?_
     rotate_left
     ·intro w'
      go_simp
      with_reducible rfl
     rotate_left
     ·simp only [Act.put,s0,s1,s2,i64_w,i32_w]
      rfl
     refine tq (i:=19) (N:=some 122) (v:=?_) (a':=?_) rfl rfl (take_ofW HT_.out HW_.out (by kernel_rfl)) hHeld (Or.inl ⟨by rfl,?_⟩) ?_ ?_
     rotate_left
     ·rintro w' ⟨s0,s1,s2,s3,s4,s5,s6,s7,s8,s9,s10,s11,s12,s13,s14⟩
      go_simp
      with_reducible rfl
     rotate_left
     ·simp only [Act.put,s0,s1,s2,i64_w,i32_w]
      rfl
     refine tq (i:=20) (N:=some 123) (v:=?_) (a':=?_) rfl rfl (take_ofW HT_.out HW_.out (by kernel_rfl)) hHeld (Or.inl ⟨by rfl,?_⟩) ?_ ?_
     rotate_left
     ·rintro w' ⟨s0,s1,s2,s3,s4,s5,s6,s7,s8,s9,s10,s11,s12,s13,s14⟩
      go_simp
      with_reducible rfl
     rotate_left
     ·simp only [Act.put,s0,s1,s2,i64_w,i32_w]
      rfl
     refine one_ (i:=21) (N:=some 124) #[true,true,true,true,true,true,true,true,true,true,true,true,true,true,true,true,true,true,true,true,true,true,false,false,false,false,false,false,false,false,false,false,false,false,false,false,false,false] rfl rfl (one_of HT_.out (by kernel_rfl)) (by decide) (fun K hK=>?_)
     refine goes_ Tryd.func11 (by kernel_rfl) rfl #[.agg #[.bool a1,.slice A1 a2.length g1,.slice A2 a3.length g2],.agg #[.bool a1,.slice A3 a2.length g3,.slice A4 a3.length g4]] (by rfl) rfl rfl (by simp only [List.map_toArray,List.map_cons,List.map_nil];rfl) ?_
     with_reducible refine (penumbraref03_Is.calls k a1 _ _ a2 _ _ a3 a1 _ _ a2 _ _ a3 true _ (Cu HA.out.1.2) HA.out.1.1 (Cu HA.out.2.2) HA.out.2.1 (Cu HB2.out.1.2) HB2.out.1.1 (Cu HB2.out.2.2) HB2.out.2.1 HP.out.iI).mono ?_
     rintro e w8 ⟨rfl,hb⟩
     refine ⟨_,rfl,?_⟩
     haveI kw8 : ∀ w0,[Up w0 (w7.alloc (.cells #[.bool p1,.slice A9 p2.length g9,.slice B1 p3.length e1] 25)).drew]→Up w0 w8:=fun w0 h=>⟨below_step h.b hb⟩
     clear hb
     refine hK.out _ _ ⟨(cells3 (Bu BA)).1,(cells3 (Bu BA)).2.1,(cells3 (Bu BA)).2.2,(cells3 (Bu BB)).1,(cells3 (Bu BB)).2.1,(cells3 (Bu BB)).2.2,(cells3 (Bu BC)).1,(cells3 (Bu BC)).2.1,(cells3 (Bu BC)).2.2,(cells3 (Bu BD)).1,(cells3 (Bu BD)).2.1,(cells3 (Bu BD)).2.2,(cells3 (Bu BE)).1,(cells3 (Bu BE)).2.1,(cells3 (Bu BE)).2.2⟩ (fun hHeld=>?_)
     clear hK K
     refine norm_ (a':=?_) ?_ ?_
     rotate_left
     ·show Act.put _ (some 124) _=_
      simp only [Act.put,s0,s1,s2,i64_w,i32_w]
      rfl
     refine pq (i:=22) (N:=some 125) (v:=?_) (a':=?_) rfl rfl (any_of HT_.out (by kernel_rfl)) (Or.inl ⟨by rfl,?_⟩) ?_ ?_
     rotate_left
     ·intro w'
      go_simp
      with_reducible rfl
     rotate_left
     ·simp only [Act.put,s0,s1,s2,i64_w,i32_w]
      rfl
     refine pq (i:=23) (N:=some 126) (v:=?_) (a':=?_) rfl rfl (any_of HT_.out (by kernel_rfl)) (Or.inl ⟨by rfl,?_⟩) ?_ ?_
     rotate_left
     ·intro w'
      go_simp
      with_reducible rfl
     rotate_left
     ·simp only [Act.put,s0,s1,s2,i64_w,i32_w]
      rfl
     refine tq (i:=24) (N:=some 127) (v:=?_) (a':=?_) rfl rfl (take_ofW HT_.out HW_.out (by kernel_rfl)) hHeld (Or.inl ⟨by rfl,?_⟩) ?_ ?_
     rotate_left
     ·rintro w' ⟨s0,s1,s2,s3,s4,s5,s6,s7,s8,s9,s10,s11,s12,s13,s14⟩
      go_simp
      with_reducible rfl
     rotate_left
     ·simp only [Act.put,s0,s1,s2,i64_w,i32_w]
      rfl
     refine tq (i:=25) (N:=some 128) (v:=?_) (a':=?_) rfl rfl (take_ofW HT_.out HW_.out (by kernel_rfl)) hHeld (Or.inl ⟨by rfl,?_⟩) ?_ ?_
     rotate_left
     ·rintro w' ⟨s0,s1,s2,s3,s4,s5,s6,s7,s8,s9,s10,s11,s12,s13,s14⟩
      go_simp
      with_reducible rfl
     rotate_left
     ·simp only [Act.put,s0,s1,s2,i64_w,i32_w]
      rfl
     refine one_ (i:=26) (N:=some 129) #[true,true,true,true,true,true,true,true,true,true,true,true,true,true,true,true,true,true,true,true,true,true,true,true,true,true,true,false,false,false,false,false,false,false,false,false,false,false] rfl rfl (one_of HT_.out (by kernel_rfl)) (by decide) (fun K hK=>?_)
     refine goes_ Tryd.func21 (by kernel_rfl) rfl #[.agg #[.bool c1,.slice A5 c2.length g5,.slice A6 c3.length g6]] (by rfl) rfl rfl (by simp only [List.map_toArray,List.map_cons,List.map_nil];rfl) ?_
     with_reducible refine (rat_Neg.calls k c1 _ _ c2 _ _ c3 a1 a2 a3 _ (Cu HC.out.1.2) HC.out.1.1 (Cu HC.out.2.2) HC.out.2.1 HP.out.nN).mono ?_
     rintro e w9 ⟨v1,v2,rfl,h1,h2,hb⟩
     refine ⟨_,rfl,?_⟩
     obtain ⟨A10,g10,q1⟩:=Kd.R_slice h1
     obtain ⟨A11,g11,q2⟩:=Kd.R_slice h2
     subst q1;subst q2
     have HN:=Aside0.mk (And.intro (Kd.R_reads' h1).2 (Kd.R_reads' h2).2)
     clear h1 h2
     haveI kw9 : ∀ w0,[Up w0 w8]→Up w0 w9:=fun w0 h=>⟨below_step h.b hb⟩
     clear hb
     refine hK.out _ _ ⟨(cells3 (Bu BA)).1,(cells3 (Bu BA)).2.1,(cells3 (Bu BA)).2.2,(cells3 (Bu BB)).1,(cells3 (Bu BB)).2.1,(cells3 (Bu BB)).2.2,(cells3 (Bu BC)).1,(cells3 (Bu BC)).2.1,(cells3 (Bu BC)).2.2,(cells3 (Bu BD)).1,(cells3 (Bu BD)).2.1,(cells3 (Bu BD)).2.2,(cells3 (Bu BE)).1,(cells3 (Bu BE)).2.1,(cells3 (Bu BE)).2.2⟩ (fun hHeld=>?_)
     clear hK K
     refine norm_ (a':=?_) ?_ ?_
     rotate_left
     ·show Act.put _ (some 129) _=_
      simp only [Act.put,s0,s1,s2,i64_w,i32_w]
      rfl
     refine one_ (i:=27) (N:=some 130) #[true,true,true,true,true,true,true,true,true,true,true,true,true,true,true,true,true,true,true,true,true,true,true,true,true,true,true,true,false,false,false,false,false,false,false,false,false,false] rfl rfl (one_of HT_.out (by kernel_rfl)) (by decide) (fun K hK=>?_)
     refine goes_ Tryd.func11 (by kernel_rfl) rfl #[.agg #[.bool a1,.slice A1 a2.length g1,.slice A2 a3.length g2],.agg #[.bool a1,.slice A10 a2.length g10,.slice A11 a3.length g11]] (by rfl) rfl rfl (by simp only [List.map_toArray,List.map_cons,List.map_nil];rfl) ?_
     with_reducible refine (penumbraref03_Is.calls k a1 _ _ a2 _ _ a3 a1 _ _ a2 _ _ a3 true _ (Cu HA.out.1.2) HA.out.1.1 (Cu HA.out.2.2) HA.out.2.1 (Cu HN.out.1.2) HN.out.1.1 (Cu HN.out.2.2) HN.out.2.1 HP.out.iI).mono ?_
     rintro e w10 ⟨rfl,hb⟩
     refine ⟨_,rfl,?_⟩
     haveI kw10 : ∀ w0,[Up w0 w9]→Up w0 w10:=fun w0 h=>⟨below_step h.b hb⟩
     clear hb
     refine hK.out _ _ ⟨(cells3 (Bu BA)).1,(cells3 (Bu BA)).2.1,(cells3 (Bu BA)).2.2,(cells3 (Bu BB)).1,(cells3 (Bu BB)).2.1,(cells3 (Bu BB)).2.2,(cells3 (Bu BC)).1,(cells3 (Bu BC)).2.1,(cells3 (Bu BC)).2.2,(cells3 (Bu BD)).1,(cells3 (Bu BD)).2.1,(cells3 (Bu BD)).2.2,(cells3 (Bu BE)).1,(cells3 (Bu BE)).2.1,(cells3 (Bu BE)).2.2⟩ (fun hHeld=>?_)
     clear hK K
     refine norm_ (a':=?_) ?_ ?_
     rotate_left
     ·show Act.put _ (some 130) _=_
      simp only [Act.put,s0,s1,s2,i64_w,i32_w]
      rfl
     refine pq (i:=28) (N:=some 131) (v:=?_) (a':=?_) rfl rfl (any_of HT_.out (by kernel_rfl)) (Or.inl ⟨by rfl,?_⟩) ?_ ?_
     rotate_left
     ·intro w'
      go_simp
      with_reducible rfl
     rotate_left
     ·simp only [Act.put,s0,s1,s2,i64_w,i32_w]
      rfl
     refine pq (i:=29) (N:=some 132) (v:=?_) (a':=?_) rfl rfl (any_of HT_.out (by kernel_rfl)) (Or.inl ⟨by rfl,?_⟩) ?_ ?_
     rotate_left
     ·intro w'
      go_simp
      with_reducible rfl
     rotate_left
     ·simp only [Act.put,s0,s1,s2,i64_w,i32_w]
      rfl
     refine tq (i:=30) (N:=some 133) (v:=?_) (a':=?_) rfl rfl (take_ofW HT_.out HW_.out (by kernel_rfl)) hHeld (Or.inl ⟨by rfl,?_⟩) ?_ ?_
     rotate_left
     ·rintro w' ⟨s0,s1,s2,s3,s4,s5,s6,s7,s8,s9,s10,s11,s12,s13,s14⟩
      go_simp
      with_reducible rfl
     rotate_left
     ·simp only [Act.put,s0,s1,s2,i64_w,i32_w]
      rfl
     refine tq (i:=31) (N:=some 134) (v:=?_) (a':=?_) rfl rfl (take_ofW HT_.out HW_.out (by kernel_rfl)) hHeld (Or.inl ⟨by rfl,?_⟩) ?_ ?_
     rotate_left
     ·rintro w' ⟨s0,s1,s2,s3,s4,s5,s6,s7,s8,s9,s10,s11,s12,s13,s14⟩
      go_simp
      with_reducible rfl
     rotate_left
     ·simp only [Act.put,s0,s1,s2,i64_w,i32_w]
      rfl
     refine tq (i:=32) (N:=some 135) (v:=?_) (a':=?_) rfl rfl (take_ofW HT_.out HW_.out (by kernel_rfl)) hHeld (Or.inl ⟨by rfl,?_⟩) ?_ ?_
     rotate_left
     ·rintro w' ⟨s0,s1,s2,s3,s4,s5,s6,s7,s8,s9,s10,s11,s12,s13,s14⟩
      go_simp
      with_reducible rfl
     rotate_left
     ·simp only [Act.put,s0,s1,s2,i64_w,i32_w]
      rfl
     refine one_ (i:=33) (N:=some 136) #[true,true,true,true,true,true,true,true,true,true,true,true,true,true,true,true,true,true,true,true,true,true,true,true,true,true,true,true,true,true,true,true,true,true,false,false,false,false] rfl rfl (one_of HT_.out (by kernel_rfl)) (by decide) (fun K hK=>?_)
     refine value_ (w1:=?_) (v:=?_) (by rfl) rfl ?_ ?_
     rotate_left 2
     ·go_simp
      constructor
      ·rfl
      ·rfl
     refine hK.out _ _ ⟨(cells3 (Bu BA)).1,(cells3 (Bu BA)).2.1,(cells3 (Bu BA)).2.2,(cells3 (Bu BB)).1,(cells3 (Bu BB)).2.1,(cells3 (Bu BB)).2.2,(cells3 (Bu BC)).1,(cells3 (Bu BC)).2.1,(cells3 (Bu BC)).2.2,(cells3 (Bu BD)).1,(cells3 (Bu BD)).2.1,(cells3 (Bu BD)).2.2,(cells3 (Bu BE)).1,(cells3 (Bu BE)).2.1,(cells3 (Bu BE)).2.2⟩ (fun hHeld=>?_)
     clear hK K
     refine norm_ (a':=?_) ?_ ?_
     rotate_left
     ·show Act.put _ (some 136) _=_
      simp only [Act.put,s0,s1,s2,i64_w,i32_w]
      rfl
     refine one_ (i:=34) (N:=some 137) #[true,true,true,true,true,true,true,true,true,true,true,true,true,true,true,true,true,true,true,true,true,true,true,true,true,true,true,true,true,true,true,true,true,true,true,false,false,false] rfl rfl (one_of HT_.out (by kernel_rfl)) (by decide) (fun K hK=>?_)
     refine goes_ Tryd.func22 (by kernel_rfl) rfl #[.slice (some ⟨w10.heap.size,0,none⟩) 2 2] (by rfl) rfl rfl (by simp only [List.map_toArray,List.map_cons,List.map_nil];rfl) ?_
     with_reducible refine (show Calls Tryd.prog 22 #[.slice (some ⟨w10.heap.size,0,none⟩) 2 2] _ _ from rat_Sum.calls k _ 2 [(⟨d1,d2,d3⟩ : S25),⟨p1,p2,p3⟩] a1 a2 a3 _ (two25 (blk_new w10 (.cells #[.bool d1,.slice A7 d2.length g7,.slice A8 d3.length g8,.bool p1,.slice A9 p2.length g9,.slice B1 p3.length e1] 25)) (k25_mk _ ⟨d1,d2,d3⟩ HD.out.1.1 (Cu HD.out.1.2) HD.out.2.1 (Cu HD.out.2.2)) (k25_mk _ ⟨p1,p2,p3⟩ HE.out.1.1 (Cu HE.out.1.2) HE.out.2.1 (Cu HE.out.2.2))) (Nat.le_refl _) HP.out.sS).mono ?_
     rintro e w11 ⟨v1,v2,rfl,h1,h2,hb⟩
     refine ⟨_,rfl,?_⟩
     obtain ⟨A12,g12,q1⟩:=Kd.R_slice h1
     obtain ⟨A13,g13,q2⟩:=Kd.R_slice h2
     subst q1;subst q2
     have HS2:=Aside0.mk (And.intro (Kd.R_reads' h1).2 (Kd.R_reads' h2).2)
     clear h1 h2
     haveI kw11 : ∀ w0,[Up w0 (w10.alloc (.cells #[.bool d1,.slice A7 d2.length g7,.slice A8 d3.length g8,.bool p1,.slice A9 p2.length g9,.slice B1 p3.length e1] 25))]→Up w0 w11:=fun w0 h=>⟨below_step h.b hb⟩
     clear hb
     refine hK.out _ _ ⟨(cells3 (Bu BA)).1,(cells3 (Bu BA)).2.1,(cells3 (Bu BA)).2.2,(cells3 (Bu BB)).1,(cells3 (Bu BB)).2.1,(cells3 (Bu BB)).2.2,(cells3 (Bu BC)).1,(cells3 (Bu BC)).2.1,(cells3 (Bu BC)).2.2,(cells3 (Bu BD)).1,(cells3 (Bu BD)).2.1,(cells3 (Bu BD)).2.2,(cells3 (Bu BE)).1,(cells3 (Bu BE)).2.1,(cells3 (Bu BE)).2.2⟩ (fun hHeld=>?_)
     clear hK K
     refine norm_ (a':=?_) ?_ ?_
     rotate_left
     ·show Act.put _ (some 137) _=_
      simp only [Act.put,s0,s1,s2,i64_w,i32_w]
      rfl
     refine one_ (i:=35) (N:=some 138) #[true,true,true,true,true,true,true,true,true,true,true,true,true,true,true,true,true,true,true,true,true,true,true,true,true,true,true,true,true,true,true,true,true,true,true,true,false,false] rfl rfl (one_of HT_.out (by kernel_rfl)) (by decide) (fun K hK=>?_)
     refine goes_ Tryd.func11 (by kernel_rfl) rfl #[.agg #[.bool a1,.slice A1 a2.length g1,.slice A2 a3.length g2],.agg #[.bool a1,.slice A12 a2.length g12,.slice A13 a3.length g13]] (by rfl) rfl rfl (by simp only [List.map_toArray,List.map_cons,List.map_nil];rfl) ?_
     with_reducible refine (penumbraref03_Is.calls k a1 _ _ a2 _ _ a3 a1 _ _ a2 _ _ a3 true _ (Cu HA.out.1.2) HA.out.1.1 (Cu HA.out.2.2) HA.out.2.1 (Cu HS2.out.1.2) HS2.out.1.1 (Cu HS2.out.2.2) HS2.out.2.1 HP.out.iI).mono ?_
     rintro e w12 ⟨rfl,hb⟩
     refine ⟨_,rfl,?_⟩
     haveI kw12 : ∀ w0,[Up w0 w11]→Up w0 w12:=fun w0 h=>⟨below_step h.b hb⟩
     clear hb
     refine hK.out _ _ ⟨(cells3 (Bu BA)).1,(cells3 (Bu BA)).2.1,(cells3 (Bu BA)).2.2,(cells3 (Bu BB)).1,(cells3 (Bu BB)).2.1,(cells3 (Bu BB)).2.2,(cells3 (Bu BC)).1,(cells3 (Bu BC)).2.1,(cells3 (Bu BC)).2.2,(cells3 (Bu BD)).1,(cells3 (Bu BD)).2.1,(cells3 (Bu BD)).2.2,(cells3 (Bu BE)).1,(cells3 (Bu BE)).2.1,(cells3 (Bu BE)).2.2⟩ (fun hHeld=>?_)
     clear hK K
     refine norm_ (a':=?_) ?_ ?_
     rotate_left
     ·show Act.put _ (some 138) _=_
      simp only [Act.put,s0,s1,s2,i64_w,i32_w]
      rfl
     refine pq (i:=36) (N:=some 139) (v:=?_) (a':=?_) rfl rfl (any_of HT_.out (by kernel_rfl)) (Or.inl ⟨by rfl,?_⟩) ?_ ?_
     rotate_left
     ·intro w'
      go_simp
      with_reducible rfl
     rotate_left
     ·simp only [Act.put,s0,s1,s2,i64_w,i32_w]
      rfl
     refine one_ (i:=37) (N:=some 6) #[true,true,true,true,true,true,true,true,true,true,true,true,true,true,true,true,true,true,true,true,true,true,true,true,true,true,true,true,true,true,true,true,true,true,true,true,true,true] rfl rfl (one_of HT_.out (by kernel_rfl)) (by decide) (fun K hK=>?_)
     refine value_ (w1:=?_) (v:=?_) (by rfl) rfl ?_ ?_
     rotate_left 2
     ·go_simp
      constructor
      ·rfl
      ·rfl
     refine hK.out _ _ ⟨(cells3 (Bu BA)).1,(cells3 (Bu BA)).2.1,(cells3 (Bu BA)).2.2,(cells3 (Bu BB)).1,(cells3 (Bu BB)).2.1,(cells3 (Bu BB)).2.2,(cells3 (Bu BC)).1,(cells3 (Bu BC)).2.1,(cells3 (Bu BC)).2.2,(cells3 (Bu BD)).1,(cells3 (Bu BD)).2.1,(cells3 (Bu BD)).2.2,(cells3 (Bu BE)).1,(cells3 (Bu BE)).2.1,(cells3 (Bu BE)).2.2⟩ (fun hHeld=>?_)
     clear hK K
     refine norm_ (a':=?_) ?_ ?_
     rotate_left
     ·show Act.put _ (some 6) _=_
      simp only [Act.put,s0,s1,s2,i64_w,i32_w]
      rfl
     refine done_ (done_of HT_.out (by kernel_rfl)) ?_
     go_wp2
     go_ret
     exact ⟨rfl,Hu HB.out⟩
end Go.Proofs.YtncdiodnbkhacaaDoor.Pq
end
section
namespace Go.Proofs.YtncdiodnbkhacaaDoor.N
set_option linter.unusedVariables false
set_option linter.unusedSimpArgs false
open Go.RowKit Go.Proofs.YtncdiodnbkhacaaDoorW.PrintWords
def V : List Int→Int
|[]=>0
|x :: l=>x+4294967296 * V l
def W (l : List Int) : Prop:=∀ x∈l,0≤x∧x < 4294967296
def P (n : Nat) : Int:=4294967296 ^ n
theorem P_zero : P 0=1:=rfl
theorem P_succ (n : Nat) : P (n+1)=4294967296 * P n:=by unfold P;rw [Int.pow_succ,Int.mul_comm]
theorem P_pos (n : Nat) : 0 < P n:=by
 induction n with
|zero=>decide
|succ n ih=>rw [P_succ];omega
theorem P_add (m n : Nat) : P (m+n)=P m * P n:=by unfold P;rw [Int.pow_add]
theorem P_one_le (n : Nat) : 1≤P n:=by have:=P_pos n;omega
theorem P_le {m n : Nat} (h : m≤n) : P m≤P n:=by
 obtain ⟨d,rfl⟩:=Nat.exists_eq_add_of_le h
 rw [P_add]
 have h1:=P_pos m
 have h2:=P_one_le d
 have h3 : P m * 1≤P m * P d:=Int.mul_le_mul_of_nonneg_left h2 (by omega)
 omega
theorem P_lt {m n : Nat} (h : m < n) : P m < P n:=by
 have h1:=P_le (show m+1≤n from h)
 rw [P_succ] at h1
 have:=P_pos m
 omega
theorem W_nil : W []:=fun _ h=>by cases h
theorem W_cons {x : Int} {l : List Int} : W (x :: l)↔(0≤x∧x < 4294967296)∧W l:=by
 constructor
 ·exact fun h=>⟨h x (List.mem_cons_self ..),fun y hy=>h y (List.mem_cons_of_mem _ hy)⟩
 ·rintro ⟨h1,h2⟩ y hy
  rcases List.mem_cons.1 hy with rfl|hy
  ·exact h1
  ·exact h2 y hy
theorem W_append {l m : List Int} (h : W l) (k : W m) : W (l++m):=fun x hx=>by
 rcases List.mem_append.1 hx with hx|hx
 ·exact h x hx
 ·exact k x hx
theorem W_one {x : Int} (h0 : 0≤x) (h1 : x < 4294967296) : W [x]:=W_cons.2 ⟨⟨h0,h1⟩,W_nil⟩
theorem W_take {l : List Int} (h : W l) (n : Nat) : W (l.take n):=fun x hx=>h x (List.mem_of_mem_take hx)
theorem W_drop {l : List Int} (h : W l) (n : Nat) : W (l.drop n):=fun x hx=>h x (List.mem_of_mem_drop hx)
theorem W_set {l : List Int} (h : W l) (i : Nat) {x : Int} (h0 : 0≤x) (h1 : x < 4294967296) : W (l.set i x):=fun y hy=>by
 rcases List.mem_or_eq_of_mem_set hy with hy|rfl
 ·exact h y hy
 ·exact ⟨h0,h1⟩
theorem W_replicate (n : Nat) : W (List.replicate n 0):=fun x hx=>by
 have:=List.eq_of_mem_replicate hx
 omega
theorem W_rd {l : List Int} (h : W l) (i : Int) : 0≤rd l i∧rd l i < 4294967296:=by
 unfold rd
 by_cases hi : i.toNat < l.length
 ·have e : l.getD i.toNat 0=l[i.toNat]:=by simp [List.getD_eq_getElem?_getD,hi]
  rw [e]
  exact h _ (List.getElem_mem hi)
 ·have e : l.getD i.toNat 0=0:=by simp [List.getD_eq_getElem?_getD,List.getElem?_eq_none (Nat.le_of_not_lt hi)]
  omega
theorem V_nil : V []=0:=rfl
theorem V_cons (x : Int) (l : List Int) : V (x :: l)=x+4294967296 * V l:=rfl
theorem V_one (x : Int) : V [x]=x:=by simp [V]
theorem V_nonneg {l : List Int} (h : W l) : 0≤V l:=by
 induction l with
|nil=>exact Int.le_refl _
|cons x l ih =>
  obtain ⟨h1,h2⟩:=W_cons.1 h
  have:=ih h2
  rw [V_cons]
  omega
theorem V_lt {l : List Int} (h : W l) : V l < P l.length:=by
 induction l with
|nil=>decide
|cons x l ih =>
  obtain ⟨h1,h2⟩:=W_cons.1 h
  have:=ih h2
  rw [V_cons,List.length_cons,P_succ]
  omega
theorem V_append (l m : List Int) : V (l++m)=V l+P l.length * V m:=by
 induction l with
|nil=>simp [V,P]
|cons x l ih =>
  rw [List.cons_append,V_cons,V_cons,ih,List.length_cons,P_succ]
  grind
theorem V_snoc (l : List Int) (x : Int) : V (l++[x])=V l+P l.length * x:=by rw [V_append,V_one]
theorem V_replicate (n : Nat) : V (List.replicate n 0)=0:=by
 induction n with
|zero=>rfl
|succ n ih=>rw [List.replicate_succ,V_cons,ih];rfl
theorem take_succ_rd (l : List Int) (i : Nat) (h : i < l.length) : l.take (i+1)=l.take i++[rd l (i : Int)]:=by
 rw [List.take_succ_eq_append_getElem h]
 simp [rd,List.getD_eq_getElem?_getD,h]
theorem V_take_succ (l : List Int) (i : Nat) (h : i < l.length) : V (l.take (i+1))=V (l.take i)+P i * rd l (i : Int):=by
 rw [take_succ_rd l i h,V_snoc,List.length_take,Nat.min_eq_left (by omega)]
theorem rd_beyond (l : List Int) (i : Int) (h : l.length≤i.toNat) : rd l i=0:=by
 simp [rd,List.getD_eq_getElem?_getD,List.getElem?_eq_none h]
theorem V_take_succ' (l : List Int) (i : Nat) : V (l.take (i+1))=V (l.take i)+P i * rd l (i : Int):=by
 by_cases h : i < l.length
 ·exact V_take_succ l i h
 ·rw [rd_beyond l i (by simpa using h),List.take_of_length_le (by omega),List.take_of_length_le (by omega)]
  simp
theorem V_take_all (l : List Int) (n : Nat) (h : l.length≤n) : V (l.take n)=V l:=by rw [List.take_of_length_le h]
theorem V_split (l : List Int) (n : Nat) (h : n≤l.length) : V l=V (l.take n)+P n * V (l.drop n):=by
 have h1:=V_append (l.take n) (l.drop n)
 rw [List.take_append_drop,List.length_take,Nat.min_eq_left h] at h1
 exact h1
theorem V_split' (l : List Int) (n : Nat) : V l=V (l.take n)+P n * V (l.drop n):=by
 by_cases h : n≤l.length
 ·exact V_split l n h
 ·rw [List.take_of_length_le (by omega),List.drop_of_length_le (by omega),V_nil]
  simp
theorem V_set (l : List Int) (i : Nat) (x : Int) (h : i < l.length) : V (l.set i x)=V l+P i * (x - rd l (i : Int)):=by
 induction l generalizing i with
|nil=>cases h
|cons y l ih =>
  cases i with
 |zero=>simp [V,rd,P];omega
 |succ i =>
   rw [List.set_cons_succ,V_cons,V_cons,ih i (by simpa using h),P_succ]
   have e : rd (y :: l) ((i+1 : Nat) : Int)=rd l (i : Int):=by simp only [rd,Int.toNat_natCast,List.getD_cons_succ]
   rw [e]
   grind
theorem rd_set_eq (l : List Int) (i : Nat) (x : Int) (h : i < l.length) : rd (l.set i x) (i : Int)=x:=by
 simp [rd,List.getD_eq_getElem?_getD,h]
theorem rd_set_ne (l : List Int) (i : Nat) (x : Int) (j : Int) (h : j.toNat≠i) : rd (l.set i x) j=rd l j:=by
 simp only [rd,List.getD_eq_getElem?_getD]
 rw [List.getElem?_set_ne (by omega)]
theorem rd_replicate (n : Nat) (i : Int) : rd (List.replicate n 0) i=0:=by
 simp only [rd,List.getD_eq_getElem?_getD,List.getElem?_replicate]
 split <;> rfl
def L (n : Int) : List Int:=if h : 0 < n then n % 4294967296 :: L (n / 4294967296) else []
termination_by n.toNat
decreasing_by omega
theorem L_zero : L 0=[]:=by unfold L;rfl
theorem L_pos {n : Int} (h : 0 < n) : L n=n % 4294967296 :: L (n / 4294967296):=by
 conv=>lhs;unfold L
 rw [dif_pos h]
theorem L_neg {n : Int} (h : n≤0) : L n=[]:=by
 unfold L
 rw [dif_neg (by omega)]
theorem V_L : ∀ {n : Int},0≤n→V (L n)=n:=by
 have H : ∀ (k : Nat) (n : Int),n.toNat≤k→0≤n→V (L n)=n:=by
  intro k
  induction k with
 |zero=>intro n h h0;rw [show n=0 by omega,L_zero];rfl
 |succ k ih =>
   intro n h h0
   rcases Int.lt_or_eq_of_le h0 with hp|rfl
   ·rw [L_pos hp,V_cons,ih (n / 4294967296) (by omega) (by omega)]
    omega
   ·rw [L_zero];rfl
 exact fun {n} h=>H n.toNat n (Nat.le_refl _) h
theorem W_L : ∀ (n : Int),W (L n):=by
 have H : ∀ (k : Nat) (n : Int),n.toNat≤k→W (L n):=by
  intro k
  induction k with
 |zero=>intro n h;rw [L_neg (by omega)];exact W_nil
 |succ k ih =>
   intro n h
   by_cases hp : 0 < n
   ·rw [L_pos hp]
    exact W_cons.2 ⟨by omega,ih _ (by omega)⟩
   ·rw [L_neg (by omega)];exact W_nil
 exact fun n=>H n.toNat n (Nat.le_refl _)
theorem L_length_le : ∀ (m : Nat) {n : Int},n < P m→(L n).length≤m:=by
 intro m
 induction m with
|zero =>
  intro n h
  rw [P_zero] at h
  rw [L_neg (by omega)]
  exact Nat.le_refl _
|succ m ih =>
  intro n h
  rw [P_succ] at h
  by_cases hp : 0 < n
  ·rw [L_pos hp,List.length_cons]
   have:=ih (n:=n / 4294967296) (by omega)
   omega
  ·rw [L_neg (by omega)]
   exact Nat.zero_le _
theorem L_length_lt {m : Nat} {n : Int} (h : P m≤n) : m < (L n).length:=by
 rcases Nat.lt_or_ge m (L n).length with hlt|hge
 ·exact hlt
 ·have h0 : 0≤n:=by have:=P_pos m;omega
  have h1:=V_lt (W_L n)
  rw [V_L h0] at h1
  have:=P_le hge
  omega
theorem L_nil_iff {n : Int} (h : 0≤n) : L n=[]↔n=0:=by
 constructor
 ·intro e
  have:=V_L h
  rw [e] at this
  exact this.symm
 ·rintro rfl
  exact L_zero
theorem L_inj {m n : Int} (hm : 0≤m) (hn : 0≤n) (h : L m=L n) : m=n:=by rw [← V_L hm,← V_L hn,h]
theorem L_V : ∀ {l : List Int},W l→(∀ h : l≠[],l.getLast h≠0)→L (V l)=l:=by
 intro l
 induction l with
|nil=>intro _ _;exact L_zero
|cons x l ih =>
  intro hw hl
  obtain ⟨h1,h2⟩:=W_cons.1 hw
  have hv:=V_nonneg h2
  have hih : L (V l)=l:=ih h2 (fun hne=>by
   have:=hl (by simp)
   rwa [List.getLast_cons hne] at this)
  have hp : 0 < V (x :: l):=by
   rw [V_cons]
   by_cases hne : l=[]
   ·subst hne
    have:=hl (by simp)
    simp at this
    simp [V]
    omega
   ·have : V l≠0:=fun e=>hne (by rw [← hih,e,L_zero])
    omega
  rw [L_pos hp,V_cons,show (x+4294967296 * V l) % 4294967296=x by omega,show (x+4294967296 * V l) / 4294967296=V l by omega,hih]
theorem L_last {n : Int} : ∀ h : L n≠[],(L n).getLast h≠0:=by
 have H : ∀ (k : Nat) (n : Int),n.toNat≤k → ∀ h : L n≠[],(L n).getLast h≠0:=by
  intro k
  induction k with
 |zero=>intro n h hne;exact absurd (L_neg (by omega)) hne
 |succ k ih =>
   intro n h hne
   by_cases hp : 0 < n
   ·have e:=L_pos hp
    by_cases hz : L (n / 4294967296)=[]
    ·have hz0:=(L_nil_iff (show 0≤n / 4294967296 by omega)).1 hz
     have : (L n).getLast hne=n % 4294967296:=by
      simp only [e,hz,List.getLast_singleton]
     rw [this]
     omega
    ·have:=ih (n / 4294967296) (by omega) hz
     have e2 : (L n).getLast hne=(L (n / 4294967296)).getLast hz:=by
      simp only [e,List.getLast_cons hz]
     rw [e2]
     exact this
   ·exact absurd (L_neg (by omega)) hne
 exact H n.toNat n (Nat.le_refl _)
theorem V_take_lt {a : List Int} (h : W a) (i : Nat) : V (a.take i) < P i:=by
 have h1:=V_lt (W_take h i)
 have h2 : (a.take i).length≤i:=List.length_take_le _ _
 have:=P_le h2
 omega
theorem P_mul_lt {i : Nat} {x y p q : Int} (hp0 : 0≤p) (hp : p < P i) (hq0 : 0≤q) (h : x < y) : p+P i * x < q+P i * y:=by
 have h1 : P i * (x+1)≤P i * y:=Int.mul_le_mul_of_nonneg_left (by omega) (by have:=P_pos i;omega)
 rw [Int.mul_add] at h1
 omega
theorem wrap64_of {x : Int} (h0 : -9223372036854775808≤x) (h1 : x≤9223372036854775807) : wrap64 x=x:=by unfold wrap64;omega
theorem wrap_u64_of {x : Int} (h0 : 0≤x) (h1 : x < 18446744073709551616) : IntKind.u64.wrap x=x:=by
 simp only [IntKind.wrap,IntKind.bits,IntKind.signed]
 simp
 omega
theorem wf_of {l : List Int} (h : ∀ x∈l,(Lit.int .u32 x).wf=true) : W l:=fun x hx=>by
 have h1:=h x hx
 simp [Lit.wf] at h1
 have e1 : IntKind.u32.min=0:=rfl
 have e2 : IntKind.u32.max=4294967295:=rfl
 omega
attribute [irreducible] P V
end Go.Proofs.YtncdiodnbkhacaaDoor.N
end
section
namespace Go.Proofs.YtncdiodnbkhacaaDoor.N
set_option linter.unusedVariables false
set_option linter.unusedSimpArgs false
open Go.RowKit Go.Proofs.YtncdiodnbkhacaaDoorW.PrintWords Go.Proofs.YtncdiodnbkhacaaDoorW.PrintLast Go.Proofs.YtncdiodnbkhacaaDoor.Pq
theorem Ev_pos {α : Type} {c : Prop} [Decidable c] {f g : Nat→Option α} {r : α} (hc : c) (h : Ev f r) : Ev (fun k=>if c then f k else g k) r:=Ev.congr (fun k=>if_pos hc) h
theorem Ev_neg {α : Type} {c : Prop} [Decidable c] {f g : Nat→Option α} {r : α} (hc : ¬ c) (h : Ev g r) : Ev (fun k=>if c then f k else g k) r:=Ev.congr (fun k=>if_neg hc) h
theorem Ev_some {α β : Type} {o : Option α} {f : Nat→α→Option β} {a : α} {r : β} (h : o=some a) (k : Ev (fun n=>f n a) r) : Ev (fun n=>o.bind (f n)) r:=by
 subst h
 exact k
theorem Ev_now {α : Type} {o : Option α} {r : α} (h : o=some r) : Ev (fun _=>o) r:=⟨0,fun _ _=>h⟩
theorem Ev_eq {α : Type} {f : Nat→Option α} {r s : α} (h : Ev f r) (e : r=s) : Ev f s:=e ▸ h
theorem Ev_up {α : Type} {f : Nat→Option α} {r : α} (h : Ev (fun k=>f (k+1)) r) : Ev f r:=Ev.step (fun k=>rfl) h
theorem n_take {l : List Int} (hw : W l) : ∀ m,m≤l.length→l.take (nat_trim.n l m)=L (V (l.take m))
|0,_=>by
  show l.take 0=_
  rw [List.take_zero,V_nil,L_zero]
|m+1,h=>by
  have hv:=V_take_succ l m (by omega)
  show l.take (if l.getD m 0=0 then nat_trim.n l m else m+1)=_
  have hrd : rd l (m : Int)=l.getD m 0:=rfl
  by_cases hz : l.getD m 0=0
  ·rw [if_pos hz,n_take hw m (by omega),hv,hrd,hz]
   simp
  ·rw [if_neg hz]
   refine (L_V (W_take hw _) (fun hne=>?_)).symm
   have e:=take_succ_rd l m (by omega)
   have : (l.take (m+1)).getLast hne=rd l (m : Int):=by
    simp only [e,List.getLast_append,List.getLast_singleton]
    simp
   rw [this,hrd]
   exact hz
theorem trim_f {l : List Int} (hw : W l) : nat_trim.f l=some (L (V l)):=by
 unfold nat_trim.f
 rw [n_take hw l.length (Nat.le_refl _),List.take_length]
theorem L_len_le {l : List Int} (hw : W l) : (L (V l)).length≤l.length:=L_length_le _ (V_lt hw)
abbrev Sm (l : List Int) : Prop:=l.length < 35184372087809
theorem Sm_L {l : List Int} (hw : W l) (h : Sm l) : Sm (L (V l)):=Nat.lt_of_le_of_lt (L_len_le hw) h
theorem clone_f {l : List Int} (h : l.length < 35184372088832) : slices_Clone_uint32_uint32.f l=some l:=if_pos h
theorem norm_f {l : List Int} (hw : W l) (h : Sm l) : nat_Norm.f l=some (L (V l)):=by
 have hl:=Sm_L hw h
 unfold nat_Norm.f
 rw [trim_f hw,Option.bind_some,clone_f (by unfold Sm at hl;omega),Option.bind_some]
theorem same_l (a : List Int) (h : a.length < 4611686018427387904) : ∀ (d m : Nat),a.length - m=d→m≤a.length→Ev (fun k=>penumbraref01_Same.l0 k a a (m : Int)) true
|0,m,hd,hm=>by
  refine Ev.step (fun k=>rfl) ?_
  refine Ev_neg (by omega) ?_
  exact Ev.now _
|d+1,m,hd,hm=>by
  have w1 : wrap64 ((m : Int)+1)=((m+1 : Nat) : Int):=by unfold wrap64;omega
  refine Ev.step (fun k=>rfl) ?_
  refine Ev_pos (by omega) ?_
  refine Ev_pos (by omega) ?_
  refine Ev_pos (by omega) ?_
  refine Ev_pos rfl ?_
  rw [w1]
  exact same_l a h d (m+1) (by omega) (by omega)
theorem same_f {a : List Int} (h : a.length < 4611686018427387904) : Ev (fun k=>penumbraref01_Same.f k a a) true:=by
 refine Ev_pos rfl ?_
 exact same_l a h a.length 0 (by omega) (by omega)
theorem add32_f {a b c : Int} (ha : 0≤a∧a < 4294967296) (hb : 0≤b∧b < 4294967296) (hc : 0≤c∧c≤1) : bits_Add32.f a b c=some ((a+b+c) % 4294967296,(a+b+c) / 4294967296):=by
 unfold bits_Add32.f
 rw [wrap_u64_of ha.1 (by omega),wrap_u64_of hb.1 (by omega),wrap_u64_of hc.1 (by omega),wrap_u64_of (x:=a+b) (by omega) (by omega),wrap_u64_of (x:=a+b+c) (by omega) (by omega)]
 rw [show ((a+b+c) / 4294967296) % 4294967296=(a+b+c) / 4294967296 by omega]
theorem sub32_f {a b c : Int} (ha : 0≤a∧a < 4294967296) (hb : 0≤b∧b < 4294967296) (hc : 0≤c∧c≤1) : bits_Sub32.f a b c=some ((a - b - c) % 4294967296,bits_Sub32.b a b c):=by
 unfold bits_Sub32.f
 rw [if_pos ⟨ha,hb,hc⟩]
theorem sub32_b (a b c : Int) : (a < b+c→bits_Sub32.b a b c=1)∧(b+c≤a→bits_Sub32.b a b c=0):=by
 unfold bits_Sub32.b
 constructor
 ·intro h;rw [if_pos h]
 ·intro h;rw [if_neg (by omega)]
def cm (x y : Int) : Int:=if x < y then -1 else if y < x then 1 else 0
theorem cmp_step (a b : List Int) (i : Nat) (ha : W a) (hb : W b) : cm (V (a.take (i+1))) (V (b.take (i+1)))=if rd a (i : Int) < rd b (i : Int) then -1 else if rd a (i : Int) > rd b (i : Int) then 1 else cm (V (a.take i)) (V (b.take i)):=by
 rw [V_take_succ',V_take_succ']
 have a1:=V_nonneg (W_take ha i)
 have a2:=V_take_lt ha i
 have b1:=V_nonneg (W_take hb i)
 have b2:=V_take_lt hb i
 rcases Int.lt_trichotomy (rd a (i : Int)) (rd b (i : Int)) with h|h|h
 ·rw [if_pos h]
  unfold cm
  rw [if_pos (P_mul_lt a1 a2 b1 h)]
 ·rw [if_neg (by omega),if_neg (by omega),h]
  unfold cm
  generalize P i * rd b (i : Int)=z
  by_cases h1 : V (a.take i) < V (b.take i)
  ·rw [if_pos h1,if_pos (by omega)]
  ·rw [if_neg h1,if_neg (by omega)]
   by_cases h2 : V (b.take i) < V (a.take i)
   ·rw [if_pos h2,if_pos (by omega)]
   ·rw [if_neg h2,if_neg (by omega)]
 ·have:=P_mul_lt b1 b2 a1 h
  rw [if_neg (by omega),if_pos h]
  unfold cm
  rw [if_neg (by omega),if_pos this]
theorem ncmp_l {a b : List Int} (ha : W a) (hb : W b) (hl : a.length=b.length) (hs : a.length < 35184372087809) : ∀ (m : Nat),m≤a.length→Ev (fun k=>nat_Cmp.l0 k a b ((m : Int) - 1)) (cm (V (a.take m)) (V (b.take m)))
|0,_=>by
  refine Ev.step (fun k=>rfl) ?_
  refine Ev_neg (by omega) ?_
  exact Ev_now (by simp [cm])
|m+1,h=>by
  have e : ((m+1 : Nat) : Int) - 1=(m : Int):=by omega
  have w1 : wrap64 ((m : Int) - 1)=(m : Int) - 1:=by unfold wrap64;omega
  rw [e,cmp_step a b m ha hb]
  refine Ev.step (fun k=>rfl) ?_
  refine Ev_pos (by omega) ?_
  refine Ev_pos (by omega) ?_
  refine Ev_pos (by omega) ?_
  refine Ev_pos (by omega) ?_
  by_cases h1 : rd a (m : Int) < rd b (m : Int)
  ·rw [if_pos h1]
   refine Ev_pos h1 ?_
   exact Ev.now _
  ·rw [if_neg h1]
   refine Ev_neg h1 ?_
   by_cases h2 : rd a (m : Int) > rd b (m : Int)
   ·rw [if_pos h2]
    refine Ev_pos h2 ?_
    exact Ev.now _
   ·rw [if_neg h2,w1]
    refine Ev_neg h2 ?_
    exact ncmp_l ha hb hl hs m (by omega)
theorem ncmp_f {a b : List Int} (ha : W a) (hb : W b) (sa : Sm a) (sb : Sm b) : Ev (fun k=>nat_Cmp.f k a b) (cm (V a) (V b)):=by
 have hla:=Sm_L ha sa
 have hlb:=Sm_L hb sb
 unfold Sm at hla hlb
 have va:=V_nonneg ha
 have vb:=V_nonneg hb
 have A:=V_lt (W_L (V a))
 have Bv:=V_lt (W_L (V b))
 rw [V_L va] at A
 rw [V_L vb] at Bv
 refine Ev_some (trim_f ha) ?_
 refine Ev_some (trim_f hb) ?_
 rcases Nat.lt_trichotomy (L (V a)).length (L (V b)).length with h|h|h
 ·refine Ev_neg (by omega) ?_
  refine Ev_pos (by omega) ?_
  refine Ev_now ?_
  have : V a < V b:=by
   by_cases h1 : V a < V b
   ·exact h1
   ·have:=L_length_le (L (V a)).length (n:=V b) (by omega)
    omega
  unfold cm
  rw [if_pos this]
 ·refine Ev_pos (by omega) ?_
  have w1 : wrap64 (((L (V a)).length : Int) - 1)=((L (V a)).length : Int) - 1:=by unfold wrap64;omega
  rw [w1]
  refine Ev_eq (ncmp_l (W_L _) (W_L _) h hla _ (Nat.le_refl _)) ?_
  rw [List.take_length,h,List.take_length,V_L va,V_L vb]
 ·refine Ev_neg (by omega) ?_
  refine Ev_neg (by omega) ?_
  refine Ev_now ?_
  have : V b < V a:=by
   by_cases h1 : V b < V a
   ·exact h1
   ·have:=L_length_le (L (V b)).length (n:=V a) (by omega)
    omega
  unfold cm
  rw [if_neg (by omega),if_pos this]
theorem nadd_l0 {a b : List Int} (ha : W a) (hb : W b) (hl : b.length≤a.length) (sa : Sm a) : ∀ (d i : Nat) (p : List Int) (c : Int),a.length - i=d→i≤a.length→W p→p.length=i→0≤c∧c≤1 →
  V p+P i * c=V (a.take i)+V (b.take i)→Ev (fun k=>nat_Add.l0 k b p c a (a.length : Int) (i : Int)) (L (V a+V b)):=by
 intro d
 induction d with
|zero =>
  intro i p c hd hi hp hpl hc hv
  have sa' : a.length < 35184372087809:=sa
  obtain rfl : i=a.length:=by omega
  refine Ev.step (fun k=>rfl) ?_
  refine Ev_neg (by omega) ?_
  refine Ev_pos (by omega) ?_
  refine Ev_some (trim_f (W_append hp (W_one hc.1 (by omega)))) ?_
  refine Ev_now ?_
  rw [V_snoc,hpl,hv,List.take_length,V_take_all b _ hl]
|succ d ih =>
  intro i p c hd hi hp hpl hc hv
  have HV:=Aside0.mk hv
  clear hv
  have sa' : a.length < 35184372087809:=sa
  have w1 : wrap64 ((i : Int)+1)=((i+1 : Nat) : Int):=by unfold wrap64;omega
  have ra:=W_rd ha (i : Int)
  have rb:=W_rd hb (i : Int)
  have key : Aside0 (V (p++[(rd a (i : Int)+rd b (i : Int)+c) % 4294967296])+P (i+1) * ((rd a (i : Int)+rd b (i : Int)+c) / 4294967296)=V (a.take (i+1))+V (b.take (i+1))):=⟨by
   have hv:=HV.out
   rw [V_snoc,hpl,V_take_succ' a i,V_take_succ' b i,P_succ]
   have:=Int.emod_add_mul_ediv (rd a (i : Int)+rd b (i : Int)+c) 4294967296
   grind⟩
  have hrec:=ih (i+1) (p++[(rd a (i : Int)+rd b (i : Int)+c) % 4294967296]) ((rd a (i : Int)+rd b (i : Int)+c) / 4294967296) (by omega) (by omega) (W_append hp (W_one (by omega) (by omega))) (by simp [hpl]) (by omega) key.out
  refine Ev.step (fun k=>rfl) ?_
  refine Ev_pos (by omega) ?_
  refine Ev_pos (by omega) ?_
  refine Ev_pos (by omega) ?_
  by_cases hib : (i : Int) < (b.length : Int)
  ·refine Ev_pos hib ?_
   refine Ev_some (add32_f ra rb hc) ?_
   refine Ev_pos (by omega) ?_
   rw [w1]
   exact hrec
  ·have hz : rd b (i : Int)=0:=rd_beyond b _ (by omega)
   rw [hz] at hrec rb
   refine Ev_neg hib ?_
   refine Ev_some (add32_f ra rb hc) ?_
   refine Ev_pos (by omega) ?_
   rw [w1]
   exact hrec
theorem nadd_l100 {a b : List Int} (ha : W a) (hb : W b) (hl : b.length≤a.length) (sa : Sm a) : ∀ (d i : Nat) (p : List Int) (c : Int),a.length - i=d→i≤a.length→W p→p.length=i→0≤c∧c≤1 →
  V p+P i * c=V (a.take i)+V (b.take i)→Ev (fun k=>nat_Add.l100 k b p c a (a.length : Int) (i : Int)) (L (V a+V b)):=by
 intro d
 induction d with
|zero =>
  intro i p c hd hi hp hpl hc hv
  have sa' : a.length < 35184372087809:=sa
  obtain rfl : i=a.length:=by omega
  refine Ev.step (fun k=>rfl) ?_
  refine Ev_neg (by omega) ?_
  refine Ev_pos (by omega) ?_
  refine Ev_some (trim_f (W_append hp (W_one hc.1 (by omega)))) ?_
  refine Ev_now ?_
  rw [V_snoc,hpl,hv,List.take_length,V_take_all b _ hl]
|succ d ih =>
  intro i p c hd hi hp hpl hc hv
  have HV:=Aside0.mk hv
  clear hv
  have sa' : a.length < 35184372087809:=sa
  have w1 : wrap64 ((i : Int)+1)=((i+1 : Nat) : Int):=by unfold wrap64;omega
  have ra:=W_rd ha (i : Int)
  have rb:=W_rd hb (i : Int)
  have key : Aside0 (V (p++[(rd a (i : Int)+rd b (i : Int)+c) % 4294967296])+P (i+1) * ((rd a (i : Int)+rd b (i : Int)+c) / 4294967296)=V (a.take (i+1))+V (b.take (i+1))):=⟨by
   have hv:=HV.out
   rw [V_snoc,hpl,V_take_succ' a i,V_take_succ' b i,P_succ]
   have:=Int.emod_add_mul_ediv (rd a (i : Int)+rd b (i : Int)+c) 4294967296
   grind⟩
  have hrec:=ih (i+1) (p++[(rd a (i : Int)+rd b (i : Int)+c) % 4294967296]) ((rd a (i : Int)+rd b (i : Int)+c) / 4294967296) (by omega) (by omega) (W_append hp (W_one (by omega) (by omega))) (by simp [hpl]) (by omega) key.out
  refine Ev.step (fun k=>rfl) ?_
  refine Ev_pos (by omega) ?_
  refine Ev_pos (by omega) ?_
  refine Ev_pos (by omega) ?_
  by_cases hib : (i : Int) < (b.length : Int)
  ·refine Ev_pos hib ?_
   refine Ev_some (add32_f ra rb hc) ?_
   refine Ev_pos (by omega) ?_
   rw [w1]
   exact hrec
  ·have hz : rd b (i : Int)=0:=rd_beyond b _ (by omega)
   rw [hz] at hrec rb
   refine Ev_neg hib ?_
   refine Ev_some (add32_f ra rb hc) ?_
   refine Ev_pos (by omega) ?_
   rw [w1]
   exact hrec
theorem nadd_f {a b : List Int} (ha : W a) (hb : W b) (sa : Sm a) (sb : Sm b) : Ev (fun k=>nat_Add.f k a b) (L (V a+V b)):=by
 have hla:=Sm_L ha sa
 have hlb:=Sm_L hb sb
 have va:=V_nonneg ha
 have vb:=V_nonneg hb
 have hla':=hla
 have hlb':=hlb
 unfold Sm at hla' hlb'
 refine Ev_some (trim_f ha) ?_
 refine Ev_some (trim_f hb) ?_
 by_cases h : ((L (V a)).length : Int) < ((L (V b)).length : Int)
 ·have w1 : wrap64 (((L (V b)).length : Int)+1)=((L (V b)).length : Int)+1:=by unfold wrap64;omega
  refine Ev_pos h ?_
  rw [w1]
  refine Ev_pos (by omega) ?_
  refine Ev_pos (by omega) ?_
  refine Ev_eq (nadd_l0 (W_L _) (W_L _) (by omega) hlb _ 0 [] 0 rfl (Nat.zero_le _) W_nil rfl (by omega) (by simp [V])) ?_
  rw [V_L va,V_L vb,Int.add_comm]
 ·have w1 : wrap64 (((L (V a)).length : Int)+1)=((L (V a)).length : Int)+1:=by unfold wrap64;omega
  refine Ev_neg h ?_
  rw [w1]
  refine Ev_pos (by omega) ?_
  refine Ev_pos (by omega) ?_
  refine Ev_eq (nadd_l100 (W_L _) (W_L _) (by omega) hla _ 0 [] 0 rfl (Nat.zero_le _) W_nil rfl (by omega) (by simp [V])) ?_
  rw [V_L va,V_L vb]
theorem nsub_l {a b : List Int} (ha : W a) (hb : W b) (hl : b.length≤a.length) (sa : Sm a) (hle : V b≤V a) : ∀ (d i : Nat) (p : List Int) (c : Int),a.length - i=d→i≤a.length→W p→p.length=i→0≤c∧c≤1 →
  V p - P i * c=V (a.take i) - V (b.take i)→Ev (fun k=>nat_Sub.l0 k b p c a (a.length : Int) (i : Int)) (L (V a - V b),true):=by
 intro d
 induction d with
|zero =>
  intro i p c hd hi hp hpl hc hv
  have sa' : a.length < 35184372087809:=sa
  obtain rfl : i=a.length:=by omega
  refine Ev.step (fun k=>rfl) ?_
  refine Ev_neg (by omega) ?_
  refine Ev_some (trim_f hp) ?_
  refine Ev_now ?_
  rw [List.take_length,V_take_all b _ hl] at hv
  have h1:=V_lt hp
  rw [hpl] at h1
  have h2:=P_pos a.length
  have hc0 : c=0:=by
   rcases (show c=0∨c=1 by omega) with h|h
   ·exact h
   ·rw [h] at hv;omega
  rw [hc0] at hv
  rw [show V p=V a - V b by simpa using hv]
|succ d ih =>
  intro i p c hd hi hp hpl hc hv
  have HV:=Aside0.mk hv
  clear hv
  have sa' : a.length < 35184372087809:=sa
  have w1 : wrap64 ((i : Int)+1)=((i+1 : Nat) : Int):=by unfold wrap64;omega
  have ra:=W_rd ha (i : Int)
  have rb:=W_rd hb (i : Int)
  have hbb:=sub32_b (rd a (i : Int)) (rd b (i : Int)) c
  have hb01 : bits_Sub32.b (rd a (i : Int)) (rd b (i : Int)) c=0∨bits_Sub32.b (rd a (i : Int)) (rd b (i : Int)) c=1:=by
   rcases Int.lt_or_le (rd a (i : Int)) (rd b (i : Int)+c) with h|h
   ·exact .inr (hbb.1 h)
   ·exact .inl (hbb.2 h)
  have hlim : (rd a (i : Int) - rd b (i : Int) - c) % 4294967296 - 4294967296 * bits_Sub32.b (rd a (i : Int)) (rd b (i : Int)) c=rd a (i : Int) - rd b (i : Int) - c:=by
   rcases Int.lt_or_le (rd a (i : Int)) (rd b (i : Int)+c) with h|h
   ·rw [hbb.1 h];omega
   ·rw [hbb.2 h];omega
  have key : Aside0 (V (p++[(rd a (i : Int) - rd b (i : Int) - c) % 4294967296]) - P (i+1) * (bits_Sub32.b (rd a (i : Int)) (rd b (i : Int)) c)=V (a.take (i+1)) - V (b.take (i+1))):=⟨by
   have hv:=HV.out
   rw [V_snoc,hpl,V_take_succ' a i,V_take_succ' b i,P_succ]
   grind⟩
  have hrec:=ih (i+1) (p++[(rd a (i : Int) - rd b (i : Int) - c) % 4294967296]) (bits_Sub32.b (rd a (i : Int)) (rd b (i : Int)) c) (by omega) (by omega) (W_append hp (W_one (by omega) (by omega))) (by simp [hpl]) (by omega) key.out
  refine Ev.step (fun k=>rfl) ?_
  refine Ev_pos (by omega) ?_
  refine Ev_pos (by omega) ?_
  refine Ev_pos (by omega) ?_
  by_cases hib : (i : Int) < (b.length : Int)
  ·refine Ev_pos hib ?_
   refine Ev_some (sub32_f ra rb hc) ?_
   refine Ev_pos (by omega) ?_
   rw [w1]
   exact hrec
  ·have hz : rd b (i : Int)=0:=rd_beyond b _ (by omega)
   rw [hz] at hrec rb
   refine Ev_neg hib ?_
   refine Ev_some (sub32_f ra rb hc) ?_
   refine Ev_pos (by omega) ?_
   rw [w1]
   exact hrec
def subS (x y : Int) : List Int × Bool:=if x < y then ([],false) else (L (x - y),true)
theorem cm_neg {x y : Int} : cm x y < 0↔x < y:=by
 unfold cm
 split
 ·simp [*]
 ·split <;> simp [*]
theorem nsub_f {a b : List Int} (ha : W a) (hb : W b) (sa : Sm a) (sb : Sm b) : Ev (fun k=>nat_Sub.f k a b) (subS (V a) (V b)):=by
 have hla:=Sm_L ha sa
 have hlb:=Sm_L hb sb
 have va:=V_nonneg ha
 have vb:=V_nonneg hb
 have hla':=hla
 have hlb':=hlb
 unfold Sm at hla' hlb'
 refine Ev.bind (ncmp_f ha hb sa sb) ?_
 unfold subS
 by_cases h : V a < V b
 ·rw [if_pos h]
  refine Ev_pos (cm_neg.2 h) ?_
  exact Ev.now _
 ·rw [if_neg h]
  refine Ev_neg (fun e=>h (cm_neg.1 e)) ?_
  refine Ev_some (trim_f ha) ?_
  refine Ev_some (trim_f hb) ?_
  refine Ev_pos (by omega) ?_
  refine Ev_pos (by omega) ?_
  have hle : (L (V b)).length≤(L (V a)).length:=by
   apply L_length_le
   have h1:=V_lt (W_L (V a))
   rw [V_L va] at h1
   omega
  refine Ev_eq (nsub_l (W_L _) (W_L _) hle hla (by rw [V_L va,V_L vb];omega) _ 0 [] 0 rfl (Nat.zero_le _) W_nil rfl (by omega) (by simp [V])) ?_
  rw [V_L va,V_L vb]
theorem two_limbs {n : Int} (h0 : 0≤n) (h1 : n < 18446744073709551616) : W [n % 4294967296,(n / 4294967296) % 4294967296]∧V [n % 4294967296,(n / 4294967296) % 4294967296]=n :=
 ⟨W_cons.2 ⟨by omega,W_one (by omega) (by omega)⟩,by simp [V];omega⟩
theorem nof_f {n : Int} (h0 : 0≤n) (h1 : n < 18446744073709551616) : nat_Of.f n=some (L n):=by
 obtain ⟨hw,hv⟩:=two_limbs h0 h1
 unfold nat_Of.f
 rw [norm_f hw (by unfold Sm;simp),hv,Option.bind_some]
end Go.Proofs.YtncdiodnbkhacaaDoor.N
end
section
namespace Go.Proofs.YtncdiodnbkhacaaDoor.N
open Go.RowKit Go.Proofs.YtncdiodnbkhacaaDoorW.PrintWords Go.Proofs.YtncdiodnbkhacaaDoorW.PrintLast Go.Proofs.YtncdiodnbkhacaaDoor.Pq
set_option maxRecDepth 100000 in
theorem fixed4_at : penumbralaw04_fixed.f 200=some true:=by decide +kernel
theorem fixed4 : Ev (fun k=>penumbralaw04_fixed.f k) true:=Ev.of (fun k=>penumbralaw04_fixed.mono k) fixed4_at
end Go.Proofs.YtncdiodnbkhacaaDoor.N
end
section
namespace Go.Proofs.YtncdiodnbkhacaaDoor.N
set_option linter.unusedVariables false
set_option linter.unusedSimpArgs false
open Go.RowKit Go.Proofs.YtncdiodnbkhacaaDoorW.PrintWords Go.Proofs.YtncdiodnbkhacaaDoorW.PrintLast Go.Proofs.YtncdiodnbkhacaaDoor.Pq
def bl (n : Int) : Int:=if 0 < n then (Nat.log2 n.toNat : Int)+1 else 0
theorem bl_zero : bl 0=0:=by decide +kernel
theorem bl_nonneg (n : Int) : 0≤bl n:=by unfold bl;split <;> omega
theorem bl_pos {n : Int} (h : 0 < n) : 0 < bl n:=by unfold bl;rw [if_pos h];omega
theorem bl_half {x : Int} (h : 0 < x) : bl x=bl (x / 2)+1:=by
 unfold bl
 rw [if_pos h,Nat.log2_def]
 by_cases h2 : x.toNat ≥ 2
 ·rw [if_pos h2,if_pos (by omega),show (x / 2).toNat=x.toNat / 2 by omega]
  omega
 ·rw [if_neg h2,if_neg (by omega)]
  rfl
theorem bl_log {n : Int} (h : 0 < n) : (2 : Int) ^ (n.toNat.log2)≤n∧n < (2 : Int) ^ (n.toNat.log2+1):=by
 have hne : n.toNat≠0:=by omega
 have h1:=Nat.log2_self_le hne
 have h2:=(Nat.log2_lt (k:=n.toNat.log2+1) hne).1 (Nat.lt_succ_self _)
 have e : n=(n.toNat : Int):=by omega
 constructor
 ·rw [e];exact_mod_cast h1
 ·rw [e];exact_mod_cast h2
theorem bl_of {n : Int} {m : Nat} (h1 : (2 : Int) ^ m≤n) (h2 : n < (2 : Int) ^ (m+1)) : bl n=(m : Int)+1:=by
 have hp : (0 : Int) < 2 ^ m:=Int.pow_pos (by decide)
 have hn : 0 < n:=by omega
 obtain ⟨k,rfl⟩ : ∃ k : Nat,n=(k : Int):=⟨n.toNat,by omega⟩
 have g1 : 2 ^ m≤k:=by exact_mod_cast h1
 have g2 : k < 2 ^ (m+1):=by exact_mod_cast h2
 have hk : k≠0:=by omega
 have e1:=(Nat.le_log2 (k:=m) hk).2 g1
 have e2:=(Nat.log2_lt (k:=m+1) hk).2 g2
 unfold bl
 rw [if_pos hn,Int.toNat_natCast]
 omega
theorem bl_le {m n : Int} (h : m≤n) : bl m≤bl n:=by
 by_cases hm : 0 < m
 ·unfold bl
  rw [if_pos hm,if_pos (by omega)]
  have hn0 : n.toNat≠0:=by omega
  have h1:=Nat.log2_self_le (n:=m.toNat) (by omega)
  have:=(Nat.le_log2 (k:=m.toNat.log2) hn0).2 (by omega)
  omega
 ·have:=bl_nonneg n
  have e : bl m=0:=by unfold bl;rw [if_neg hm]
  omega
theorem P_pow (i : Nat) : P i=(2 : Int) ^ (32 * i):=by
 induction i with
|zero=>exact P_zero
|succ i ih=>rw [P_succ,ih,show 32 * (i+1)=32 * i+32 by omega,Int.pow_add];omega
theorem bl_V {l : List Int} (hw : W l) (i : Nat) (hi : l.length=i+1) (hp : 0 < rd l (i : Int)) : bl (V l)=32 * (i : Int)+bl (rd l (i : Int)):=by
 have h:=bl_log hp
 have hv:=V_take_succ' l i
 rw [List.take_of_length_le (by omega)] at hv
 have h0:=V_nonneg (W_take hw i)
 have h1:=V_take_lt hw i
 have hP:=P_pos i
 have k1 : P i * (2 : Int) ^ ((rd l (i : Int)).toNat.log2)≤P i * rd l (i : Int):=Int.mul_le_mul_of_nonneg_left h.1 (by omega)
 have k2 : P i * (rd l (i : Int)+1)≤P i * (2 : Int) ^ ((rd l (i : Int)).toNat.log2+1):=Int.mul_le_mul_of_nonneg_left (by omega) (by omega)
 rw [Int.mul_add] at k2
 have e1 : (2 : Int) ^ (32 * i+(rd l (i : Int)).toNat.log2)=P i * (2 : Int) ^ ((rd l (i : Int)).toNat.log2):=by rw [Int.pow_add,P_pow]
 have e2 : (2 : Int) ^ (32 * i+(rd l (i : Int)).toNat.log2+1)=P i * (2 : Int) ^ ((rd l (i : Int)).toNat.log2+1):=by rw [Nat.add_assoc,Int.pow_add,P_pow]
 rw [bl_of (m:=32 * i+(rd l (i : Int)).toNat.log2) (by rw [e1];omega) (by rw [e2];omega)]
 unfold bl
 rw [if_pos hp]
 omega
theorem rd_last {n : Int} (h : 0 < n) : ∃ i,(L n).length=i+1∧0 < rd (L n) (i : Int):=by
 have hne : L n≠[]:=fun e=>by
  have:=(L_nil_iff (by omega)).1 e
  omega
 have hl:=List.length_pos_iff.2 hne
 refine ⟨(L n).length - 1,by omega,?_⟩
 have h1:=L_last hne
 have h2:=W_rd (W_L n) (((L n).length - 1 : Nat) : Int)
 have e : rd (L n) (((L n).length - 1 : Nat) : Int)=(L n).getLast hne:=by
  rw [List.getLast_eq_getElem]
  simp only [rd,Int.toNat_natCast,List.getD_eq_getElem?_getD]
  rw [List.getElem?_eq_getElem (by omega),Option.getD_some]
 omega
attribute [irreducible] bl
theorem tab_bl' : ∀ y : Fin 256,bt (⟨#[0,1,2,2,3,3,3,3,4,4,4,4,4,4,4,4,5,5,5,5,5,5,5,5,5,5,5,5,5,5,5,5,6,6,6,6,6,6,6,6,6,6,6,6,6,6,6,6,6,6,6,6,6,6,6,6,6,6,6,6,6,6,6,6,7,7,7,7,7,7,7,7,7,7,7,7,7,7,7,7,7,7,7,7,7,7,7,7,7,7,7,7,7,7,7,7,7,7,7,7,7,7,7,7,7,7,7,7,7,7,7,7,7,7,7,7,7,7,7,7,7,7,7,7,7,7,7,7,8,8,8,8,8,8,8,8,8,8,8,8,8,8,8,8,8,8,8,8,8,8,8,8,8,8,8,8,8,8,8,8,8,8,8,8,8,8,8,8,8,8,8,8,8,8,8,8,8,8,8,8,8,8,8,8,8,8,8,8,8,8,8,8,8,8,8,8,8,8,8,8,8,8,8,8,8,8,8,8,8,8,8,8,8,8,8,8,8,8,8,8,8,8,8,8,8,8,8,8,8,8,8,8,8,8,8,8,8,8,8,8,8,8,8,8,8,8,8,8,8,8,8,8,8,8,8,8]⟩ : ByteArray) (y.val : Int)=bl (y.val : Int):=by decide +kernel
set_option maxRecDepth 20000 in
theorem tab_bl {y : Int} (h0 : 0≤y) (h1 : y < 256) : bt (⟨#[0,1,2,2,3,3,3,3,4,4,4,4,4,4,4,4,5,5,5,5,5,5,5,5,5,5,5,5,5,5,5,5,6,6,6,6,6,6,6,6,6,6,6,6,6,6,6,6,6,6,6,6,6,6,6,6,6,6,6,6,6,6,6,6,7,7,7,7,7,7,7,7,7,7,7,7,7,7,7,7,7,7,7,7,7,7,7,7,7,7,7,7,7,7,7,7,7,7,7,7,7,7,7,7,7,7,7,7,7,7,7,7,7,7,7,7,7,7,7,7,7,7,7,7,7,7,7,7,8,8,8,8,8,8,8,8,8,8,8,8,8,8,8,8,8,8,8,8,8,8,8,8,8,8,8,8,8,8,8,8,8,8,8,8,8,8,8,8,8,8,8,8,8,8,8,8,8,8,8,8,8,8,8,8,8,8,8,8,8,8,8,8,8,8,8,8,8,8,8,8,8,8,8,8,8,8,8,8,8,8,8,8,8,8,8,8,8,8,8,8,8,8,8,8,8,8,8,8,8,8,8,8,8,8,8,8,8,8,8,8,8,8,8,8,8,8,8,8,8,8,8,8,8,8,8,8]⟩ : ByteArray) y=bl y:=by
 have h : bt (⟨#[0,1,2,2,3,3,3,3,4,4,4,4,4,4,4,4,5,5,5,5,5,5,5,5,5,5,5,5,5,5,5,5,6,6,6,6,6,6,6,6,6,6,6,6,6,6,6,6,6,6,6,6,6,6,6,6,6,6,6,6,6,6,6,6,7,7,7,7,7,7,7,7,7,7,7,7,7,7,7,7,7,7,7,7,7,7,7,7,7,7,7,7,7,7,7,7,7,7,7,7,7,7,7,7,7,7,7,7,7,7,7,7,7,7,7,7,7,7,7,7,7,7,7,7,7,7,7,7,8,8,8,8,8,8,8,8,8,8,8,8,8,8,8,8,8,8,8,8,8,8,8,8,8,8,8,8,8,8,8,8,8,8,8,8,8,8,8,8,8,8,8,8,8,8,8,8,8,8,8,8,8,8,8,8,8,8,8,8,8,8,8,8,8,8,8,8,8,8,8,8,8,8,8,8,8,8,8,8,8,8,8,8,8,8,8,8,8,8,8,8,8,8,8,8,8,8,8,8,8,8,8,8,8,8,8,8,8,8,8,8,8,8,8,8,8,8,8,8,8,8,8,8,8,8,8,8]⟩ : ByteArray) (y.toNat : Int)=bl (y.toNat : Int):=tab_bl' ⟨y.toNat,by omega⟩
 rw [show ((y.toNat : Nat) : Int)=y by omega] at h
 exact h
theorem bl_shift8 {x : Int} (h : 256≤x) : bl x=bl (x / 256)+8:=by
 rw [bl_half (x:=x) (by omega),bl_half (x:=x / 2) (by omega),bl_half (x:=x / 2 / 2) (by omega),bl_half (x:=x / 2 / 2 / 2) (by omega),bl_half (x:=x / 2 / 2 / 2 / 2) (by omega),
  bl_half (x:=x / 2 / 2 / 2 / 2 / 2) (by omega),bl_half (x:=x / 2 / 2 / 2 / 2 / 2 / 2) (by omega),bl_half (x:=x / 2 / 2 / 2 / 2 / 2 / 2 / 2) (by omega),show x / 2 / 2 / 2 / 2 / 2 / 2 / 2 / 2=x / 256 by omega]
 omega
theorem bl_small {x : Int} (h0 : 0≤x) (h1 : x < 256) : 0≤bl x∧bl x≤8:=by
 refine ⟨bl_nonneg x,?_⟩
 have:=bl_le (show x≤255 by omega)
 have e : bl 255=8:=by decide +kernel
 omega
set_option maxRecDepth 20000 in
theorem len32_f {x : Int} (h0 : 0≤x) (h1 : x < 4294967296) : bits_Len32.f x=some (bl x):=by
 unfold bits_Len32.f
 by_cases c1 : x ≥ 65536
 ·rw [if_pos c1]
  by_cases c2 : x / 65536 ≥ 256
  ·rw [if_pos c2,if_pos (by omega),if_pos (by omega),show x / 65536 / 256 % 256=x / 65536 / 256 by omega,tab_bl (by omega) (by omega)]
   have:=bl_small (x:=x / 65536 / 256) (by omega) (by omega)
   rw [bl_shift8 (x:=x) (by omega),bl_shift8 (x:=x / 256) (by omega),bl_shift8 (x:=x / 256 / 256) (by omega),show x / 256 / 256 / 256=x / 65536 / 256 by omega]
   unfold wrap64
   refine congrArg some ?_
   omega
  ·rw [if_neg c2,if_pos (by omega),if_pos (by omega),show x / 65536 % 256=x / 65536 by omega,tab_bl (by omega) (by omega)]
   have:=bl_small (x:=x / 65536) (by omega) (by omega)
   rw [bl_shift8 (x:=x) (by omega),bl_shift8 (x:=x / 256) (by omega),show x / 256 / 256=x / 65536 by omega]
   unfold wrap64
   refine congrArg some ?_
   omega
 ·rw [if_neg c1]
  by_cases c2 : x ≥ 256
  ·rw [if_pos c2,if_pos (by omega),if_pos (by omega),show x / 256 % 256=x / 256 by omega,tab_bl (by omega) (by omega)]
   have:=bl_small (x:=x / 256) (by omega) (by omega)
   rw [bl_shift8 (x:=x) (by omega)]
   unfold wrap64
   refine congrArg some ?_
   omega
  ·rw [if_neg c2,if_pos (by omega),if_pos (by omega),show x % 256=x by omega,tab_bl (by omega) (by omega)]
   have:=bl_small (x:=x) (by omega) (by omega)
   unfold wrap64
   refine congrArg some ?_
   omega
theorem bl_32 {x : Int} (h1 : x < 4294967296) : bl x≤32:=by
 have:=bl_le (show x≤4294967295 by omega)
 have e : bl 4294967295=32:=by decide +kernel
 omega
theorem bits_arith {n i t : Int} (h : n=i+1) (hi : 0≤i) (hn : n < 35184372087809) (h0 : 0≤t) (h1 : t≤32) : wrap64 (wrap64 (32 * n) - wrap64 (32 - t))=32 * i+t:=by
 unfold wrap64
 omega
theorem nbits_f {a : List Int} (ha : W a) (sa : Sm a) : nat_Bits.f a=some (bl (V a)):=by
 have va:=V_nonneg ha
 have la:=L_len_le ha
 have sa' : a.length < 35184372087809:=sa
 unfold nat_Bits.f
 rw [trim_f ha,Option.bind_some]
 by_cases hz : V a=0
 ·rw [hz,L_zero,bl_zero]
  exact if_pos rfl
 ·obtain ⟨i,hi,hp⟩:=rd_last (n:=V a) (by omega)
  have w1 : wrap64 (((L (V a)).length : Int) - 1)=(i : Int):=by unfold wrap64;omega
  have hb:=bl_V (W_L (V a)) i hi hp
  rw [V_L va] at hb
  have hr:=W_rd (W_L (V a)) (i : Int)
  have h32:=bl_32 hr.2
  have h32':=bl_nonneg (rd (L (V a)) (i : Int))
  rw [if_neg (by omega),w1,if_pos (by omega),if_pos (by omega)]
  unfold bits_LeadingZeros32.f
  rw [len32_f hr.1 hr.2,Option.bind_some,Option.bind_some,hb]
  exact congrArg some (bits_arith (by omega) (by omega) (by omega) h32' h32)
end Go.Proofs.YtncdiodnbkhacaaDoor.N
end
section
namespace Go.Proofs.YtncdiodnbkhacaaDoor.N
set_option linter.unusedVariables false
set_option linter.unusedSimpArgs false
open Go.RowKit Go.Proofs.YtncdiodnbkhacaaDoorW.PrintWords Go.Proofs.YtncdiodnbkhacaaDoorW.PrintLast Go.Proofs.YtncdiodnbkhacaaDoor.Pq
theorem limb_mul {x y o c : Int} (hx : 0≤x∧x < 4294967296) (hy : 0≤y∧y < 4294967296) (ho : 0≤o∧o < 4294967296) (hc : 0≤c∧c < 4294967296) :
  0≤x * y∧x * y≤18446744065119617025:=by
 constructor
 ·exact Int.mul_nonneg hx.1 hy.1
 ·have h1 : x * y≤4294967295 * y:=Int.mul_le_mul_of_nonneg_right (by omega) hy.1
  omega
theorem mul_wrap {x y o c : Int} (hx : 0≤x∧x < 4294967296) (hy : 0≤y∧y < 4294967296) (ho : 0≤o∧o < 4294967296) (hc : 0≤c∧c < 4294967296) :
  IntKind.u64.wrap (IntKind.u64.wrap (IntKind.u64.wrap (IntKind.u64.wrap x * IntKind.u64.wrap y)+IntKind.u64.wrap o)+c)=x * y+o+c:=by
 have h:=limb_mul hx hy ho hc
 rw [wrap_u64_of (x:=x) (by omega) (by omega),wrap_u64_of (x:=y) (by omega) (by omega),wrap_u64_of (x:=o) (by omega) (by omega),wrap_u64_of (x:=x * y) (by omega) (by omega),wrap_u64_of (x:=x * y+o) (by omega) (by omega),wrap_u64_of (by omega) (by omega)]
theorem mul_step {o : List Int} (n : Nat) (h : n < o.length) (x y c : Int) :
  V (o.set n ((x * y+rd o (n : Int)+c) % 4294967296))+P (n+1) * ((x * y+rd o (n : Int)+c) / 4294967296)=V o+P n * (x * y+c):=by
 rw [V_set o n _ h,P_succ]
 have:=Int.emod_add_mul_ediv (x * y+rd o (n : Int)+c) 4294967296
 grind
structure MulI (a b o : List Int) (n i : Nat) : Prop where
 w : W o
 len : o.length=n
 val : V o=V (a.take i) * V b
 zero : ∀ j : Nat,i+b.length≤j→rd o (j : Int)=0
structure MulJ (a b o : List Int) (n i j : Nat) (c : Int) : Prop where
 w : W o
 len : o.length=n
 c0 : 0≤c∧c < 4294967296
 val : V o+P (i+j) * c=V (a.take i) * V b+P i * (rd a (i : Int) * V (b.take j))
 zero : ∀ m : Nat,i+b.length≤m→rd o (m : Int)=0
theorem MulI.start (a b : List Int) (n : Nat) : MulI a b (List.replicate n 0) n 0 :=
 ⟨W_replicate n,by simp,by simp [V_replicate,V_nil],fun j _=>rd_replicate n j⟩
theorem MulI.inner {a b o : List Int} {n i : Nat} (h : MulI a b o n i) : MulJ a b o n i 0 0 :=
 ⟨h.w,h.len,by omega,by rw [h.val];simp [V_nil],h.zero⟩
theorem MulJ.step {a b o : List Int} {n i j : Nat} {c : Int} (h : MulJ a b o n i j c) (hb : W b) (ha : W a) (hj : j < b.length) (hn : i+b.length < n) :
  MulJ a b (o.set (i+j) ((rd a (i : Int) * rd b (j : Int)+rd o ((i+j : Nat) : Int)+c) % 4294967296)) n i (j+1) ((rd a (i : Int) * rd b (j : Int)+rd o ((i+j : Nat) : Int)+c) / 4294967296):=by
 have hlt : i+j < o.length:=by rw [h.len];omega
 have ra:=W_rd ha (i : Int)
 have rb:=W_rd hb (j : Int)
 have ro:=W_rd h.w ((i+j : Nat) : Int)
 have hm:=limb_mul ra rb ro h.c0
 have hc:=h.c0
 refine ⟨W_set h.w _ (by omega) (by omega),by rw [List.length_set,h.len],by omega,?_,?_⟩
 ·have e:=mul_step (i+j) hlt (rd a (i : Int)) (rd b (j : Int)) c
  have hv:=h.val
  have ep:=P_add i j
  rw [V_take_succ' b j,show i+(j+1)=i+j+1 by omega]
  clear hm hc ro rb ra
  grind
 ·intro m hm
  rw [rd_set_ne _ _ _ _ (by omega)]
  exact h.zero m hm
theorem MulJ.done {a b o : List Int} {n i : Nat} {c : Int} (h : MulJ a b o n i b.length c) (hn : i+b.length < n) : MulI a b (o.set (i+b.length) (c % 4294967296)) n (i+1):=by
 have hc:=h.c0
 rw [Int.emod_eq_of_lt hc.1 hc.2]
 refine ⟨W_set h.w _ hc.1 hc.2,by rw [List.length_set,h.len],?_,?_⟩
 ·rw [V_set _ _ _ (by rw [h.len];omega),h.zero (i+b.length) (Nat.le_refl _),V_take_succ' a i]
  have hv:=h.val
  rw [List.take_length] at hv
  grind
 ·intro m hm
  rw [rd_set_ne _ _ _ _ (by omega)]
  exact h.zero m (by omega)
theorem nmul_l1 {a b : List Int} (ha : W a) (hb : W b) (hl : a.length+b.length≤70368744177664) {i : Nat} (hi : i < a.length) (R : List Int)
  (hnext : ∀ o,MulI a b o (a.length+b.length) (i+1)→Ev (fun k=>nat_Mul.l0 k b o a (a.length : Int) ((i+1 : Nat) : Int)) R) :
  ∀ (d j : Nat) (o : List Int) (c : Int),b.length - j=d→j≤b.length→MulJ a b o (a.length+b.length) i j c →
   Ev (fun k=>nat_Mul.l1 k b o (i : Int) (rd a (i : Int)) c a (a.length : Int) (i : Int) b (b.length : Int) (j : Int)) R:=by
 intro d
 induction d with
|zero =>
  intro j o c hd hj h
  obtain rfl : j=b.length:=by omega
  have hlen:=h.len
  have w1 : wrap64 ((i : Int)+(b.length : Int))=((i+b.length : Nat) : Int):=by unfold wrap64;omega
  have w2 : wrap64 ((i : Int)+1)=((i+1 : Nat) : Int):=by unfold wrap64;omega
  refine Ev_up ?_
  unfold nat_Mul.l1
  refine Ev_neg (by omega) ?_
  rw [w1,w2,Int.toNat_natCast]
  refine Ev_pos (by omega) ?_
  refine Ev_pos (by omega) ?_
  exact hnext _ (h.done (by omega))
|succ d ih =>
  intro j o c hd hj h
  have hlen:=h.len
  have w1 : wrap64 ((i : Int)+(j : Int))=((i+j : Nat) : Int):=by unfold wrap64;omega
  have w2 : wrap64 ((j : Int)+1)=((j+1 : Nat) : Int):=by unfold wrap64;omega
  refine Ev_up ?_
  unfold nat_Mul.l1
  refine Ev_pos (by omega) ?_
  refine Ev_pos (by omega) ?_
  refine Ev_pos (by omega) ?_
  rw [w1,w2,Int.toNat_natCast]
  refine Ev_pos (by omega) ?_
  refine Ev_pos (by omega) ?_
  rw [mul_wrap (W_rd ha _) (W_rd hb _) (W_rd h.w _) h.c0]
  exact ih (j+1) _ _ (by omega) (by omega) (h.step hb ha (by omega) (by omega))
theorem nmul_l0 {a b : List Int} (ha : W a) (hb : W b) (hl : a.length+b.length≤70368744177664) : ∀ (d i : Nat) (o : List Int),a.length - i=d→i≤a.length→MulI a b o (a.length+b.length) i →
  Ev (fun k=>nat_Mul.l0 k b o a (a.length : Int) (i : Int)) (L (V a * V b)):=by
 intro d
 induction d with
|zero =>
  intro i o hd hi h
  obtain rfl : i=a.length:=by omega
  refine Ev_up ?_
  unfold nat_Mul.l0
  refine Ev_neg (by omega) ?_
  refine Ev_some (trim_f h.w) ?_
  refine Ev_now ?_
  rw [h.val,List.take_length]
|succ d ih =>
  intro i o hd hi h
  refine Ev_up ?_
  unfold nat_Mul.l0
  refine Ev_pos (by omega) ?_
  refine Ev_pos (by omega) ?_
  refine Ev_pos (by omega) ?_
  exact nmul_l1 ha hb hl (by omega) _ (fun o' h'=>ih (i+1) o' (by omega) (by omega) h') _ 0 o 0 rfl (Nat.zero_le _) h.inner
theorem nmul_f {a b : List Int} (ha : W a) (hb : W b) (hl : a.length+b.length≤70368744177664) : Ev (fun k=>nat_Mul.f k a b) (L (V a * V b)):=by
 have la:=L_len_le ha
 have lb:=L_len_le hb
 have va:=V_nonneg ha
 have vb:=V_nonneg hb
 refine Ev_some (trim_f ha) ?_
 refine Ev_some (trim_f hb) ?_
 have w1 : wrap64 (((L (V a)).length : Int)+((L (V b)).length : Int))=(((L (V a)).length+(L (V b)).length : Nat) : Int):=by unfold wrap64;omega
 rw [w1,Int.toNat_natCast]
 refine Ev_pos (by omega) ?_
 refine Ev_pos (by omega) ?_
 have:=nmul_l0 (W_L (V a)) (W_L (V b)) (by omega) _ 0 _ rfl (Nat.zero_le _) (MulI.start _ _ _)
 rw [V_L va,V_L vb] at this
 exact this
end Go.Proofs.YtncdiodnbkhacaaDoor.N
end
section
namespace Go.Proofs.YtncdiodnbkhacaaDoor.N
set_option linter.unusedVariables false
set_option linter.unusedSimpArgs false
open Go.RowKit Go.Proofs.YtncdiodnbkhacaaDoorW.PrintWords Go.Proofs.YtncdiodnbkhacaaDoorW.PrintLast Go.Proofs.YtncdiodnbkhacaaDoor.Pq
structure Nm (l : List Int) (n : Nat) (x : Int) : Prop where
 w : W l
 v : V l=x
 le : l.length≤n
theorem Nm.pos {l : List Int} {n : Nat} {x : Int} (h : Nm l n x) : 0≤x:=h.v ▸ V_nonneg h.w
theorem Nm.lt {l : List Int} {n : Nat} {x : Int} (h : Nm l n x) : x < P n:=by
 have h1:=V_lt h.w
 have h2:=P_le h.le
 have h3:=h.v
 omega
theorem Nm.L {n : Nat} {x : Int} (h0 : 0≤x) (h1 : x < P n) : Nm (L x) n x:=⟨W_L x,V_L h0,L_length_le n h1⟩
theorem Nm.of {l : List Int} {n : Nat} (h : ∀ x∈l,(Lit.int .u32 x).wf=true) (hn : l.length≤n) : Nm l n (V l):=⟨wf_of h,rfl,hn⟩
theorem Nm.nil : Nm [] 0 0:=⟨W_nil,V_nil,Nat.le_refl _⟩
theorem Nm.one : Nm [1] 1 1:=⟨W_one (by decide) (by decide),V_one 1,Nat.le_refl _⟩
theorem Nm.up {l : List Int} {m n : Nat} {x : Int} (h : Nm l m x) (hmn : m≤n) : Nm l n x:=⟨h.w,h.v,Nat.le_trans h.le hmn⟩
theorem Nm.norm {l : List Int} {n : Nat} {x : Int} (h : Nm l n x) : Nm (N.L x) n x:=Nm.L h.pos h.lt
theorem Nm.sumL {a b : List Int} {m n : Nat} {x y : Int} (h : Nm a m x) (k : Nm b n y) : Nm (N.L (x+y)) (m+n+1) (x+y):=by
 have h1:=h.lt
 have h2:=k.lt
 have h3:=h.pos
 have h4:=k.pos
 have h5:=P_le (show m≤m+n by omega)
 have h6:=P_le (show n≤m+n by omega)
 refine Nm.L (by omega) ?_
 rw [P_succ]
 omega
theorem Nm.mulL {a b : List Int} {m n : Nat} {x y : Int} (h : Nm a m x) (k : Nm b n y) : Nm (N.L (x * y)) (m+n) (x * y):=by
 refine Nm.L (Int.mul_nonneg h.pos k.pos) ?_
 rw [P_add]
 have h1 : x * y≤x * (P n - 1):=Int.mul_le_mul_of_nonneg_left (by have:=k.lt;omega) h.pos
 have h2 : x * P n < P m * P n:=Int.mul_lt_mul_of_pos_right h.lt (P_pos n)
 have h3:=h.pos
 rw [Int.mul_sub] at h1
 omega
theorem Nm.add {a b : List Int} {m n : Nat} {x y : Int} (h : Nm a m x) (k : Nm b n y) (hm : m < 35184372087809) (hn : n < 35184372087809) : Ev (fun r=>nat_Add.f r a b) (N.L (x+y)):=by
 have h1:=h.le
 have h2:=k.le
 have e:=nadd_f h.w k.w (by unfold Sm;omega) (by unfold Sm;omega)
 rwa [h.v,k.v] at e
theorem Nm.sub {a b : List Int} {m n : Nat} {x y : Int} (h : Nm a m x) (k : Nm b n y) (hm : m < 35184372087809) (hn : n < 35184372087809) : Ev (fun r=>nat_Sub.f r a b) (subS x y):=by
 have h1:=h.le
 have h2:=k.le
 have e:=nsub_f h.w k.w (by unfold Sm;omega) (by unfold Sm;omega)
 rwa [h.v,k.v] at e
theorem Nm.mul {a b : List Int} {m n : Nat} {x y : Int} (h : Nm a m x) (k : Nm b n y) (hm : m < 35184372087809) (hn : n < 35184372087809) : Ev (fun r=>nat_Mul.f r a b) (N.L (x * y)):=by
 have h1:=h.le
 have h2:=k.le
 have e:=nmul_f h.w k.w (by omega)
 rwa [h.v,k.v] at e
theorem Nm.nrm {a : List Int} {m : Nat} {x : Int} (h : Nm a m x) (hm : m < 35184372087809) : nat_Norm.f a=some (N.L x):=by
 have h1:=h.le
 have e:=norm_f h.w (by unfold Sm;omega)
 rwa [h.v] at e
end Go.Proofs.YtncdiodnbkhacaaDoor.N
end
section
namespace Go.Proofs.YtncdiodnbkhacaaDoor.N
set_option linter.unusedVariables false
set_option linter.unusedSimpArgs false
open Go Go.RowKit Go.Proofs.YtncdiodnbkhacaaDoorW.PrintWords Go.Proofs.YtncdiodnbkhacaaDoorW.PrintLast Go.Proofs.YtncdiodnbkhacaaDoorW.PrintMore Go.Proofs.YtncdiodnbkhacaaDoor.Pq
def shS (x s : Int) : List Int × Bool:=if s < 0 then ([],false) else if s > 65536 then ([],false) else (L (x * 2 ^ s.toNat),true)
theorem u32_wrap (x : Int) : IntKind.u32.wrap x=x % 4294967296:=by
 simp only [IntKind.wrap,IntKind.bits,IntKind.signed]
 simp
theorem shl_limb {r : Nat} (hr : r < 32) {x c : Int} (hx : 0≤x∧x < 4294967296) (hc : 0≤c∧c < 2 ^ r) :
  Go.bits .or .u32 (shl .u32 x (r : Int)) c=x * 2 ^ r % 4294967296+c∧shr .u64 (IntKind.u64.wrap x) (32 - (r : Int)) % 4294967296=x * 2 ^ r / 4294967296 ∧
   0≤x * 2 ^ r % 4294967296+c∧x * 2 ^ r % 4294967296+c < 4294967296∧0≤x * 2 ^ r / 4294967296∧x * 2 ^ r / 4294967296 < 2 ^ r:=by
 have hT : (0 : Int) < 2 ^ r:=Int.pow_pos (by decide)
 have hU : (0 : Int) < 2 ^ (32 - r):=Int.pow_pos (by decide)
 have hTU : (2 : Int) ^ r * 2 ^ (32 - r)=4294967296:=by rw [← Int.pow_add,show r+(32 - r)=32 by omega];rfl
 have e1 : shl .u32 x (r : Int)=x * 2 ^ r % 4294967296:=by
  unfold shl
  rw [u32_wrap,Int.toNat_natCast,Nat.min_eq_left (show r≤IntKind.u32.bits by show r≤32;omega)]
 have e2 : shr .u64 (IntKind.u64.wrap x) (32 - (r : Int))=x / 2 ^ (32 - r):=by
  unfold shr
  rw [wrap_u64_of hx.1 (by omega),show (32 - (r : Int)).toNat=32 - r by omega,Nat.min_eq_left (show 32 - r≤IntKind.u64.bits by show 32 - r≤64;omega)]
 have key : x * 2 ^ r % 4294967296 % 2 ^ r=0:=by
  rw [← hTU,Int.emod_emod_of_dvd _ (Int.dvd_mul_right _ _)]
  exact Int.mul_emod_left _ _
 have hTle : (2 : Int) ^ r≤4294967296:=by
  have : (2 : Int) ^ r * 1≤2 ^ r * 2 ^ (32 - r):=Int.mul_le_mul_of_nonneg_left (by omega) (by omega)
  rw [hTU] at this
  omega
 have jo : ∀ y : Int,0≤y→y % 2 ^ r=0→y < 4294967296→Go.bits .or .u32 y c=y+c:=fun y h0 h1 h2 =>
  bits_join .u32 32 (Nat.le_refl _) (fun n h0 h1=>by rw [u32_wrap];omega) r y c h0 h1 (by omega) hc.1 hc.2 (by omega)
 rw [e1,e2,jo _ (by omega) key (by omega)]
 clear jo e1 e2
 generalize (2 : Int) ^ r=T at *
 generalize (2 : Int) ^ (32 - r)=U at *
 have m1 : x * T % 4294967296=T * (x % U):=by rw [← hTU,Int.mul_comm x T,Int.mul_emod_mul_of_pos _ _ hT]
 have d1 : x * T / 4294967296=x / U:=by rw [← hTU,Int.mul_comm x T,Int.mul_ediv_mul_of_pos _ _ hT]
 have xu0:=Int.emod_nonneg x (show U≠0 by omega)
 have xu1:=Int.emod_lt_of_pos x hU
 have xd0 : 0≤x / U:=Int.ediv_nonneg hx.1 (by omega)
 have xd1 : x / U < T:=Int.ediv_lt_of_lt_mul hU (by rw [hTU];exact hx.2)
 have p0 : 0≤T * (x % U):=Int.mul_nonneg (by omega) xu0
 have p1 : T * (x % U+1)≤T * U:=Int.mul_le_mul_of_nonneg_left (by omega) (by omega)
 rw [Int.mul_add,hTU] at p1
 rw [m1,d1]
 clear m1 d1 key
 refine ⟨rfl,?_,by omega,by omega,xd0,xd1⟩
 rw [Int.emod_eq_of_lt xd0 (by omega)]
theorem shl_step {r : Nat} (hr : r < 32) {x c : Int} (hx : 0≤x∧x < 4294967296) (hc : 0≤c∧c < 2 ^ r) :
  ∃ dg cy,Go.bits .or .u32 (shl .u32 x (r : Int)) c=dg∧shr .u64 (IntKind.u64.wrap x) (32 - (r : Int)) % 4294967296=cy∧0≤dg∧dg < 4294967296∧0≤cy∧cy < 2 ^ r∧dg+4294967296 * cy=x * 2 ^ r+c:=by
 obtain ⟨e1,e2,b1,b2,b3,b4⟩:=shl_limb hr hx hc
 have e:=Int.emod_add_mul_ediv (x * 2 ^ r) 4294967296
 refine ⟨_,_,e1,e2,b1,b2,b3,b4,?_⟩
 clear e1 e2 b1 b2 b3 b4 hc hx
 generalize x * 2 ^ r=X at *
 omega
theorem two_pow_le' : ∀ r : Fin 32,(2 : Int) ^ r.val≤4294967296:=by decide +kernel
theorem two_pow_le {r : Nat} (hr : r < 32) : (2 : Int) ^ r≤4294967296:=two_pow_le' ⟨r,hr⟩
theorem nshl_l {t : List Int} (ht : W t) {s : Int} {q r : Nat} {T : Int} (hTB : T≤4294967296) (hr : r < 32) (hs : Aside0 (Int.tmod s 32=(r : Int))) (hl : q+t.length < 35184372088832)
  (step : ∀ x c : Int,0≤x∧x < 4294967296→0≤c∧c < T → ∃ dg cy,Go.bits .or .u32 (shl .u32 x (r : Int)) c=dg∧shr .u64 (IntKind.u64.wrap x) (32 - (r : Int)) % 4294967296=cy∧0≤dg∧dg < 4294967296∧0≤cy∧cy < T∧dg+4294967296 * cy=x * T+c) :
  ∀ (d i : Nat) (o : List Int) (c : Int),t.length - i=d→i≤t.length→W o→o.length=q+i→0≤c∧c < T →
   Aside0 (V o+P (q+i) * c=P q * (T * V (t.take i)))→Ev (fun k=>nat_Shl.l0 k s o c t (t.length : Int) (i : Int)) (L (P q * (T * V t)),true):=by
 intro d
 induction d with
|zero =>
  intro i o c hd hi hw ho hc HV
  obtain rfl : i=t.length:=by omega
  refine Ev_up ?_
  unfold nat_Shl.l0
  refine Ev_neg (by omega) ?_
  refine Ev_pos (by omega) ?_
  refine Ev_some (trim_f (W_append hw (W_one hc.1 (by omega)))) ?_
  refine Ev_now ?_
  have hv:=HV.out
  rw [List.take_length] at hv
  rw [V_snoc,ho,hv]
|succ d ih =>
  intro i o c hd hi hw ho hc HV
  have w1 : wrap64 ((i : Int)+1)=((i+1 : Nat) : Int):=by unfold wrap64;omega
  have w2 : wrap64 (32 - (r : Int))=32 - (r : Int):=by unfold wrap64;omega
  have rt:=W_rd ht (i : Int)
  obtain ⟨dg,cy,e1,e2,b1,b2,b3,b4,hs0⟩:=step _ c rt hc
  have HS:=Aside0.mk hs0
  clear hs0
  have key : Aside0 (V (o++[dg])+P (q+(i+1)) * cy=P q * (T * V (t.take (i+1)))):=⟨by
   have hv:=HV.out
   have hs1:=HS.out
   rw [V_snoc,ho,V_take_succ' t i,show q+(i+1)=q+i+1 by omega,P_succ,P_add]
   rw [P_add] at hv
   clear e1 e2 ih
   grind⟩
  have hrec:=ih (i+1) (o++[dg]) cy (by omega) (by omega) (W_append hw (W_one b1 b2)) (by simp [ho];omega) ⟨b3,b4⟩ key
  refine Ev_up ?_
  unfold nat_Shl.l0
  refine Ev_pos (by omega) ?_
  refine Ev_pos (by omega) ?_
  refine Ev_pos (by omega) ?_
  rw [hs.out,w1,w2,e1,e2]
  refine Ev_pos (by omega) ?_
  refine Ev_pos (by omega) ?_
  refine Ev_pos (by omega) ?_
  exact hrec
theorem two_pow_split {s : Int} {q r : Nat} (h : s=32 * (q : Int)+(r : Int)) : (2 : Int) ^ s.toNat=P q * 2 ^ r:=by
 rw [show s.toNat=32 * q+r by omega,Int.pow_add,P_pow]
theorem nshl_f {a : List Int} (ha : W a) (sa : a.length < 35184370000000) (s : Int) : Ev (fun k=>nat_Shl.f k a s) (shS (V a) s):=by
 have la:=L_len_le ha
 have va:=V_nonneg ha
 unfold shS
 by_cases h0 : s < 0
 ·rw [if_pos h0]
  refine Ev_pos h0 ?_
  refine Ev_up ?_
  unfold nat_Shl.j0
  refine Ev_pos rfl ?_
  exact Ev.now _
 ·rw [if_neg h0]
  refine Ev_neg h0 ?_
  refine Ev_up ?_
  unfold nat_Shl.j0
  by_cases h1 : s > 65536
  ·rw [if_pos h1,decide_eq_true h1]
   refine Ev_pos rfl ?_
   exact Ev.now _
  ·rw [if_neg h1,decide_eq_false h1]
   refine Ev_neg (by decide) ?_
   have e1 : Int.tdiv s 32=s / 32:=Int.tdiv_eq_ediv_of_nonneg (by omega)
   have e2 : Aside0 (Int.tmod s 32=((s % 32).toNat : Int)):=⟨by rw [Int.tmod_eq_emod_of_nonneg (by omega)];omega⟩
   have w1 : wrap64 (Int.tdiv s 32)=((s / 32).toNat : Int):=by rw [e1];clear e1;unfold wrap64;omega
   clear e1
   rw [w1,Int.toNat_natCast]
   refine Ev_pos (by omega) ?_
   refine Ev_pos (by omega) ?_
   refine Ev_some (trim_f ha) ?_
   have h:=nshl_l (W_L (V a)) (s:=s) (q:=(s / 32).toNat) (r:=(s % 32).toNat) (two_pow_le (by omega)) (by omega) e2 (by omega) (fun x c hx hc=>shl_step (by omega) hx hc) _ 0 (List.replicate (s / 32).toNat 0) 0 rfl (Nat.zero_le _) (W_replicate _) (by simp) ⟨by omega,Int.pow_pos (by decide)⟩ ⟨by simp [V_replicate,V_nil]⟩
   refine Ev_eq h ?_
   rw [V_L va,two_pow_split (s:=s) (q:=(s / 32).toNat) (r:=(s % 32).toNat) (by omega),Int.mul_comm (V a),Int.mul_assoc]
end Go.Proofs.YtncdiodnbkhacaaDoor.N
end
section
namespace Go.Proofs.YtncdiodnbkhacaaDoor.N
set_option linter.unusedVariables false
set_option linter.unusedSimpArgs false
open Go.RowKit Go.Proofs.YtncdiodnbkhacaaDoorW.PrintWords Go.Proofs.YtncdiodnbkhacaaDoorW.PrintLast Go.Proofs.YtncdiodnbkhacaaDoor.Pq
theorem two_pow_mono {m n : Nat} (h : m≤n) : (2 : Int) ^ m≤2 ^ n:=by
 obtain ⟨d,rfl⟩:=Nat.exists_eq_add_of_le h
 rw [Int.pow_add]
 have h1 : (0 : Int) < 2 ^ m:=Int.pow_pos (by decide)
 have h2 : (0 : Int) < 2 ^ d:=Int.pow_pos (by decide)
 have h3 : (2 : Int) ^ m * 1≤2 ^ m * 2 ^ d:=Int.mul_le_mul_of_nonneg_left (by omega) (by omega)
 omega
theorem shS_ok {x s : Int} (h0 : 0≤s) (h1 : s≤65536) : shS x s=(L (x * 2 ^ s.toNat),true):=by
 unfold shS
 rw [if_neg (by omega),if_neg (by omega)]
theorem Nm.shl {a : List Int} {n : Nat} {x : Int} (h : Nm a n x) (hn : n < 35184360000000) (s : Int) : Ev (fun k=>nat_Shl.f k a s) (shS x s):=by
 have h1:=h.le
 have e:=nshl_f h.w (by omega) s
 rwa [h.v] at e
theorem Nm.bits {a : List Int} {n : Nat} {x : Int} (h : Nm a n x) (hn : n < 35184360000000) : nat_Bits.f a=some (bl x):=by
 have h1:=h.le
 have e:=nbits_f h.w (by unfold Sm;omega)
 rwa [h.v] at e
theorem bl_shift {x : Int} (h : 0 < x) (n : Nat) : bl (x * 2 ^ n)=bl x+(n : Int):=by
 have h1:=bl_log h
 have hT : (0 : Int) < 2 ^ n:=Int.pow_pos (by decide)
 have k1 : (2 : Int) ^ x.toNat.log2 * 2 ^ n≤x * 2 ^ n:=Int.mul_le_mul_of_nonneg_right h1.1 (by omega)
 have k2 : x * 2 ^ n < (2 : Int) ^ (x.toNat.log2+1) * 2 ^ n:=Int.mul_lt_mul_of_pos_right h1.2 hT
 rw [← Int.pow_add] at k1 k2
 rw [bl_of (m:=x.toNat.log2+n) k1 (by rw [show x.toNat.log2+n+1=x.toNat.log2+1+n by omega];exact k2)]
 have e : bl x=(x.toNat.log2 : Int)+1:=bl_of h1.1 h1.2
 omega
theorem Nm.bl_le {l : List Int} {n : Nat} {x : Int} (h : Nm l n x) : bl x≤32 * (n : Int):=by
 by_cases hp : 0 < x
 ·obtain ⟨i,hi,hr⟩:=rd_last hp
  have h1:=bl_V (W_L x) i hi hr
  rw [V_L h.pos] at h1
  have h2:=bl_32 (W_rd (W_L x) (i : Int)).2
  have h3:=h.norm.le
  omega
 ·have:=h.pos
  obtain rfl : x=0:=by omega
  rw [bl_zero]
  omega
end Go.Proofs.YtncdiodnbkhacaaDoor.N
end
section
namespace Go.Proofs.YtncdiodnbkhacaaDoor.N
set_option linter.unusedVariables false
set_option linter.unusedSimpArgs false
open Go Go.RowKit Go.Proofs.YtncdiodnbkhacaaDoorW.PrintWords Go.Proofs.YtncdiodnbkhacaaDoorW.PrintLast Go.Proofs.YtncdiodnbkhacaaDoorW.PrintMore Go.Proofs.YtncdiodnbkhacaaDoor.Pq
theorem div32_f {a b d : Int} (ha : 0≤a∧a < d) (hb : 0≤b∧b < 4294967296) (hd : d < 4294967296) : bits_Div32.f a b d=some ((a * 4294967296+b) / d,(a * 4294967296+b) % d):=if_pos ⟨ha,hb,hd⟩
theorem small_l {x : List Int} (hx : W x) {dv : Int} (hd : 0 < dv∧dv < 4294967296) (hl : x.length < 35184372087809) : ∀ (i : Nat) (o : List Int) (r : Int),i≤x.length→W o→o.length=x.length→0≤r∧r < dv →
  (∀ j : Nat,j < i→rd o (j : Int)=0)→Aside0 (P i * r+dv * V o+V (x.take i)=V x) →
  Ev (fun k=>nat_small.l0 k x dv o r ((i : Int) - 1)) (L (V x / dv),L (V x % dv)):=by
 intro i
 induction i with
|zero =>
  intro o r hi hw ho hr hz HV
  refine Ev_up ?_
  unfold nat_small.l0
  refine Ev_neg (by omega) ?_
  refine Ev_some (trim_f hw) ?_
  refine Ev_some (trim_f (W_one hr.1 (by omega))) ?_
  refine Ev_now ?_
  have hv:=HV.out
  rw [List.take_zero,V_nil,P_zero] at hv
  have h1 : V x / dv=V o:=by
   rw [← hv,show 1 * r+dv * V o+0=r+dv * V o by omega,Int.add_mul_ediv_left _ _ (by omega),Int.ediv_eq_zero_of_lt hr.1 hr.2]
   omega
  have h2 : V x % dv=r:=by
   rw [← hv,show 1 * r+dv * V o+0=r+dv * V o by omega,Int.add_mul_emod_self_left,Int.emod_eq_of_lt hr.1 hr.2]
  rw [h1,h2,V_one]
|succ i ih =>
  intro o r hi hw ho hr hz HV
  have rx:=W_rd hx (i : Int)
  have w1 : wrap64 (((i+1 : Nat) : Int) - 1 - 1)=(i : Int) - 1:=by unfold wrap64;omega
  have w0 : ((i+1 : Nat) : Int) - 1=(i : Int):=by omega
  have q0 : 0≤(r * 4294967296+rd x (i : Int)) / dv:=Int.ediv_nonneg (by omega) (by omega)
  have q1 : (r * 4294967296+rd x (i : Int)) / dv < 4294967296:=Int.ediv_lt_of_lt_mul hd.1 (by omega)
  have r0:=Int.emod_nonneg (r * 4294967296+rd x (i : Int)) (show dv≠0 by omega)
  have r1:=Int.emod_lt_of_pos (r * 4294967296+rd x (i : Int)) hd.1
  have key : Aside0 (P i * ((r * 4294967296+rd x (i : Int)) % dv)+dv * V (o.set i ((r * 4294967296+rd x (i : Int)) / dv))+V (x.take i)=V x):=⟨by
   have hv:=HV.out
   have e:=Int.emod_add_mul_ediv (r * 4294967296+rd x (i : Int)) dv
   rw [V_set o i _ (by omega),hz i (by omega)]
   rw [V_take_succ' x i,P_succ] at hv
   clear ih hz
   grind⟩
  have hrec:=ih (o.set i ((r * 4294967296+rd x (i : Int)) / dv)) ((r * 4294967296+rd x (i : Int)) % dv) (by omega) (W_set hw _ q0 q1) (by rw [List.length_set,ho]) ⟨r0,r1⟩
   (fun j hj=>by rw [rd_set_ne _ _ _ _ (by omega)];exact hz j (by omega)) key
  refine Ev_up ?_
  unfold nat_small.l0
  rw [w1,w0]
  refine Ev_pos (by omega) ?_
  refine Ev_pos (by omega) ?_
  refine Ev_pos (by omega) ?_
  refine Ev_some (div32_f hr rx hd.2) ?_
  rw [Int.toNat_natCast]
  refine Ev_pos (by omega) ?_
  exact hrec
theorem small_f {x : List Int} (hx : W x) {dv : Int} (hd : 0 < dv∧dv < 4294967296) (hl : x.length < 35184372087809) : Ev (fun k=>nat_small.f k x dv) (L (V x / dv),L (V x % dv)):=by
 have w1 : wrap64 ((x.length : Int) - 1)=(x.length : Int) - 1:=by unfold wrap64;omega
 unfold nat_small.f
 refine Ev_pos (by omega) ?_
 refine Ev_pos (by omega) ?_
 rw [w1,Int.toNat_natCast]
 exact small_l hx hd hl x.length _ 0 (Nat.le_refl _) (W_replicate _) (by simp) ⟨by omega,hd.1⟩ (fun j _=>rd_replicate _ _) ⟨by simp [V_replicate]⟩
theorem V_drop (l : List Int) (i : Nat) : V (l.drop i)=rd l (i : Int)+4294967296 * V (l.drop (i+1)):=by
 by_cases h : i < l.length
 ·rw [List.drop_eq_getElem_cons h,V_cons]
  simp [rd,List.getD_eq_getElem?_getD,h]
 ·rw [rd_beyond l i (by simpa using h),List.drop_of_length_le (by omega),List.drop_of_length_le (by omega),V_nil]
  rfl
theorem or64_f {h x : Int} (hh : 0≤h∧h < 4294967296) (hx : 0≤x∧x < 4294967296) : Go.bits .or .u64 (h * 4294967296) x=h * 4294967296+x :=
 bits_join .u64 64 (Nat.le_refl _) (fun n h0 h1=>wrap_u64_of h0 h1) 32 _ _ (by omega) (by omega) (by omega) hx.1 hx.2 (by omega)
theorem or64_w {h x : Int} (hh : 0≤h∧h < 4294967296) (hx : 0≤x∧x < 4294967296) : Go.bits .or .u64 (IntKind.u64.wrap (IntKind.u64.wrap h * 4294967296)) (IntKind.u64.wrap x)=h * 4294967296+x:=by
 rw [wrap_u64_of hh.1 (by omega),wrap_u64_of (x:=h * 4294967296) (by omega) (by omega),wrap_u64_of hx.1 (by omega),or64_f hh hx]
theorem or64_z {x : Int} (hx : 0≤x∧x < 4294967296) : Go.bits .or .u64 0 (IntKind.u64.wrap x)=0 * 4294967296+x:=by
 rw [wrap_u64_of hx.1 (by omega)]
 exact or64_f (h:=0) (by omega) hx
theorem shr_limb {T U lo Y hi Z : Int} (hT : 0 < T) (hTU : T * U=4294967296) (hlo : 0≤lo∧lo < 4294967296) (hY : Y=hi+4294967296 * Z) :
  (lo+4294967296 * Y) / T=(hi * 4294967296+lo) / T % 4294967296+4294967296 * (Y / T):=by
 have eY:=Int.emod_add_mul_ediv Y T
 have eh:=Int.emod_add_mul_ediv hi T
 have y0:=Int.emod_nonneg Y (show T≠0 by omega)
 have y1:=Int.emod_lt_of_pos Y hT
 have em : hi % T=Y % T:=by
  rw [hY,← hTU,Int.mul_assoc,Int.add_mul_emod_self_left]
 have a1 : (lo+4294967296 * Y) / T=(lo+4294967296 * (Y % T)) / T+4294967296 * (Y / T):=by
  rw [show lo+4294967296 * Y=lo+4294967296 * (Y % T)+T * (4294967296 * (Y / T)) by grind,Int.add_mul_ediv_left _ _ (by omega)]
 have a2 : (hi * 4294967296+lo) / T=(lo+4294967296 * (Y % T)) / T+4294967296 * (hi / T):=by
  rw [show hi * 4294967296+lo=lo+4294967296 * (Y % T)+T * (4294967296 * (hi / T)) by grind,Int.add_mul_ediv_left _ _ (by omega)]
 have b0 : 0≤(lo+4294967296 * (Y % T)) / T:=Int.ediv_nonneg (by omega) (by omega)
 have b1 : (lo+4294967296 * (Y % T)) / T < 4294967296:=Int.ediv_lt_of_lt_mul hT (by omega)
 rw [a1,a2]
 generalize (lo+4294967296 * (Y % T)) / T=d at *
 generalize hi / T=h2 at *
 omega
theorem shr_w {r : Nat} (hr : r < 32) (x : Int) : shr .u64 x (r : Int)=x / 2 ^ r:=by
 unfold shr
 rw [Int.toNat_natCast,Nat.min_eq_left (show r≤IntKind.u64.bits by show r≤64;omega)]
theorem nshr_l {l : List Int} (hl : W l) (hn : l.length < 35184372087809) {r : Nat} (hr : r < 32) : ∀ (d i : Nat) (o : List Int),l.length - i=d→i≤l.length→W o→o.length=l.length →
  Aside0 (V (o.take i)+P i * (V (l.drop i) / 2 ^ r)=V l / 2 ^ r)→Ev (fun k=>nat_shr.l0 k l (r : Int) o l (l.length : Int) (i : Int)) (L (V l / 2 ^ r)):=by
 have hT : (0 : Int) < 2 ^ r:=Int.pow_pos (by decide)
 have HTU : Aside0 ((2 : Int) ^ r * 2 ^ (32 - r)=4294967296):=⟨by rw [← Int.pow_add,show r+(32 - r)=32 by omega];rfl⟩
 have hT':=Aside0.mk hT
 clear hT
 intro d
 induction d with
|zero =>
  intro i o hd hi hw ho HV
  obtain rfl : i=l.length:=by omega
  refine Ev_up ?_
  unfold nat_shr.l0
  refine Ev_neg (by omega) ?_
  refine Ev_some (trim_f hw) ?_
  refine Ev_now ?_
  have hv:=HV.out
  rw [List.drop_length,V_nil,V_take_all o _ (by omega),Int.zero_ediv,Int.mul_zero,Int.add_zero] at hv
  rw [hv]
|succ d ih =>
  intro i o hd hi hw ho HV
  have w1 : wrap64 ((i : Int)+1)=((i+1 : Nat) : Int):=by unfold wrap64;omega
  have rl:=W_rd hl (i : Int)
  have rh:=W_rd hl ((i+1 : Nat) : Int)
  have SL:=Aside0.mk (shr_limb hT'.out HTU.out rl (V_drop l (i+1)))
  have D0:=Aside0.mk (V_drop l i)
  have hq0 : 0≤(rd l ((i+1 : Nat) : Int) * 4294967296+rd l (i : Int)) / 2 ^ r % 4294967296:=Int.emod_nonneg _ (by decide)
  have hq1 : (rd l ((i+1 : Nat) : Int) * 4294967296+rd l (i : Int)) / 2 ^ r % 4294967296 < 4294967296:=Int.emod_lt_of_pos _ (by decide)
  have hrec:=ih (i+1) (o.set i ((rd l ((i+1 : Nat) : Int) * 4294967296+rd l (i : Int)) / 2 ^ r % 4294967296)) (by omega) (by omega) (W_set hw _ hq0 hq1) (by rw [List.length_set,ho]) ⟨by
   have hv:=HV.out
   rw [D0.out,SL.out] at hv
   rw [V_take_succ' _ i,rd_set_eq _ _ _ (by omega),P_succ,show (o.set i ((rd l ((i+1 : Nat) : Int) * 4294967296+rd l (i : Int)) / 2 ^ r % 4294967296)).take i=o.take i by rw [List.take_set_of_le (Nat.le_refl _)]]
   clear ih
   grind⟩
  refine Ev_up ?_
  unfold nat_shr.l0
  rw [w1,Int.toNat_natCast]
  refine Ev_pos (by omega) ?_
  refine Ev_pos (by omega) ?_
  refine Ev_pos (by omega) ?_
  by_cases hh : ((i+1 : Nat) : Int) < (l.length : Int)
  ·refine Ev_pos hh ?_
   refine Ev_pos (by omega) ?_
   refine Ev_pos (by omega) ?_
   refine Ev_pos (by omega) ?_
   rw [or64_w rh rl,shr_w hr]
   exact hrec
  ·rw [rd_beyond l ((i+1 : Nat) : Int) (by omega)] at hrec
   refine Ev_neg hh ?_
   refine Ev_pos (by omega) ?_
   refine Ev_pos (by omega) ?_
   rw [or64_z rl,shr_w hr]
   exact hrec
theorem nshr_f {l : List Int} (hl : W l) (hn : l.length < 35184372087809) {r : Nat} (hr : r < 32) : Ev (fun k=>nat_shr.f k l (r : Int)) (L (V l / 2 ^ r)):=by
 unfold nat_shr.f
 refine Ev_pos (by omega) ?_
 refine Ev_pos (by omega) ?_
 rw [Int.toNat_natCast]
 exact nshr_l hl hn hr _ 0 _ rfl (Nat.zero_le _) (W_replicate _) (by simp) ⟨by simp [V_nil,P_zero]⟩
end Go.Proofs.YtncdiodnbkhacaaDoor.N
end
section
namespace Go.Proofs.YtncdiodnbkhacaaDoor.N
set_option linter.unusedVariables false
set_option linter.unusedSimpArgs false
open Go Go.RowKit Go.Proofs.YtncdiodnbkhacaaDoorW.PrintWords Go.Proofs.YtncdiodnbkhacaaDoorW.PrintLast Go.Proofs.YtncdiodnbkhacaaDoorW.PrintMore Go.Proofs.YtncdiodnbkhacaaDoor.Pq
theorem b01 (x y c : Int) : bits_Sub32.b x y c=0∨bits_Sub32.b x y c=1:=by
 unfold bits_Sub32.b
 split
 ·exact .inr rfl
 ·exact .inl rfl
theorem sub_limb {x y c : Int} (hx : 0≤x∧x < 4294967296) (hy : 0≤y∧y < 4294967296) (hc : 0≤c∧c≤1) :
  (x - y - c) % 4294967296=x - y - c+4294967296 * bits_Sub32.b x y c:=by
 unfold bits_Sub32.b
 split <;> omega
theorem less_at {u v : List Int} (hu : W u) (hv : W v) (j : Nat) {g : Int} (hg : 0≤g∧g < 4294967296) : ∀ (i : Nat),i≤v.length→j+v.length≤u.length →
  ∃ u' c b,nat_less.at u v j g i=some (u',c,b)∧W u'∧u'.length=u.length∧0≤c∧c < 4294967296∧(b=0∨b=1)∧(∀ m : Nat,j+i≤m→rd u' (m : Int)=rd u (m : Int)) ∧
   Aside0 (V u'=V u - P j * (g * V (v.take i))+P (j+i) * (c+b)):=by
 intro i
 induction i with
|zero =>
  intro _ _
  exact ⟨u,0,0,rfl,hu,rfl,by omega,by omega,.inl rfl,fun _ _=>rfl,⟨by simp [V_nil]⟩⟩
|succ i ih =>
  intro hi hl
  obtain ⟨u',c,b,e,hw,hlen,c0,c1,hb,hrd,HV⟩:=ih (by omega) hl
  have rv:=W_rd hv (i : Int)
  have ru:=W_rd hw ((j+i : Nat) : Int)
  have hm:=limb_mul hg rv (o:=0) (c:=0) (by omega) (by omega)
  have t0 : 0≤(g * rd v (i : Int)+c) % 4294967296:=by omega
  have t1 : (g * rd v (i : Int)+c) % 4294967296 < 4294967296:=by omega
  have hs:=sub_limb ru ⟨t0,t1⟩ (show 0≤b∧b≤1 by omega)
  have s0 : 0≤(rd u' ((j+i : Nat) : Int) - (g * rd v (i : Int)+c) % 4294967296 - b) % 4294967296:=by omega
  have s1 : (rd u' ((j+i : Nat) : Int) - (g * rd v (i : Int)+c) % 4294967296 - b) % 4294967296 < 4294967296:=by omega
  refine ⟨u'.set (j+i) ((rd u' ((j+i : Nat) : Int) - (g * rd v (i : Int)+c) % 4294967296 - b) % 4294967296),(g * rd v (i : Int)+c) / 4294967296,bits_Sub32.b (rd u' ((j+i : Nat) : Int)) ((g * rd v (i : Int)+c) % 4294967296) b,?_,W_set hw _ s0 s1,by rw [List.length_set,hlen],by omega,by omega,b01 _ _ _,?_,⟨?_⟩⟩
  ·show (nat_less.at u v j g i).bind _=_
   rw [e,Option.bind_some]
   dsimp only
   rw [if_pos ⟨⟨hg.1,by omega⟩,rv,c0,hm.1,by omega⟩,sub32_f ru ⟨t0,t1⟩ (by omega),Option.bind_some]
  ·intro m hm'
   rw [rd_set_ne _ _ _ _ (by omega)]
   exact hrd m (by omega)
  ·have hv':=HV.out
   have ed:=Int.emod_add_mul_ediv (g * rd v (i : Int)+c) 4294967296
   rw [V_set _ _ _ (by omega),hv',V_take_succ' v i,show j+(i+1)=j+i+1 by omega,P_succ,P_add j i,hs]
   clear ih hs s0 s1 t0 t1 hm
   grind
theorem less_f {u v : List Int} (hu : W u) (hv : W v) (j : Nat) {g : Int} (hg : 0≤g∧g < 4294967296) (hl : j+v.length < u.length) :
  ∃ u' b,nat_less.f u j v g=some (decide (b=1),u')∧W u'∧u'.length=u.length∧(b=0∨b=1)∧(∀ m : Nat,j+v.length < m→rd u' (m : Int)=rd u (m : Int)) ∧
   Aside0 (V u'=V u - P j * (g * V v)+P (j+v.length+1) * b):=by
 obtain ⟨u1,c,b,e,hw,hlen,c0,c1,hb,hrd,HV⟩:=less_at hu hv j hg v.length (Nat.le_refl _) (by omega)
 have ru:=W_rd hw ((j+v.length : Nat) : Int)
 have hs:=sub_limb ru ⟨c0,c1⟩ (show 0≤b∧b≤1 by omega)
 have ec : c % 4294967296=c:=by omega
 refine ⟨u1.set (j+v.length) ((rd u1 ((j+v.length : Nat) : Int) - c - b) % 4294967296),bits_Sub32.b (rd u1 ((j+v.length : Nat) : Int)) c b,?_,W_set hw _ (by omega) (by omega),by rw [List.length_set,hlen],b01 _ _ _,?_,⟨?_⟩⟩
 ·unfold nat_less.f
  rw [e,Option.bind_some]
  dsimp only
  rw [if_pos ⟨c0,by omega⟩,ec,sub32_f ru ⟨c0,c1⟩ (by omega),Option.bind_some]
  rcases b01 (rd u1 ((j+v.length : Nat) : Int)) c b with h|h <;> rw [h] <;> rfl
 ·intro m hm
  rw [rd_set_ne _ _ _ _ (by omega)]
  exact hrd m (by omega)
 ·have hv':=HV.out
  rw [List.take_length] at hv'
  rw [V_set _ _ _ (by omega),hv',P_succ,hs]
  grind
theorem back_at {u v : List Int} (hu : W u) (hv : W v) (j : Nat) : ∀ (i : Nat),i≤v.length→j+v.length≤u.length →
  ∃ u' c,nat_back.at u v j i=some (u',c)∧W u'∧u'.length=u.length∧0≤c∧c≤1∧(∀ m : Nat,j+i≤m→rd u' (m : Int)=rd u (m : Int)) ∧
   Aside0 (V u'+P (j+i) * c=V u+P j * V (v.take i)):=by
 intro i
 induction i with
|zero =>
  intro _ _
  exact ⟨u,0,rfl,hu,rfl,by omega,by omega,fun _ _=>rfl,⟨by simp [V_nil]⟩⟩
|succ i ih =>
  intro hi hl
  obtain ⟨u',c,e,hw,hlen,c0,c1,hrd,HV⟩:=ih (by omega) hl
  have rv:=W_rd hv (i : Int)
  have ru:=W_rd hw ((j+i : Nat) : Int)
  refine ⟨u'.set (j+i) ((rd u' ((j+i : Nat) : Int)+rd v (i : Int)+c) % 4294967296),(rd u' ((j+i : Nat) : Int)+rd v (i : Int)+c) / 4294967296,?_,W_set hw _ (by omega) (by omega),by rw [List.length_set,hlen],by omega,by omega,?_,⟨?_⟩⟩
  ·show (nat_back.at u v j i).bind _=_
   rw [e,Option.bind_some]
   dsimp only
   rw [add32_f ru rv ⟨c0,c1⟩,Option.bind_some]
  ·intro m hm'
   rw [rd_set_ne _ _ _ _ (by omega)]
   exact hrd m (by omega)
  ·have hv':=HV.out
   have ed:=Int.emod_add_mul_ediv (rd u' ((j+i : Nat) : Int)+rd v (i : Int)+c) 4294967296
   rw [V_set _ _ _ (by omega),V_take_succ' v i,show j+(i+1)=j+i+1 by omega,P_succ]
   rw [P_add j i] at *
   clear ih
   grind
theorem back_f {u v : List Int} (hu : W u) (hv : W v) (j : Nat) (hl : j+v.length < u.length) :
  ∃ u' b,nat_back.f u j v=some u'∧W u'∧u'.length=u.length∧(b=0∨b=1)∧(∀ m : Nat,j+v.length < m→rd u' (m : Int)=rd u (m : Int)) ∧
   Aside0 (V u'=V u+P j * V v - P (j+v.length+1) * b):=by
 obtain ⟨u1,c,e,hw,hlen,c0,c1,hrd,HV⟩:=back_at hu hv j v.length (Nat.le_refl _) (by omega)
 have ru:=W_rd hw ((j+v.length : Nat) : Int)
 refine ⟨u1.set (j+v.length) ((rd u1 ((j+v.length : Nat) : Int)+c) % 4294967296),(rd u1 ((j+v.length : Nat) : Int)+c) / 4294967296,?_,W_set hw _ (by omega) (by omega),by rw [List.length_set,hlen],by omega,?_,⟨?_⟩⟩
 ·unfold nat_back.f
  rw [e,Option.bind_some]
 ·intro m hm
  rw [rd_set_ne _ _ _ _ (by omega)]
  exact hrd m (by omega)
 ·have hv':=HV.out
  have ed:=Int.emod_add_mul_ediv (rd u1 ((j+v.length : Nat) : Int)+c) 4294967296
  rw [List.take_length] at hv'
  rw [V_set _ _ _ (by omega),P_succ]
  grind
end Go.Proofs.YtncdiodnbkhacaaDoor.N
end
