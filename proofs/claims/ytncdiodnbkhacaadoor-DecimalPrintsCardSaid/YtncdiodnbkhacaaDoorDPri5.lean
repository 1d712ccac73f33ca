import Derived.Test.YtncdiodnbkhacaaDoorDPri4
set_option linter.unusedVariables false
set_option linter.unusedSimpArgs false
section
namespace Go.Proofs.YtncdiodnbkhacaaDoor.Pq
open Go.RowKit Go.Proofs.YtncdiodnbkhacaaDoorW.PrintWords Go.Proofs.YtncdiodnbkhacaaDoorW.PrintLast Go.Proofs.YtncdiodnbkhacaaDoorW.PrintMore
attribute [local go_sem] max2_int min2_int max_two min_two max_three min_three max_four min_four
set_option linter.unusedVariables false
set_option linter.unusedSimpArgs false
theorem penumbralaw04_fixed.mono : ∀ k,LeO (penumbralaw04_fixed.f k ) (penumbralaw04_fixed.f (k + 1) ):=by
 intro  k
 unfold penumbralaw04_fixed.f
 with_reducible repeat' first
  |exact decimal_Natural.mono _ _
  |exact decimal_Parse.mono _ _
  |exact decimal_Print.mono _ _ _ _
  |exact penumbraref03_Is.mono _ _ _ _ _ _ _
  |exact penumbraref03_Of.mono _ _ _
  |exact rat_Of.mono _ _ _
  |exact LeO.refl _
  |exact LeO.none _
  |refine LeO.ite ?_ ?_
  |refine LeO.bind ?_ (fun _=>?_)
def penumbralaw04_fixed.T5 : Bool × List (List Nat × List Nat):=(true,[([],[]),([0],[0]),([1],[1]),([2],[2]),([2,2],[2]),([3,4,4,2],[2,3,4]),([2,5],[2,5]),([6,5],[6]),([7],[7]),([8,7],[7,8]),([7,9],[7,9]),([10,7],[10]),([11],[11]),([11,11],[11]),([12,13,13,11],[11,12,13]),([11,14],[11,14]),([15,14],[15]),([16],[16]),([17,16],[16,17]),([16,18],[16,18]),([19,16],[19]),([20],[20]),([21,20],[20,21]),([20,22],[20,22]),([23,20],[23]),([24,24],[24]),([25,25,24],[24,25]),([26,24],[24,26]),([24,27],[24,27]),([28,26],[28]),([29],[29]),([30,29,29],[29,30]),([31,29],[29,31]),([29,32],[29,32]),([33,31,0,1,2,3,4,5,6,7,8,9,10,11,12,13,14,15,16,17,18,19,20,21,22,23,24,25,26,27,28,29,30,31,32,33],[33])])
def penumbralaw04_fixed.B5 : List Nat:=[0,1,3,7,7,31,63,127,255,511,1023,2047,4095,4095,16383,32767,65535,131071,262143,524287,1048575,2097151,4194303,8388607,16777215,33554431,67108863,134217727,268435455,536870911,1073741823,2147483647,4294967295,8589934591,17179869183]
theorem penumbralaw04_fixed.tab5 : rtab .any (opsOf Tryd.f8 5) = penumbralaw04_fixed.T5:=by kernel_rfl
theorem penumbralaw04_fixed.bits5 : waitsOk penumbralaw04_fixed.T5.2 penumbralaw04_fixed.B5 = true:=by kernel_rfl
set_option maxHeartbeats 8000000 in
set_option maxRecDepth 100000 in
theorem penumbralaw04_fixed.calls (k : Nat)  (r : Bool) (w : World) (h : penumbralaw04_fixed.f k  = some r) :
  Calls Tryd.prog 8 #[] w fun e w'=>e = .returned (.bool r) ∧ Below w.heap.size w w':=by
 have hu25:=Tryd.underlying25
 have HB:=Aside0.mk (Below.refl w.heap.size w)
 have H : ((decimal_Parse.f k (⟨#[48,46,49,50,53]⟩ : ByteArray)).bind fun bt666=>((decimal_Parse.f k (⟨#[48,48,55,47,48,49,52]⟩ : ByteArray)).bind fun bt675=>((decimal_Parse.f k (⟨#[49,47,48]⟩ : ByteArray)).bind fun bt684=>((decimal_Parse.f k (⟨#[49,46]⟩ : ByteArray)).bind fun bt693=>(if bt666.2.2.2 = 0 then ((penumbraref03_Of.f k 1 8).bind fun bt702=>((penumbraref03_Is.f k bt666.1 bt666.2.1 bt666.2.2.1 bt702.1 bt702.2.1 bt702.2.2).bind fun t709=>(if t709 = true then (if bt675.2.2.2 = 0 then ((penumbraref03_Of.f k 1 2).bind fun bt710=>((penumbraref03_Is.f k bt675.1 bt675.2.1 bt675.2.2.1 bt710.1 bt710.2.1 bt710.2.2).bind fun t717=>(if t717 = true then (if bt684.2.2.2 = 42 then (if bt693.2.2.2 = 40 then ((rat_Of.f k (-3) 6).bind fun bt718=>((decimal_Print.f k bt718.1 bt718.2.1 bt718.2.2).bind fun t725=>(if t725.toList = ([45,49,47,50] : List UInt8) then ((decimal_Natural.f k (([0,1] : List Int))).bind fun t729=>(some (t729.toList == ([52,50,57,52,57,54,55,50,57,54] : List UInt8)))) else (none)))) else (none)) else (none)) else (none)))) else (none)) else (none)))) else (none)))))) = some r:=h
 clear h
 replace H:=Option.bind_eq_some_iff.mp H
 obtain ⟨⟨t666,t667,t670,t673⟩,A10,H⟩:=H
 try dsimp only at H
 have A1:=Aside0.mk A10
 clear A10
 replace H:=Option.bind_eq_some_iff.mp H
 obtain ⟨⟨t675,t676,t679,t682⟩,A20,H⟩:=H
 try dsimp only at H
 have A2:=Aside0.mk A20
 clear A20
 replace H:=Option.bind_eq_some_iff.mp H
 obtain ⟨⟨t684,t685,t688,t691⟩,A30,H⟩:=H
 try dsimp only at H
 have A3:=Aside0.mk A30
 clear A30
 replace H:=Option.bind_eq_some_iff.mp H
 obtain ⟨⟨t693,t694,t697,t700⟩,A40,H⟩:=H
 try dsimp only at H
 have A4:=Aside0.mk A40
 clear A40
 by_cases c5 : t673 = 0
 case neg =>rw [if_neg c5] at H;exact absurd H (by simp)
 rw [if_pos c5] at H
 have c5b0 : (t673 == 0) = true:=beq_iff_eq.mpr c5
 have c5b1 : (t673 != 0) = false:=bne_eq_false_iff_eq.mpr c5
 clear c5
 replace H:=Option.bind_eq_some_iff.mp H
 obtain ⟨⟨t702,t703,t706⟩,A60,H⟩:=H
 try dsimp only at H
 have A6:=Aside0.mk A60
 clear A60
 replace H:=Option.bind_eq_some_iff.mp H
 obtain ⟨t709,A70,H⟩:=H
 try dsimp only at H
 have A7:=Aside0.mk A70
 clear A70
 by_cases c8 : t709 = true
 ·subst c8
  rw [if_pos rfl] at H
  by_cases c9 : t682 = 0
  case neg =>rw [if_neg c9] at H;exact absurd H (by simp)
  rw [if_pos c9] at H
  have c9b0 : (t682 == 0) = true:=beq_iff_eq.mpr c9
  have c9b1 : (t682 != 0) = false:=bne_eq_false_iff_eq.mpr c9
  clear c9
  replace H:=Option.bind_eq_some_iff.mp H
  obtain ⟨⟨t710,t711,t714⟩,A100,H⟩:=H
  try dsimp only at H
  have A10:=Aside0.mk A100
  clear A100
  replace H:=Option.bind_eq_some_iff.mp H
  obtain ⟨t717,A110,H⟩:=H
  try dsimp only at H
  have A11:=Aside0.mk A110
  clear A110
  by_cases c12 : t717 = true
  ·subst c12
   rw [if_pos rfl] at H
   by_cases c13 : t691 = 42
   case neg =>rw [if_neg c13] at H;exact absurd H (by simp)
   rw [if_pos c13] at H
   have c13b0 : (t691 == 42) = true:=beq_iff_eq.mpr c13
   have c13b1 : (t691 != 42) = false:=bne_eq_false_iff_eq.mpr c13
   clear c13
   by_cases c14 : t700 = 40
   case neg =>rw [if_neg c14] at H;exact absurd H (by simp)
   rw [if_pos c14] at H
   have c14b0 : (t700 == 40) = true:=beq_iff_eq.mpr c14
   have c14b1 : (t700 != 40) = false:=bne_eq_false_iff_eq.mpr c14
   clear c14
   replace H:=Option.bind_eq_some_iff.mp H
   obtain ⟨⟨t718,t719,t722⟩,A150,H⟩:=H
   try dsimp only at H
   have A15:=Aside0.mk A150
   clear A150
   replace H:=Option.bind_eq_some_iff.mp H
   obtain ⟨t725,A160,H⟩:=H
   try dsimp only at H
   have A16:=Aside0.mk A160
   clear A160
   by_cases c17 : t725.toList = ([45,49,47,50] : List UInt8)
   case neg =>rw [if_neg c17] at H;exact absurd H (by simp)
   rw [if_pos c17] at H
   have c17b0 : (t725.toList == ([45,49,47,50] : List UInt8)) = true:=beq_iff_eq.mpr c17
   have c17b1 : (t725.toList != ([45,49,47,50] : List UInt8)) = false:=bne_eq_false_iff_eq.mpr c17
   clear c17
   obtain ⟨y726,hy726⟩ : ∃ y_ : List Int,y_ = (([0,1] : List Int)):=⟨_,rfl⟩
   replace H : ((decimal_Natural.f k y726).bind fun t729=>(some (t729.toList == ([52,50,57,52,57,54,55,50,57,54] : List UInt8)))) = some r:=by first|(rw [hy726];with_reducible exact H)|(have H2_:=(Option.bind_some _ _).symm.trans H;rw [hy726];with_reducible exact H2_)|(have H2_:=(Option.bind_some _ _).symm.trans H;with_reducible exact H2_)|with_reducible exact H|(rw [hy726];exact H)|exact H
   have Ny726:=Aside0.mk hy726
   clear hy726
   replace H:=Option.bind_eq_some_iff.mp H
   obtain ⟨t729,A180,H⟩:=H
   try dsimp only at H
   have A18:=Aside0.mk A180
   clear A180
   obtain rfl:=Option.some.inj H
   go_enter Tryd.func8,Tryd.ntmps8
   try go_wp2_with (first|((with_reducible refine gate_callee (f:=9) rfl ?_);refine goesL_ (some 10) rfl rfl Tryd.func9 (by kernel_rfl) rfl #[.string (⟨#[48,46,49,50,53]⟩ : ByteArray)] rfl (by (try simp only [List.map_toArray,List.map_cons,List.map_nil]);first|done|rfl) ?_;(with_reducible refine (decimal_Parse.calls k (⟨#[48,46,49,50,53]⟩ : ByteArray) t666 t667 t670 t673 _ A1.out).mono ?_);rintro e w19 ⟨v668,v671,rfl,ho0,ho1,hb⟩;refine ⟨_,rfl,?_⟩;have n0_:=Aside0.mk (Kd.R_lower ho0 (below_size (Hu HB.out)));have n1_:=Aside0.mk (Kd.R_lower ho1 (below_size (Hu HB.out)));have n2_:=Aside0.mk (below_step (Hu HB.out) hb);clear HB;have HO669:=n0_;have HO672:=n1_;have HB:=n2_;clear n0_ n1_ n2_)|((with_reducible refine gate_dst (N:=1) rfl ?_);(try (refine gate_guard (by rfl) ?_;dsimp only));refine box_event ?hg (N:=1) ?hd (cs:=#[.bool false,.slice none 0 0,.slice none 0 0]) (t:=25) ?hr ?_;(case hd=>rfl);(case hg=>rfl);(case hr=>first|(go_simp;done)|(go_simp;(with_reducible rfl))|(go_simp;rfl)|(go_simp;simp only [hu,Int.emod_sub_emod]));intro gb674 hg w20 hbox hb;have n0_:=Aside0.mk (Kd.R_below (Ru HO669.out) hb);have n1_:=Aside0.mk (Kd.R_below (Ru HO672.out) hb);have n2_:=Aside0.mk (below_step (Hu HB.out) hb);have n3_:=Aside0.mk (hbox);have n4_:=Aside0.mk ((by rw [hg];exact (below_size (Hu HB.out)) : w.heap.size ≤ gb674));have n5_:=Aside0.mk ((by rw [hg];exact (below_size (Hu HB.out)) : w.heap.size ≤ gb674));clear HO669;clear HO672;clear HB;have HO669:=n0_;have HO672:=n1_;have HB:=n2_;have BK674:=n3_;have GW674:=n4_;have GE674:=n5_;clear n0_ n1_ n2_ n3_ n4_ n5_;clear hb hbox hg;have hcz21_0 : w20.cell? ⟨gb674,0,none⟩ = some (.bool false):=(blk_cell BK674.out 0).trans rfl;have hcz21_1 : w20.cell? ⟨gb674,1,none⟩ = some (.slice none 0 0):=(blk_cell BK674.out 1).trans rfl;have hcz21_2 : w20.cell? ⟨gb674,2,none⟩ = some (.slice none 0 0):=(blk_cell BK674.out 2).trans rfl;have hfz21_0:=blk_frozen BK674.out 0;have hfz21_1:=blk_frozen BK674.out 1;have hfz21_2:=blk_frozen BK674.out 2;obtain ⟨Ao22,co22,eo22⟩:=Kd.R_slice HO669.out;subst eo22;obtain ⟨Ao23,co23,eo23⟩:=Kd.R_slice HO672.out;subst eo23)|((with_reducible refine gate_callee (f:=9) rfl ?_);refine goesL_ (some 14) rfl rfl Tryd.func9 (by kernel_rfl) rfl #[.string (⟨#[48,48,55,47,48,49,52]⟩ : ByteArray)] rfl (by (try simp only [List.map_toArray,List.map_cons,List.map_nil]);first|done|rfl) ?_;(with_reducible refine (decimal_Parse.calls k (⟨#[48,48,55,47,48,49,52]⟩ : ByteArray) t675 t676 t679 t682 _ A2.out).mono ?_);rintro e w24 ⟨v677,v680,rfl,ho0,ho1,hb⟩;refine ⟨_,rfl,?_⟩;have n0_:=Aside0.mk (Kd.R_mono (Kd.R_told (Kd.R_told (Kd.R_old (by (with_reducible repeat (first|apply Ra|apply Rn|apply Rd));exact (Kd.R_mono (Kd.R_far (p:=⟨gb674,2,none⟩) (Kd.R_far (p:=⟨gb674,1,none⟩) (Kd.R_far (p:=⟨gb674,0,none⟩) (Kd.R_types HO669.out BK674.out (by decide)) (fun _ hk=>hk.2) (.bool t666)) (fun _ hk=>hk.2) (.slice Ao22 t667.length co22)) (fun _ hk=>hk.2) (.slice Ao23 t670.length co23)) (fun _ h_=>h_.1))) hb) (Kd.R_base ho0)) (Kd.R_base ho1)) (fun _ h_=>h_.1));have n1_:=Aside0.mk (Kd.R_mono (Kd.R_told (Kd.R_told (Kd.R_old (by (with_reducible repeat (first|apply Ra|apply Rn|apply Rd));exact (Kd.R_mono (Kd.R_far (p:=⟨gb674,2,none⟩) (Kd.R_far (p:=⟨gb674,1,none⟩) (Kd.R_far (p:=⟨gb674,0,none⟩) (Kd.R_types HO672.out BK674.out (by decide)) (fun _ hk=>hk.2) (.bool t666)) (fun _ hk=>hk.2) (.slice Ao22 t667.length co22)) (fun _ hk=>hk.2) (.slice Ao23 t670.length co23)) (fun _ h_=>h_.1))) hb) (Kd.R_base ho0)) (Kd.R_base ho1)) (fun _ h_=>h_.1));have n2_:=Aside0.mk (Kd.R_lower (Kd.R_new' (Kd.R_new' ho0 (Kd.R_lt (by (with_reducible repeat (first|apply Ra|apply Rn|apply Rd));exact (Kd.R_mono (Kd.R_far (p:=⟨gb674,2,none⟩) (Kd.R_far (p:=⟨gb674,1,none⟩) (Kd.R_far (p:=⟨gb674,0,none⟩) (Kd.R_types HO669.out BK674.out (by decide)) (fun _ hk=>hk.2) (.bool t666)) (fun _ hk=>hk.2) (.slice Ao22 t667.length co22)) (fun _ hk=>hk.2) (.slice Ao23 t670.length co23)) (fun _ h_=>h_.1))))) (Kd.R_lt (by (with_reducible repeat (first|apply Ra|apply Rn|apply Rd));exact (Kd.R_mono (Kd.R_far (p:=⟨gb674,2,none⟩) (Kd.R_far (p:=⟨gb674,1,none⟩) (Kd.R_far (p:=⟨gb674,0,none⟩) (Kd.R_types HO672.out BK674.out (by decide)) (fun _ hk=>hk.2) (.bool t666)) (fun _ hk=>hk.2) (.slice Ao22 t667.length co22)) (fun _ hk=>hk.2) (.slice Ao23 t670.length co23)) (fun _ h_=>h_.1))))) (below_size (by repeat (first|with_reducible exact HB.out|apply ba|apply bn|apply b1|refine below_set ?_ GE674.out))));have n3_:=Aside0.mk (Kd.R_lower (Kd.R_new' (Kd.R_new' ho1 (Kd.R_lt (by (with_reducible repeat (first|apply Ra|apply Rn|apply Rd));exact (Kd.R_mono (Kd.R_far (p:=⟨gb674,2,none⟩) (Kd.R_far (p:=⟨gb674,1,none⟩) (Kd.R_far (p:=⟨gb674,0,none⟩) (Kd.R_types HO669.out BK674.out (by decide)) (fun _ hk=>hk.2) (.bool t666)) (fun _ hk=>hk.2) (.slice Ao22 t667.length co22)) (fun _ hk=>hk.2) (.slice Ao23 t670.length co23)) (fun _ h_=>h_.1))))) (Kd.R_lt (by (with_reducible repeat (first|apply Ra|apply Rn|apply Rd));exact (Kd.R_mono (Kd.R_far (p:=⟨gb674,2,none⟩) (Kd.R_far (p:=⟨gb674,1,none⟩) (Kd.R_far (p:=⟨gb674,0,none⟩) (Kd.R_types HO672.out BK674.out (by decide)) (fun _ hk=>hk.2) (.bool t666)) (fun _ hk=>hk.2) (.slice Ao22 t667.length co22)) (fun _ hk=>hk.2) (.slice Ao23 t670.length co23)) (fun _ h_=>h_.1))))) (below_size (by repeat (first|with_reducible exact HB.out|apply ba|apply bn|apply b1|refine below_set ?_ GE674.out))));have n4_:=Aside0.mk (blk_below (g:=gb674) (o:=.cells #[.bool t666,.slice Ao22 t667.length co22,.slice Ao23 t670.length co23] 25 (0,0)) (by (with_reducible repeat (first|refine blk_drewN ?_ _|refine blk_drew ?_|refine blk_alloc ?_ _));refine blk_put (cs:=#[.bool t666,.slice Ao22 t667.length co22,.slice none 0 0]) ?_ 2 _ rfl;(with_reducible repeat (first|refine blk_drewN ?_ _|refine blk_drew ?_|refine blk_alloc ?_ _));refine blk_put (cs:=#[.bool t666,.slice none 0 0,.slice none 0 0]) ?_ 1 _ rfl;(with_reducible repeat (first|refine blk_drewN ?_ _|refine blk_drew ?_|refine blk_alloc ?_ _));refine blk_put (cs:=#[.bool false,.slice none 0 0,.slice none 0 0]) ?_ 0 _ rfl;(with_reducible repeat (first|refine blk_drewN ?_ _|refine blk_drew ?_|refine blk_alloc ?_ _));exact BK674.out) hb);have n5_:=Aside0.mk (below_step (by repeat (first|with_reducible exact HB.out|apply ba|apply bn|apply b1|refine below_set ?_ GE674.out)) hb);clear HO669;clear HO672;clear BK674;clear HB;have HO669:=n0_;have HO672:=n1_;have HO678:=n2_;have HO681:=n3_;have BK674:=n4_;have HB:=n5_;clear n0_ n1_ n2_ n3_ n4_ n5_)|((with_reducible refine gate_dst (N:=3) rfl ?_);(try (refine gate_guard (by rfl) ?_;dsimp only));refine box_event ?hg (N:=3) ?hd (cs:=#[.bool false,.slice none 0 0,.slice none 0 0]) (t:=25) ?hr ?_;(case hd=>rfl);(case hg=>rfl);(case hr=>first|(go_simp;done)|(go_simp;(with_reducible rfl))|(go_simp;rfl)|(go_simp;simp only [hu,Int.emod_sub_emod]));intro gb683 hg w25 hbox hb;have n0_:=Aside0.mk (Kd.R_below (Ru HO669.out) hb);have n1_:=Aside0.mk (Kd.R_below (Ru HO672.out) hb);have n2_:=Aside0.mk (Kd.R_below (Ru HO678.out) hb);have n3_:=Aside0.mk (Kd.R_below (Ru HO681.out) hb);have n4_:=Aside0.mk (blk_below (g:=gb674) (o:=.cells #[.bool t666,.slice Ao22 t667.length co22,.slice Ao23 t670.length co23] 25 (0,0)) (Bu BK674.out) hb);have n5_:=Aside0.mk (below_step (by repeat (first|with_reducible exact HB.out|apply ba|apply bn|apply b1|refine below_set ?_ GE674.out)) hb);have n6_:=Aside0.mk (hbox);have n7_:=Aside0.mk ((by rw [hg];exact (below_size (by repeat (first|with_reducible exact HB.out|apply ba|apply bn|apply b1|refine below_set ?_ GE674.out))) : w.heap.size ≤ gb683));have n8_:=Aside0.mk ((by rw [hg];exact (below_size (by repeat (first|with_reducible exact HB.out|apply ba|apply bn|apply b1|refine below_set ?_ GE674.out))) : w.heap.size ≤ gb683));have n9_:=Aside0.mk ((by rw [hg];exact Nat.ne_of_lt (blk_lt (g:=gb674) (o:=.cells #[.bool t666,.slice Ao22 t667.length co22,.slice Ao23 t670.length co23] 25 (0,0)) (Bu BK674.out)) : gb674 ≠ gb683));have n10_:=Aside0.mk ((by rw [hg];exact Nat.ne_of_gt (blk_lt (g:=gb674) (o:=.cells #[.bool t666,.slice Ao22 t667.length co22,.slice Ao23 t670.length co23] 25 (0,0)) (Bu BK674.out)) : gb683 ≠ gb674));clear HO669;clear HO672;clear HO678;clear HO681;clear BK674;clear HB;have HO669:=n0_;have HO672:=n1_;have HO678:=n2_;have HO681:=n3_;have BK674:=n4_;have HB:=n5_;have BK683:=n6_;have GW683:=n7_;have GE683:=n8_;have NB674_683:=n9_;have NB683_674:=n10_;clear n0_ n1_ n2_ n3_ n4_ n5_ n6_ n7_ n8_ n9_ n10_;clear hb hbox hg;have hnb26:=NB683_674.out;have hnc26:=NB674_683.out;have hcz27_0 : w25.cell? ⟨gb683,0,none⟩ = some (.bool false):=(blk_cell BK683.out 0).trans rfl;have hcz27_1 : w25.cell? ⟨gb683,1,none⟩ = some (.slice none 0 0):=(blk_cell BK683.out 1).trans rfl;have hcz27_2 : w25.cell? ⟨gb683,2,none⟩ = some (.slice none 0 0):=(blk_cell BK683.out 2).trans rfl;have hfz27_0:=blk_frozen BK683.out 0;have hfz27_1:=blk_frozen BK683.out 1;have hfz27_2:=blk_frozen BK683.out 2;obtain ⟨Ao28,co28,eo28⟩:=Kd.R_slice HO678.out;subst eo28;obtain ⟨Ao29,co29,eo29⟩:=Kd.R_slice HO681.out;subst eo29)|((with_reducible refine gate_callee (f:=9) rfl ?_);refine goesL_ (some 18) rfl rfl Tryd.func9 (by kernel_rfl) rfl #[.string (⟨#[49,47,48]⟩ : ByteArray)] rfl (by (try simp only [List.map_toArray,List.map_cons,List.map_nil]);first|done|rfl) ?_;(with_reducible refine (decimal_Parse.calls k (⟨#[49,47,48]⟩ : ByteArray) t684 t685 t688 t691 _ A3.out).mono ?_);rintro e w30 ⟨v686,v689,rfl,ho0,ho1,hb⟩;refine ⟨_,rfl,?_⟩;have n0_:=Aside0.mk (Kd.R_mono (Kd.R_told (Kd.R_told (Kd.R_old (by (with_reducible repeat (first|apply Ra|apply Rn|apply Rd));exact (Kd.R_mono (Kd.R_far (p:=⟨gb683,2,none⟩) (Kd.R_far (p:=⟨gb683,1,none⟩) (Kd.R_far (p:=⟨gb683,0,none⟩) (Kd.R_types HO669.out BK683.out (by decide)) (fun _ hk=>hk.2) (.bool t675)) (fun _ hk=>hk.2) (.slice Ao28 t676.length co28)) (fun _ hk=>hk.2) (.slice Ao29 t679.length co29)) (fun _ h_=>h_.1))) hb) (Kd.R_base ho0)) (Kd.R_base ho1)) (fun _ h_=>h_.1));have n1_:=Aside0.mk (Kd.R_mono (Kd.R_told (Kd.R_told (Kd.R_old (by (with_reducible repeat (first|apply Ra|apply Rn|apply Rd));exact (Kd.R_mono (Kd.R_far (p:=⟨gb683,2,none⟩) (Kd.R_far (p:=⟨gb683,1,none⟩) (Kd.R_far (p:=⟨gb683,0,none⟩) (Kd.R_types HO672.out BK683.out (by decide)) (fun _ hk=>hk.2) (.bool t675)) (fun _ hk=>hk.2) (.slice Ao28 t676.length co28)) (fun _ hk=>hk.2) (.slice Ao29 t679.length co29)) (fun _ h_=>h_.1))) hb) (Kd.R_base ho0)) (Kd.R_base ho1)) (fun _ h_=>h_.1));have n2_:=Aside0.mk (Kd.R_mono (Kd.R_told (Kd.R_told (Kd.R_old (by (with_reducible repeat (first|apply Ra|apply Rn|apply Rd));exact (Kd.R_mono (Kd.R_far (p:=⟨gb683,2,none⟩) (Kd.R_far (p:=⟨gb683,1,none⟩) (Kd.R_far (p:=⟨gb683,0,none⟩) (Kd.R_types HO678.out BK683.out (by decide)) (fun _ hk=>hk.2) (.bool t675)) (fun _ hk=>hk.2) (.slice Ao28 t676.length co28)) (fun _ hk=>hk.2) (.slice Ao29 t679.length co29)) (fun _ h_=>h_.1))) hb) (Kd.R_base ho0)) (Kd.R_base ho1)) (fun _ h_=>h_.1));have n3_:=Aside0.mk (Kd.R_mono (Kd.R_told (Kd.R_told (Kd.R_old (by (with_reducible repeat (first|apply Ra|apply Rn|apply Rd));exact (Kd.R_mono (Kd.R_far (p:=⟨gb683,2,none⟩) (Kd.R_far (p:=⟨gb683,1,none⟩) (Kd.R_far (p:=⟨gb683,0,none⟩) (Kd.R_types HO681.out BK683.out (by decide)) (fun _ hk=>hk.2) (.bool t675)) (fun _ hk=>hk.2) (.slice Ao28 t676.length co28)) (fun _ hk=>hk.2) (.slice Ao29 t679.length co29)) (fun _ h_=>h_.1))) hb) (Kd.R_base ho0)) (Kd.R_base ho1)) (fun _ h_=>h_.1));have n4_:=Aside0.mk (Kd.R_lower (Kd.R_new' (Kd.R_new' (Kd.R_new' (Kd.R_new' ho0 (Kd.R_lt (by (with_reducible repeat (first|apply Ra|apply Rn|apply Rd));exact (Kd.R_mono (Kd.R_far (p:=⟨gb683,2,none⟩) (Kd.R_far (p:=⟨gb683,1,none⟩) (Kd.R_far (p:=⟨gb683,0,none⟩) (Kd.R_types HO669.out BK683.out (by decide)) (fun _ hk=>hk.2) (.bool t675)) (fun _ hk=>hk.2) (.slice Ao28 t676.length co28)) (fun _ hk=>hk.2) (.slice Ao29 t679.length co29)) (fun _ h_=>h_.1))))) (Kd.R_lt (by (with_reducible repeat (first|apply Ra|apply Rn|apply Rd));exact (Kd.R_mono (Kd.R_far (p:=⟨gb683,2,none⟩) (Kd.R_far (p:=⟨gb683,1,none⟩) (Kd.R_far (p:=⟨gb683,0,none⟩) (Kd.R_types HO672.out BK683.out (by decide)) (fun _ hk=>hk.2) (.bool t675)) (fun _ hk=>hk.2) (.slice Ao28 t676.length co28)) (fun _ hk=>hk.2) (.slice Ao29 t679.length co29)) (fun _ h_=>h_.1))))) (Kd.R_lt (by (with_reducible repeat (first|apply Ra|apply Rn|apply Rd));exact (Kd.R_mono (Kd.R_far (p:=⟨gb683,2,none⟩) (Kd.R_far (p:=⟨gb683,1,none⟩) (Kd.R_far (p:=⟨gb683,0,none⟩) (Kd.R_types HO678.out BK683.out (by decide)) (fun _ hk=>hk.2) (.bool t675)) (fun _ hk=>hk.2) (.slice Ao28 t676.length co28)) (fun _ hk=>hk.2) (.slice Ao29 t679.length co29)) (fun _ h_=>h_.1))))) (Kd.R_lt (by (with_reducible repeat (first|apply Ra|apply Rn|apply Rd));exact (Kd.R_mono (Kd.R_far (p:=⟨gb683,2,none⟩) (Kd.R_far (p:=⟨gb683,1,none⟩) (Kd.R_far (p:=⟨gb683,0,none⟩) (Kd.R_types HO681.out BK683.out (by decide)) (fun _ hk=>hk.2) (.bool t675)) (fun _ hk=>hk.2) (.slice Ao28 t676.length co28)) (fun _ hk=>hk.2) (.slice Ao29 t679.length co29)) (fun _ h_=>h_.1))))) (below_size (by repeat (first|with_reducible exact HB.out|apply ba|apply bn|apply b1|refine below_set ?_ GE674.out|refine below_set ?_ GE683.out))));have n5_:=Aside0.mk (Kd.R_lower (Kd.R_new' (Kd.R_new' (Kd.R_new' (Kd.R_new' ho1 (Kd.R_lt (by (with_reducible repeat (first|apply Ra|apply Rn|apply Rd));exact (Kd.R_mono (Kd.R_far (p:=⟨gb683,2,none⟩) (Kd.R_far (p:=⟨gb683,1,none⟩) (Kd.R_far (p:=⟨gb683,0,none⟩) (Kd.R_types HO669.out BK683.out (by decide)) (fun _ hk=>hk.2) (.bool t675)) (fun _ hk=>hk.2) (.slice Ao28 t676.length co28)) (fun _ hk=>hk.2) (.slice Ao29 t679.length co29)) (fun _ h_=>h_.1))))) (Kd.R_lt (by (with_reducible repeat (first|apply Ra|apply Rn|apply Rd));exact (Kd.R_mono (Kd.R_far (p:=⟨gb683,2,none⟩) (Kd.R_far (p:=⟨gb683,1,none⟩) (Kd.R_far (p:=⟨gb683,0,none⟩) (Kd.R_types HO672.out BK683.out (by decide)) (fun _ hk=>hk.2) (.bool t675)) (fun _ hk=>hk.2) (.slice Ao28 t676.length co28)) (fun _ hk=>hk.2) (.slice Ao29 t679.length co29)) (fun _ h_=>h_.1))))) (Kd.R_lt (by (with_reducible repeat (first|apply Ra|apply Rn|apply Rd));exact (Kd.R_mono (Kd.R_far (p:=⟨gb683,2,none⟩) (Kd.R_far (p:=⟨gb683,1,none⟩) (Kd.R_far (p:=⟨gb683,0,none⟩) (Kd.R_types HO678.out BK683.out (by decide)) (fun _ hk=>hk.2) (.bool t675)) (fun _ hk=>hk.2) (.slice Ao28 t676.length co28)) (fun _ hk=>hk.2) (.slice Ao29 t679.length co29)) (fun _ h_=>h_.1))))) (Kd.R_lt (by (with_reducible repeat (first|apply Ra|apply Rn|apply Rd));exact (Kd.R_mono (Kd.R_far (p:=⟨gb683,2,none⟩) (Kd.R_far (p:=⟨gb683,1,none⟩) (Kd.R_far (p:=⟨gb683,0,none⟩) (Kd.R_types HO681.out BK683.out (by decide)) (fun _ hk=>hk.2) (.bool t675)) (fun _ hk=>hk.2) (.slice Ao28 t676.length co28)) (fun _ hk=>hk.2) (.slice Ao29 t679.length co29)) (fun _ h_=>h_.1))))) (below_size (by repeat (first|with_reducible exact HB.out|apply ba|apply bn|apply b1|refine below_set ?_ GE674.out|refine below_set ?_ GE683.out))));have n6_:=Aside0.mk (blk_below (g:=gb674) (o:=.cells #[.bool t666,.slice Ao22 t667.length co22,.slice Ao23 t670.length co23] 25 (0,0)) (by (with_reducible repeat (first|refine blk_drewN ?_ _|refine blk_drew ?_|refine blk_alloc ?_ _));refine blk_far ?_ NB674_683.out _;(with_reducible repeat (first|refine blk_drewN ?_ _|refine blk_drew ?_|refine blk_alloc ?_ _));refine blk_far ?_ NB674_683.out _;(with_reducible repeat (first|refine blk_drewN ?_ _|refine blk_drew ?_|refine blk_alloc ?_ _));refine blk_far ?_ NB674_683.out _;(with_reducible repeat (first|refine blk_drewN ?_ _|refine blk_drew ?_|refine blk_alloc ?_ _));exact BK674.out) hb);have n7_:=Aside0.mk (blk_below (g:=gb683) (o:=.cells #[.bool t675,.slice Ao28 t676.length co28,.slice Ao29 t679.length co29] 25 (0,0)) (by (with_reducible repeat (first|refine blk_drewN ?_ _|refine blk_drew ?_|refine blk_alloc ?_ _));refine blk_put (cs:=#[.bool t675,.slice Ao28 t676.length co28,.slice none 0 0]) ?_ 2 _ rfl;(with_reducible repeat (first|refine blk_drewN ?_ _|refine blk_drew ?_|refine blk_alloc ?_ _));refine blk_put (cs:=#[.bool t675,.slice none 0 0,.slice none 0 0]) ?_ 1 _ rfl;(with_reducible repeat (first|refine blk_drewN ?_ _|refine blk_drew ?_|refine blk_alloc ?_ _));refine blk_put (cs:=#[.bool false,.slice none 0 0,.slice none 0 0]) ?_ 0 _ rfl;(with_reducible repeat (first|refine blk_drewN ?_ _|refine blk_drew ?_|refine blk_alloc ?_ _));exact BK683.out) hb);have n8_:=Aside0.mk (below_step (by repeat (first|with_reducible exact HB.out|apply ba|apply bn|apply b1|refine below_set ?_ GE674.out|refine below_set ?_ GE683.out)) hb);clear HO669;clear HO672;clear HO678;clear HO681;clear BK674;clear BK683;clear HB;have HO669:=n0_;have HO672:=n1_;have HO678:=n2_;have HO681:=n3_;have HO687:=n4_;have HO690:=n5_;have BK674:=n6_;have BK683:=n7_;have HB:=n8_;clear n0_ n1_ n2_ n3_ n4_ n5_ n6_ n7_ n8_)|((with_reducible refine gate_dst (N:=5) rfl ?_);(try (refine gate_guard (by rfl) ?_;dsimp only));refine box_event ?hg (N:=5) ?hd (cs:=#[.bool false,.slice none 0 0,.slice none 0 0]) (t:=25) ?hr ?_;(case hd=>rfl);(case hg=>rfl);(case hr=>first|(go_simp;done)|(go_simp;(with_reducible rfl))|(go_simp;rfl)|(go_simp;simp only [hu,Int.emod_sub_emod]));intro gb692 hg w31 hbox hb;have n0_:=Aside0.mk (Kd.R_below (Ru HO669.out) hb);have n1_:=Aside0.mk (Kd.R_below (Ru HO672.out) hb);have n2_:=Aside0.mk (Kd.R_below (Ru HO678.out) hb);have n3_:=Aside0.mk (Kd.R_below (Ru HO681.out) hb);have n4_:=Aside0.mk (Kd.R_below (Ru HO687.out) hb);have n5_:=Aside0.mk (Kd.R_below (Ru HO690.out) hb);have n6_:=Aside0.mk (blk_below (g:=gb674) (o:=.cells #[.bool t666,.slice Ao22 t667.length co22,.slice Ao23 t670.length co23] 25 (0,0)) (Bu BK674.out) hb);have n7_:=Aside0.mk (blk_below (g:=gb683) (o:=.cells #[.bool t675,.slice Ao28 t676.length co28,.slice Ao29 t679.length co29] 25 (0,0)) (Bu BK683.out) hb);have n8_:=Aside0.mk (below_step (by repeat (first|with_reducible exact HB.out|apply ba|apply bn|apply b1|refine below_set ?_ GE674.out|refine below_set ?_ GE683.out)) hb);have n9_:=Aside0.mk (hbox);have n10_:=Aside0.mk ((by rw [hg];exact (below_size (by repeat (first|with_reducible exact HB.out|apply ba|apply bn|apply b1|refine below_set ?_ GE674.out|refine below_set ?_ GE683.out))) : w.heap.size ≤ gb692));have n11_:=Aside0.mk ((by rw [hg];exact (below_size (by repeat (first|with_reducible exact HB.out|apply ba|apply bn|apply b1|refine below_set ?_ GE674.out|refine below_set ?_ GE683.out))) : w.heap.size ≤ gb692));have n12_:=Aside0.mk ((by rw [hg];exact Nat.ne_of_lt (blk_lt (g:=gb674) (o:=.cells #[.bool t666,.slice Ao22 t667.length co22,.slice Ao23 t670.length co23] 25 (0,0)) (Bu BK674.out)) : gb674 ≠ gb692));have n13_:=Aside0.mk ((by rw [hg];exact Nat.ne_of_gt (blk_lt (g:=gb674) (o:=.cells #[.bool t666,.slice Ao22 t667.length co22,.slice Ao23 t670.length co23] 25 (0,0)) (Bu BK674.out)) : gb692 ≠ gb674));have n14_:=Aside0.mk ((by rw [hg];exact Nat.ne_of_lt (blk_lt (g:=gb683) (o:=.cells #[.bool t675,.slice Ao28 t676.length co28,.slice Ao29 t679.length co29] 25 (0,0)) (Bu BK683.out)) : gb683 ≠ gb692));have n15_:=Aside0.mk ((by rw [hg];exact Nat.ne_of_gt (blk_lt (g:=gb683) (o:=.cells #[.bool t675,.slice Ao28 t676.length co28,.slice Ao29 t679.length co29] 25 (0,0)) (Bu BK683.out)) : gb692 ≠ gb683));clear HO669;clear HO672;clear HO678;clear HO681;clear HO687;clear HO690;clear BK674;clear BK683;clear HB;have HO669:=n0_;have HO672:=n1_;have HO678:=n2_;have HO681:=n3_;have HO687:=n4_;have HO690:=n5_;have BK674:=n6_;have BK683:=n7_;have HB:=n8_;have BK692:=n9_;have GW692:=n10_;have GE692:=n11_;have NB674_692:=n12_;have NB692_674:=n13_;have NB683_692:=n14_;have NB692_683:=n15_;clear n0_ n1_ n2_ n3_ n4_ n5_ n6_ n7_ n8_ n9_ n10_ n11_ n12_ n13_ n14_ n15_;clear hb hbox hg;have hnb32:=NB692_674.out;have hnc32:=NB674_692.out;have hnb33:=NB692_683.out;have hnc33:=NB683_692.out;have hcz34_0 : w31.cell? ⟨gb692,0,none⟩ = some (.bool false):=(blk_cell BK692.out 0).trans rfl;have hcz34_1 : w31.cell? ⟨gb692,1,none⟩ = some (.slice none 0 0):=(blk_cell BK692.out 1).trans rfl;have hcz34_2 : w31.cell? ⟨gb692,2,none⟩ = some (.slice none 0 0):=(blk_cell BK692.out 2).trans rfl;have hfz34_0:=blk_frozen BK692.out 0;have hfz34_1:=blk_frozen BK692.out 1;have hfz34_2:=blk_frozen BK692.out 2;obtain ⟨Ao35,co35,eo35⟩:=Kd.R_slice HO687.out;subst eo35;obtain ⟨Ao36,co36,eo36⟩:=Kd.R_slice HO690.out;subst eo36)|((with_reducible refine gate_callee (f:=9) rfl ?_);refine goesL_ (some 22) rfl rfl Tryd.func9 (by kernel_rfl) rfl #[.string (⟨#[49,46]⟩ : ByteArray)] rfl (by (try simp only [List.map_toArray,List.map_cons,List.map_nil]);first|done|rfl) ?_;(with_reducible refine (decimal_Parse.calls k (⟨#[49,46]⟩ : ByteArray) t693 t694 t697 t700 _ A4.out).mono ?_);rintro e w37 ⟨v695,v698,rfl,ho0,ho1,hb⟩;refine ⟨_,rfl,?_⟩;have n0_:=Aside0.mk (Kd.R_mono (Kd.R_told (Kd.R_told (Kd.R_old (by (with_reducible repeat (first|apply Ra|apply Rn|apply Rd));exact (Kd.R_mono (Kd.R_far (p:=⟨gb692,2,none⟩) (Kd.R_far (p:=⟨gb692,1,none⟩) (Kd.R_far (p:=⟨gb692,0,none⟩) (Kd.R_types HO669.out BK692.out (by decide)) (fun _ hk=>hk.2) (.bool t684)) (fun _ hk=>hk.2) (.slice Ao35 t685.length co35)) (fun _ hk=>hk.2) (.slice Ao36 t688.length co36)) (fun _ h_=>h_.1))) hb) (Kd.R_base ho0)) (Kd.R_base ho1)) (fun _ h_=>h_.1));have n1_:=Aside0.mk (Kd.R_mono (Kd.R_told (Kd.R_told (Kd.R_old (by (with_reducible repeat (first|apply Ra|apply Rn|apply Rd));exact (Kd.R_mono (Kd.R_far (p:=⟨gb692,2,none⟩) (Kd.R_far (p:=⟨gb692,1,none⟩) (Kd.R_far (p:=⟨gb692,0,none⟩) (Kd.R_types HO672.out BK692.out (by decide)) (fun _ hk=>hk.2) (.bool t684)) (fun _ hk=>hk.2) (.slice Ao35 t685.length co35)) (fun _ hk=>hk.2) (.slice Ao36 t688.length co36)) (fun _ h_=>h_.1))) hb) (Kd.R_base ho0)) (Kd.R_base ho1)) (fun _ h_=>h_.1));have n2_:=Aside0.mk (Kd.R_mono (Kd.R_told (Kd.R_told (Kd.R_old (by (with_reducible repeat (first|apply Ra|apply Rn|apply Rd));exact (Kd.R_mono (Kd.R_far (p:=⟨gb692,2,none⟩) (Kd.R_far (p:=⟨gb692,1,none⟩) (Kd.R_far (p:=⟨gb692,0,none⟩) (Kd.R_types HO678.out BK692.out (by decide)) (fun _ hk=>hk.2) (.bool t684)) (fun _ hk=>hk.2) (.slice Ao35 t685.length co35)) (fun _ hk=>hk.2) (.slice Ao36 t688.length co36)) (fun _ h_=>h_.1))) hb) (Kd.R_base ho0)) (Kd.R_base ho1)) (fun _ h_=>h_.1));have n3_:=Aside0.mk (Kd.R_mono (Kd.R_told (Kd.R_told (Kd.R_old (by (with_reducible repeat (first|apply Ra|apply Rn|apply Rd));exact (Kd.R_mono (Kd.R_far (p:=⟨gb692,2,none⟩) (Kd.R_far (p:=⟨gb692,1,none⟩) (Kd.R_far (p:=⟨gb692,0,none⟩) (Kd.R_types HO681.out BK692.out (by decide)) (fun _ hk=>hk.2) (.bool t684)) (fun _ hk=>hk.2) (.slice Ao35 t685.length co35)) (fun _ hk=>hk.2) (.slice Ao36 t688.length co36)) (fun _ h_=>h_.1))) hb) (Kd.R_base ho0)) (Kd.R_base ho1)) (fun _ h_=>h_.1));have n4_:=Aside0.mk (Kd.R_mono (Kd.R_told (Kd.R_told (Kd.R_old (by (with_reducible repeat (first|apply Ra|apply Rn|apply Rd));exact (Kd.R_mono (Kd.R_far (p:=⟨gb692,2,none⟩) (Kd.R_far (p:=⟨gb692,1,none⟩) (Kd.R_far (p:=⟨gb692,0,none⟩) (Kd.R_types HO687.out BK692.out (by decide)) (fun _ hk=>hk.2) (.bool t684)) (fun _ hk=>hk.2) (.slice Ao35 t685.length co35)) (fun _ hk=>hk.2) (.slice Ao36 t688.length co36)) (fun _ h_=>h_.1))) hb) (Kd.R_base ho0)) (Kd.R_base ho1)) (fun _ h_=>h_.1));have n5_:=Aside0.mk (Kd.R_mono (Kd.R_told (Kd.R_told (Kd.R_old (by (with_reducible repeat (first|apply Ra|apply Rn|apply Rd));exact (Kd.R_mono (Kd.R_far (p:=⟨gb692,2,none⟩) (Kd.R_far (p:=⟨gb692,1,none⟩) (Kd.R_far (p:=⟨gb692,0,none⟩) (Kd.R_types HO690.out BK692.out (by decide)) (fun _ hk=>hk.2) (.bool t684)) (fun _ hk=>hk.2) (.slice Ao35 t685.length co35)) (fun _ hk=>hk.2) (.slice Ao36 t688.length co36)) (fun _ h_=>h_.1))) hb) (Kd.R_base ho0)) (Kd.R_base ho1)) (fun _ h_=>h_.1));have n6_:=Aside0.mk (Kd.R_lower (Kd.R_new' (Kd.R_new' (Kd.R_new' (Kd.R_new' (Kd.R_new' (Kd.R_new' ho0 (Kd.R_lt (by (with_reducible repeat (first|apply Ra|apply Rn|apply Rd));exact (Kd.R_mono (Kd.R_far (p:=⟨gb692,2,none⟩) (Kd.R_far (p:=⟨gb692,1,none⟩) (Kd.R_far (p:=⟨gb692,0,none⟩) (Kd.R_types HO669.out BK692.out (by decide)) (fun _ hk=>hk.2) (.bool t684)) (fun _ hk=>hk.2) (.slice Ao35 t685.length co35)) (fun _ hk=>hk.2) (.slice Ao36 t688.length co36)) (fun _ h_=>h_.1))))) (Kd.R_lt (by (with_reducible repeat (first|apply Ra|apply Rn|apply Rd));exact (Kd.R_mono (Kd.R_far (p:=⟨gb692,2,none⟩) (Kd.R_far (p:=⟨gb692,1,none⟩) (Kd.R_far (p:=⟨gb692,0,none⟩) (Kd.R_types HO672.out BK692.out (by decide)) (fun _ hk=>hk.2) (.bool t684)) (fun _ hk=>hk.2) (.slice Ao35 t685.length co35)) (fun _ hk=>hk.2) (.slice Ao36 t688.length co36)) (fun _ h_=>h_.1))))) (Kd.R_lt (by (with_reducible repeat (first|apply Ra|apply Rn|apply Rd));exact (Kd.R_mono (Kd.R_far (p:=⟨gb692,2,none⟩) (Kd.R_far (p:=⟨gb692,1,none⟩) (Kd.R_far (p:=⟨gb692,0,none⟩) (Kd.R_types HO678.out BK692.out (by decide)) (fun _ hk=>hk.2) (.bool t684)) (fun _ hk=>hk.2) (.slice Ao35 t685.length co35)) (fun _ hk=>hk.2) (.slice Ao36 t688.length co36)) (fun _ h_=>h_.1))))) (Kd.R_lt (by (with_reducible repeat (first|apply Ra|apply Rn|apply Rd));exact (Kd.R_mono (Kd.R_far (p:=⟨gb692,2,none⟩) (Kd.R_far (p:=⟨gb692,1,none⟩) (Kd.R_far (p:=⟨gb692,0,none⟩) (Kd.R_types HO681.out BK692.out (by decide)) (fun _ hk=>hk.2) (.bool t684)) (fun _ hk=>hk.2) (.slice Ao35 t685.length co35)) (fun _ hk=>hk.2) (.slice Ao36 t688.length co36)) (fun _ h_=>h_.1))))) (Kd.R_lt (by (with_reducible repeat (first|apply Ra|apply Rn|apply Rd));exact (Kd.R_mono (Kd.R_far (p:=⟨gb692,2,none⟩) (Kd.R_far (p:=⟨gb692,1,none⟩) (Kd.R_far (p:=⟨gb692,0,none⟩) (Kd.R_types HO687.out BK692.out (by decide)) (fun _ hk=>hk.2) (.bool t684)) (fun _ hk=>hk.2) (.slice Ao35 t685.length co35)) (fun _ hk=>hk.2) (.slice Ao36 t688.length co36)) (fun _ h_=>h_.1))))) (Kd.R_lt (by (with_reducible repeat (first|apply Ra|apply Rn|apply Rd));exact (Kd.R_mono (Kd.R_far (p:=⟨gb692,2,none⟩) (Kd.R_far (p:=⟨gb692,1,none⟩) (Kd.R_far (p:=⟨gb692,0,none⟩) (Kd.R_types HO690.out BK692.out (by decide)) (fun _ hk=>hk.2) (.bool t684)) (fun _ hk=>hk.2) (.slice Ao35 t685.length co35)) (fun _ hk=>hk.2) (.slice Ao36 t688.length co36)) (fun _ h_=>h_.1))))) (below_size (by repeat (first|with_reducible exact HB.out|apply ba|apply bn|apply b1|refine below_set ?_ GE674.out|refine below_set ?_ GE683.out|refine below_set ?_ GE692.out))));have n7_:=Aside0.mk (Kd.R_lower (Kd.R_new' (Kd.R_new' (Kd.R_new' (Kd.R_new' (Kd.R_new' (Kd.R_new' ho1 (Kd.R_lt (by (with_reducible repeat (first|apply Ra|apply Rn|apply Rd));exact (Kd.R_mono (Kd.R_far (p:=⟨gb692,2,none⟩) (Kd.R_far (p:=⟨gb692,1,none⟩) (Kd.R_far (p:=⟨gb692,0,none⟩) (Kd.R_types HO669.out BK692.out (by decide)) (fun _ hk=>hk.2) (.bool t684)) (fun _ hk=>hk.2) (.slice Ao35 t685.length co35)) (fun _ hk=>hk.2) (.slice Ao36 t688.length co36)) (fun _ h_=>h_.1))))) (Kd.R_lt (by (with_reducible repeat (first|apply Ra|apply Rn|apply Rd));exact (Kd.R_mono (Kd.R_far (p:=⟨gb692,2,none⟩) (Kd.R_far (p:=⟨gb692,1,none⟩) (Kd.R_far (p:=⟨gb692,0,none⟩) (Kd.R_types HO672.out BK692.out (by decide)) (fun _ hk=>hk.2) (.bool t684)) (fun _ hk=>hk.2) (.slice Ao35 t685.length co35)) (fun _ hk=>hk.2) (.slice Ao36 t688.length co36)) (fun _ h_=>h_.1))))) (Kd.R_lt (by (with_reducible repeat (first|apply Ra|apply Rn|apply Rd));exact (Kd.R_mono (Kd.R_far (p:=⟨gb692,2,none⟩) (Kd.R_far (p:=⟨gb692,1,none⟩) (Kd.R_far (p:=⟨gb692,0,none⟩) (Kd.R_types HO678.out BK692.out (by decide)) (fun _ hk=>hk.2) (.bool t684)) (fun _ hk=>hk.2) (.slice Ao35 t685.length co35)) (fun _ hk=>hk.2) (.slice Ao36 t688.length co36)) (fun _ h_=>h_.1))))) (Kd.R_lt (by (with_reducible repeat (first|apply Ra|apply Rn|apply Rd));exact (Kd.R_mono (Kd.R_far (p:=⟨gb692,2,none⟩) (Kd.R_far (p:=⟨gb692,1,none⟩) (Kd.R_far (p:=⟨gb692,0,none⟩) (Kd.R_types HO681.out BK692.out (by decide)) (fun _ hk=>hk.2) (.bool t684)) (fun _ hk=>hk.2) (.slice Ao35 t685.length co35)) (fun _ hk=>hk.2) (.slice Ao36 t688.length co36)) (fun _ h_=>h_.1))))) (Kd.R_lt (by (with_reducible repeat (first|apply Ra|apply Rn|apply Rd));exact (Kd.R_mono (Kd.R_far (p:=⟨gb692,2,none⟩) (Kd.R_far (p:=⟨gb692,1,none⟩) (Kd.R_far (p:=⟨gb692,0,none⟩) (Kd.R_types HO687.out BK692.out (by decide)) (fun _ hk=>hk.2) (.bool t684)) (fun _ hk=>hk.2) (.slice Ao35 t685.length co35)) (fun _ hk=>hk.2) (.slice Ao36 t688.length co36)) (fun _ h_=>h_.1))))) (Kd.R_lt (by (with_reducible repeat (first|apply Ra|apply Rn|apply Rd));exact (Kd.R_mono (Kd.R_far (p:=⟨gb692,2,none⟩) (Kd.R_far (p:=⟨gb692,1,none⟩) (Kd.R_far (p:=⟨gb692,0,none⟩) (Kd.R_types HO690.out BK692.out (by decide)) (fun _ hk=>hk.2) (.bool t684)) (fun _ hk=>hk.2) (.slice Ao35 t685.length co35)) (fun _ hk=>hk.2) (.slice Ao36 t688.length co36)) (fun _ h_=>h_.1))))) (below_size (by repeat (first|with_reducible exact HB.out|apply ba|apply bn|apply b1|refine below_set ?_ GE674.out|refine below_set ?_ GE683.out|refine below_set ?_ GE692.out))));have n8_:=Aside0.mk (blk_below (g:=gb674) (o:=.cells #[.bool t666,.slice Ao22 t667.length co22,.slice Ao23 t670.length co23] 25 (0,0)) (by (with_reducible repeat (first|refine blk_drewN ?_ _|refine blk_drew ?_|refine blk_alloc ?_ _));refine blk_far ?_ NB674_692.out _;(with_reducible repeat (first|refine blk_drewN ?_ _|refine blk_drew ?_|refine blk_alloc ?_ _));refine blk_far ?_ NB674_692.out _;(with_reducible repeat (first|refine blk_drewN ?_ _|refine blk_drew ?_|refine blk_alloc ?_ _));refine blk_far ?_ NB674_692.out _;(with_reducible repeat (first|refine blk_drewN ?_ _|refine blk_drew ?_|refine blk_alloc ?_ _));exact BK674.out) hb);have n9_:=Aside0.mk (blk_below (g:=gb683) (o:=.cells #[.bool t675,.slice Ao28 t676.length co28,.slice Ao29 t679.length co29] 25 (0,0)) (by (with_reducible repeat (first|refine blk_drewN ?_ _|refine blk_drew ?_|refine blk_alloc ?_ _));refine blk_far ?_ NB683_692.out _;(with_reducible repeat (first|refine blk_drewN ?_ _|refine blk_drew ?_|refine blk_alloc ?_ _));refine blk_far ?_ NB683_692.out _;(with_reducible repeat (first|refine blk_drewN ?_ _|refine blk_drew ?_|refine blk_alloc ?_ _));refine blk_far ?_ NB683_692.out _;(with_reducible repeat (first|refine blk_drewN ?_ _|refine blk_drew ?_|refine blk_alloc ?_ _));exact BK683.out) hb);have n10_:=Aside0.mk (blk_below (g:=gb692) (o:=.cells #[.bool t684,.slice Ao35 t685.length co35,.slice Ao36 t688.length co36] 25 (0,0)) (by (with_reducible repeat (first|refine blk_drewN ?_ _|refine blk_drew ?_|refine blk_alloc ?_ _));refine blk_put (cs:=#[.bool t684,.slice Ao35 t685.length co35,.slice none 0 0]) ?_ 2 _ rfl;(with_reducible repeat (first|refine blk_drewN ?_ _|refine blk_drew ?_|refine blk_alloc ?_ _));refine blk_put (cs:=#[.bool t684,.slice none 0 0,.slice none 0 0]) ?_ 1 _ rfl;(with_reducible repeat (first|refine blk_drewN ?_ _|refine blk_drew ?_|refine blk_alloc ?_ _));refine blk_put (cs:=#[.bool false,.slice none 0 0,.slice none 0 0]) ?_ 0 _ rfl;(with_reducible repeat (first|refine blk_drewN ?_ _|refine blk_drew ?_|refine blk_alloc ?_ _));exact BK692.out) hb);have n11_:=Aside0.mk (below_step (by repeat (first|with_reducible exact HB.out|apply ba|apply bn|apply b1|refine below_set ?_ GE674.out|refine below_set ?_ GE683.out|refine below_set ?_ GE692.out)) hb);clear HO669;clear HO672;clear HO678;clear HO681;clear HO687;clear HO690;clear BK674;clear BK683;clear BK692;clear HB;have HO669:=n0_;have HO672:=n1_;have HO678:=n2_;have HO681:=n3_;have HO687:=n4_;have HO690:=n5_;have HO696:=n6_;have HO699:=n7_;have BK674:=n8_;have BK683:=n9_;have BK692:=n10_;have HB:=n11_;clear n0_ n1_ n2_ n3_ n4_ n5_ n6_ n7_ n8_ n9_ n10_ n11_)|((with_reducible refine gate_dst (N:=7) rfl ?_);(try (refine gate_guard (by rfl) ?_;dsimp only));refine box_event ?hg (N:=7) ?hd (cs:=#[.bool false,.slice none 0 0,.slice none 0 0]) (t:=25) ?hr ?_;(case hd=>rfl);(case hg=>rfl);(case hr=>first|(go_simp;done)|(go_simp;(with_reducible rfl))|(go_simp;rfl)|(go_simp;simp only [hu,Int.emod_sub_emod]));intro gb701 hg w38 hbox hb;have n0_:=Aside0.mk (Kd.R_below (Ru HO669.out) hb);have n1_:=Aside0.mk (Kd.R_below (Ru HO672.out) hb);have n2_:=Aside0.mk (Kd.R_below (Ru HO678.out) hb);have n3_:=Aside0.mk (Kd.R_below (Ru HO681.out) hb);have n4_:=Aside0.mk (Kd.R_below (Ru HO687.out) hb);have n5_:=Aside0.mk (Kd.R_below (Ru HO690.out) hb);have n6_:=Aside0.mk (Kd.R_below (Ru HO696.out) hb);have n7_:=Aside0.mk (Kd.R_below (Ru HO699.out) hb);have n8_:=Aside0.mk (blk_below (g:=gb674) (o:=.cells #[.bool t666,.slice Ao22 t667.length co22,.slice Ao23 t670.length co23] 25 (0,0)) (Bu BK674.out) hb);have n9_:=Aside0.mk (blk_below (g:=gb683) (o:=.cells #[.bool t675,.slice Ao28 t676.length co28,.slice Ao29 t679.length co29] 25 (0,0)) (Bu BK683.out) hb);have n10_:=Aside0.mk (blk_below (g:=gb692) (o:=.cells #[.bool t684,.slice Ao35 t685.length co35,.slice Ao36 t688.length co36] 25 (0,0)) (Bu BK692.out) hb);have n11_:=Aside0.mk (below_step (by repeat (first|with_reducible exact HB.out|apply ba|apply bn|apply b1|refine below_set ?_ GE674.out|refine below_set ?_ GE683.out|refine below_set ?_ GE692.out)) hb);have n12_:=Aside0.mk (hbox);have n13_:=Aside0.mk ((by rw [hg];exact (below_size (by repeat (first|with_reducible exact HB.out|apply ba|apply bn|apply b1|refine below_set ?_ GE674.out|refine below_set ?_ GE683.out|refine below_set ?_ GE692.out))) : w.heap.size ≤ gb701));have n14_:=Aside0.mk ((by rw [hg];exact (below_size (by repeat (first|with_reducible exact HB.out|apply ba|apply bn|apply b1|refine below_set ?_ GE674.out|refine below_set ?_ GE683.out|refine below_set ?_ GE692.out))) : w.heap.size ≤ gb701));have n15_:=Aside0.mk ((by rw [hg];exact Nat.ne_of_lt (blk_lt (g:=gb674) (o:=.cells #[.bool t666,.slice Ao22 t667.length co22,.slice Ao23 t670.length co23] 25 (0,0)) (Bu BK674.out)) : gb674 ≠ gb701));have n16_:=Aside0.mk ((by rw [hg];exact Nat.ne_of_gt (blk_lt (g:=gb674) (o:=.cells #[.bool t666,.slice Ao22 t667.length co22,.slice Ao23 t670.length co23] 25 (0,0)) (Bu BK674.out)) : gb701 ≠ gb674));have n17_:=Aside0.mk ((by rw [hg];exact Nat.ne_of_lt (blk_lt (g:=gb683) (o:=.cells #[.bool t675,.slice Ao28 t676.length co28,.slice Ao29 t679.length co29] 25 (0,0)) (Bu BK683.out)) : gb683 ≠ gb701));have n18_:=Aside0.mk ((by rw [hg];exact Nat.ne_of_gt (blk_lt (g:=gb683) (o:=.cells #[.bool t675,.slice Ao28 t676.length co28,.slice Ao29 t679.length co29] 25 (0,0)) (Bu BK683.out)) : gb701 ≠ gb683));have n19_:=Aside0.mk ((by rw [hg];exact Nat.ne_of_lt (blk_lt (g:=gb692) (o:=.cells #[.bool t684,.slice Ao35 t685.length co35,.slice Ao36 t688.length co36] 25 (0,0)) (Bu BK692.out)) : gb692 ≠ gb701));have n20_:=Aside0.mk ((by rw [hg];exact Nat.ne_of_gt (blk_lt (g:=gb692) (o:=.cells #[.bool t684,.slice Ao35 t685.length co35,.slice Ao36 t688.length co36] 25 (0,0)) (Bu BK692.out)) : gb701 ≠ gb692));clear HO669;clear HO672;clear HO678;clear HO681;clear HO687;clear HO690;clear HO696;clear HO699;clear BK674;clear BK683;clear BK692;clear HB;have HO669:=n0_;have HO672:=n1_;have HO678:=n2_;have HO681:=n3_;have HO687:=n4_;have HO690:=n5_;have HO696:=n6_;have HO699:=n7_;have BK674:=n8_;have BK683:=n9_;have BK692:=n10_;have HB:=n11_;have BK701:=n12_;have GW701:=n13_;have GE701:=n14_;have NB674_701:=n15_;have NB701_674:=n16_;have NB683_701:=n17_;have NB701_683:=n18_;have NB692_701:=n19_;have NB701_692:=n20_;clear n0_ n1_ n2_ n3_ n4_ n5_ n6_ n7_ n8_ n9_ n10_ n11_ n12_ n13_ n14_ n15_ n16_ n17_ n18_ n19_ n20_;clear hb hbox hg;have hnb39:=NB701_674.out;have hnc39:=NB674_701.out;have hnb40:=NB701_683.out;have hnc40:=NB683_701.out;have hnb41:=NB701_692.out;have hnc41:=NB692_701.out;have hcz42_0 : w38.cell? ⟨gb701,0,none⟩ = some (.bool false):=(blk_cell BK701.out 0).trans rfl;have hcz42_1 : w38.cell? ⟨gb701,1,none⟩ = some (.slice none 0 0):=(blk_cell BK701.out 1).trans rfl;have hcz42_2 : w38.cell? ⟨gb701,2,none⟩ = some (.slice none 0 0):=(blk_cell BK701.out 2).trans rfl;have hfz42_0:=blk_frozen BK701.out 0;have hfz42_1:=blk_frozen BK701.out 1;have hfz42_2:=blk_frozen BK701.out 2;obtain ⟨Ao43,co43,eo43⟩:=Kd.R_slice HO696.out;subst eo43;obtain ⟨Ao44,co44,eo44⟩:=Kd.R_slice HO699.out;subst eo44))
   have n0_ : Aside0 (Kd.R (Kd.int .u32) 35 (((w38.setCell ⟨gb701,0,none⟩ (.bool t693)).setCell ⟨gb701,1,none⟩ (.slice Ao43 t694.length co43)).setCell ⟨gb701,2,none⟩ (.slice Ao44 t697.length co44)) w.heap.size (fun k_=>some k_ ≠ (.slice Ao23 t670.length co23 : Value).ownBlock ∧ some k_ ≠ (.slice Ao28 t676.length co28 : Value).ownBlock ∧ some k_ ≠ (.slice Ao29 t679.length co29 : Value).ownBlock ∧ some k_ ≠ (.slice Ao35 t685.length co35 : Value).ownBlock ∧ some k_ ≠ (.slice Ao36 t688.length co36 : Value).ownBlock ∧ some k_ ≠ (.slice Ao43 t694.length co43 : Value).ownBlock ∧ some k_ ≠ (.slice Ao44 t697.length co44 : Value).ownBlock) (.slice Ao22 t667.length co22) t667):=⟨by (with_reducible repeat (first|apply Ra|apply Rn|apply Rd));exact Kd.R_mono (Kd.R_far (p:=⟨gb701,2,none⟩) (Kd.R_far (p:=⟨gb701,1,none⟩) (Kd.R_far (p:=⟨gb701,0,none⟩) (Kd.R_types HO669.out BK701.out (by decide)) (fun _ hk=>hk.2) (.bool t693)) (fun _ hk=>hk.2) (.slice Ao43 t694.length co43)) (fun _ hk=>hk.2) (.slice Ao44 t697.length co44)) (fun _ hk=>⟨hk.1.1.1.1.1.1.1,⟨hk.1.1.1.1.1.1.2,⟨hk.1.1.1.1.1.2,⟨hk.1.1.1.1.2,⟨hk.1.1.1.2,⟨hk.1.1.2,hk.1.2⟩⟩⟩⟩⟩⟩)⟩
   have n1_ : Aside0 (Kd.R (Kd.int .u32) 35 (((w38.setCell ⟨gb701,0,none⟩ (.bool t693)).setCell ⟨gb701,1,none⟩ (.slice Ao43 t694.length co43)).setCell ⟨gb701,2,none⟩ (.slice Ao44 t697.length co44)) w.heap.size (fun k_=>some k_ ≠ (.slice Ao22 t667.length co22 : Value).ownBlock ∧ some k_ ≠ (.slice Ao28 t676.length co28 : Value).ownBlock ∧ some k_ ≠ (.slice Ao29 t679.length co29 : Value).ownBlock ∧ some k_ ≠ (.slice Ao35 t685.length co35 : Value).ownBlock ∧ some k_ ≠ (.slice Ao36 t688.length co36 : Value).ownBlock ∧ some k_ ≠ (.slice Ao43 t694.length co43 : Value).ownBlock ∧ some k_ ≠ (.slice Ao44 t697.length co44 : Value).ownBlock) (.slice Ao23 t670.length co23) t670):=⟨by (with_reducible repeat (first|apply Ra|apply Rn|apply Rd));exact Kd.R_mono (Kd.R_far (p:=⟨gb701,2,none⟩) (Kd.R_far (p:=⟨gb701,1,none⟩) (Kd.R_far (p:=⟨gb701,0,none⟩) (Kd.R_types HO672.out BK701.out (by decide)) (fun _ hk=>hk.2) (.bool t693)) (fun _ hk=>hk.2) (.slice Ao43 t694.length co43)) (fun _ hk=>hk.2) (.slice Ao44 t697.length co44)) (fun _ hk=>⟨hk.1.1.1.1.1.1.1,⟨hk.1.1.1.1.1.1.2,⟨hk.1.1.1.1.1.2,⟨hk.1.1.1.1.2,⟨hk.1.1.1.2,⟨hk.1.1.2,hk.1.2⟩⟩⟩⟩⟩⟩)⟩
   have n2_ : Aside0 (Kd.R (Kd.int .u32) 35 (((w38.setCell ⟨gb701,0,none⟩ (.bool t693)).setCell ⟨gb701,1,none⟩ (.slice Ao43 t694.length co43)).setCell ⟨gb701,2,none⟩ (.slice Ao44 t697.length co44)) w.heap.size (fun k_=>some k_ ≠ (.slice Ao22 t667.length co22 : Value).ownBlock ∧ some k_ ≠ (.slice Ao23 t670.length co23 : Value).ownBlock ∧ some k_ ≠ (.slice Ao29 t679.length co29 : Value).ownBlock ∧ some k_ ≠ (.slice Ao35 t685.length co35 : Value).ownBlock ∧ some k_ ≠ (.slice Ao36 t688.length co36 : Value).ownBlock ∧ some k_ ≠ (.slice Ao43 t694.length co43 : Value).ownBlock ∧ some k_ ≠ (.slice Ao44 t697.length co44 : Value).ownBlock) (.slice Ao28 t676.length co28) t676):=⟨by (with_reducible repeat (first|apply Ra|apply Rn|apply Rd));exact Kd.R_mono (Kd.R_far (p:=⟨gb701,2,none⟩) (Kd.R_far (p:=⟨gb701,1,none⟩) (Kd.R_far (p:=⟨gb701,0,none⟩) (Kd.R_types HO678.out BK701.out (by decide)) (fun _ hk=>hk.2) (.bool t693)) (fun _ hk=>hk.2) (.slice Ao43 t694.length co43)) (fun _ hk=>hk.2) (.slice Ao44 t697.length co44)) (fun _ hk=>⟨hk.1.1.1.1.1.1.2,⟨hk.1.1.1.1.1.2,⟨hk.1.1.1.1.1.1.1,⟨hk.1.1.1.1.2,⟨hk.1.1.1.2,⟨hk.1.1.2,hk.1.2⟩⟩⟩⟩⟩⟩)⟩
   have n3_ : Aside0 (Kd.R (Kd.int .u32) 35 (((w38.setCell ⟨gb701,0,none⟩ (.bool t693)).setCell ⟨gb701,1,none⟩ (.slice Ao43 t694.length co43)).setCell ⟨gb701,2,none⟩ (.slice Ao44 t697.length co44)) w.heap.size (fun k_=>some k_ ≠ (.slice Ao22 t667.length co22 : Value).ownBlock ∧ some k_ ≠ (.slice Ao23 t670.length co23 : Value).ownBlock ∧ some k_ ≠ (.slice Ao28 t676.length co28 : Value).ownBlock ∧ some k_ ≠ (.slice Ao35 t685.length co35 : Value).ownBlock ∧ some k_ ≠ (.slice Ao36 t688.length co36 : Value).ownBlock ∧ some k_ ≠ (.slice Ao43 t694.length co43 : Value).ownBlock ∧ some k_ ≠ (.slice Ao44 t697.length co44 : Value).ownBlock) (.slice Ao29 t679.length co29) t679):=⟨by (with_reducible repeat (first|apply Ra|apply Rn|apply Rd));exact Kd.R_mono (Kd.R_far (p:=⟨gb701,2,none⟩) (Kd.R_far (p:=⟨gb701,1,none⟩) (Kd.R_far (p:=⟨gb701,0,none⟩) (Kd.R_types HO681.out BK701.out (by decide)) (fun _ hk=>hk.2) (.bool t693)) (fun _ hk=>hk.2) (.slice Ao43 t694.length co43)) (fun _ hk=>hk.2) (.slice Ao44 t697.length co44)) (fun _ hk=>⟨hk.1.1.1.1.1.1.2,⟨hk.1.1.1.1.1.2,⟨hk.1.1.1.1.1.1.1,⟨hk.1.1.1.1.2,⟨hk.1.1.1.2,⟨hk.1.1.2,hk.1.2⟩⟩⟩⟩⟩⟩)⟩
   have n4_ : Aside0 (Kd.R (Kd.int .u32) 35 (((w38.setCell ⟨gb701,0,none⟩ (.bool t693)).setCell ⟨gb701,1,none⟩ (.slice Ao43 t694.length co43)).setCell ⟨gb701,2,none⟩ (.slice Ao44 t697.length co44)) w.heap.size (fun k_=>some k_ ≠ (.slice Ao22 t667.length co22 : Value).ownBlock ∧ some k_ ≠ (.slice Ao23 t670.length co23 : Value).ownBlock ∧ some k_ ≠ (.slice Ao28 t676.length co28 : Value).ownBlock ∧ some k_ ≠ (.slice Ao29 t679.length co29 : Value).ownBlock ∧ some k_ ≠ (.slice Ao36 t688.length co36 : Value).ownBlock ∧ some k_ ≠ (.slice Ao43 t694.length co43 : Value).ownBlock ∧ some k_ ≠ (.slice Ao44 t697.length co44 : Value).ownBlock) (.slice Ao35 t685.length co35) t685):=⟨by (with_reducible repeat (first|apply Ra|apply Rn|apply Rd));exact Kd.R_mono (Kd.R_far (p:=⟨gb701,2,none⟩) (Kd.R_far (p:=⟨gb701,1,none⟩) (Kd.R_far (p:=⟨gb701,0,none⟩) (Kd.R_types HO687.out BK701.out (by decide)) (fun _ hk=>hk.2) (.bool t693)) (fun _ hk=>hk.2) (.slice Ao43 t694.length co43)) (fun _ hk=>hk.2) (.slice Ao44 t697.length co44)) (fun _ hk=>⟨hk.1.1.1.1.1.1.2,⟨hk.1.1.1.1.1.2,⟨hk.1.1.1.1.2,⟨hk.1.1.1.2,⟨hk.1.1.1.1.1.1.1,⟨hk.1.1.2,hk.1.2⟩⟩⟩⟩⟩⟩)⟩
   have n5_ : Aside0 (Kd.R (Kd.int .u32) 35 (((w38.setCell ⟨gb701,0,none⟩ (.bool t693)).setCell ⟨gb701,1,none⟩ (.slice Ao43 t694.length co43)).setCell ⟨gb701,2,none⟩ (.slice Ao44 t697.length co44)) w.heap.size (fun k_=>some k_ ≠ (.slice Ao22 t667.length co22 : Value).ownBlock ∧ some k_ ≠ (.slice Ao23 t670.length co23 : Value).ownBlock ∧ some k_ ≠ (.slice Ao28 t676.length co28 : Value).ownBlock ∧ some k_ ≠ (.slice Ao29 t679.length co29 : Value).ownBlock ∧ some k_ ≠ (.slice Ao35 t685.length co35 : Value).ownBlock ∧ some k_ ≠ (.slice Ao43 t694.length co43 : Value).ownBlock ∧ some k_ ≠ (.slice Ao44 t697.length co44 : Value).ownBlock) (.slice Ao36 t688.length co36) t688):=⟨by (with_reducible repeat (first|apply Ra|apply Rn|apply Rd));exact Kd.R_mono (Kd.R_far (p:=⟨gb701,2,none⟩) (Kd.R_far (p:=⟨gb701,1,none⟩) (Kd.R_far (p:=⟨gb701,0,none⟩) (Kd.R_types HO690.out BK701.out (by decide)) (fun _ hk=>hk.2) (.bool t693)) (fun _ hk=>hk.2) (.slice Ao43 t694.length co43)) (fun _ hk=>hk.2) (.slice Ao44 t697.length co44)) (fun _ hk=>⟨hk.1.1.1.1.1.1.2,⟨hk.1.1.1.1.1.2,⟨hk.1.1.1.1.2,⟨hk.1.1.1.2,⟨hk.1.1.1.1.1.1.1,⟨hk.1.1.2,hk.1.2⟩⟩⟩⟩⟩⟩)⟩
   have n6_ : Aside0 (Kd.R (Kd.int .u32) 35 (((w38.setCell ⟨gb701,0,none⟩ (.bool t693)).setCell ⟨gb701,1,none⟩ (.slice Ao43 t694.length co43)).setCell ⟨gb701,2,none⟩ (.slice Ao44 t697.length co44)) w.heap.size (fun k_=>some k_ ≠ (.slice Ao22 t667.length co22 : Value).ownBlock ∧ some k_ ≠ (.slice Ao23 t670.length co23 : Value).ownBlock ∧ some k_ ≠ (.slice Ao28 t676.length co28 : Value).ownBlock ∧ some k_ ≠ (.slice Ao29 t679.length co29 : Value).ownBlock ∧ some k_ ≠ (.slice Ao35 t685.length co35 : Value).ownBlock ∧ some k_ ≠ (.slice Ao36 t688.length co36 : Value).ownBlock ∧ some k_ ≠ (.slice Ao44 t697.length co44 : Value).ownBlock) (.slice Ao43 t694.length co43) t694):=⟨by (with_reducible repeat (first|apply Ra|apply Rn|apply Rd));exact Kd.R_mono (Kd.R_far (p:=⟨gb701,2,none⟩) (Kd.R_far (p:=⟨gb701,1,none⟩) (Kd.R_far (p:=⟨gb701,0,none⟩) (Kd.R_types HO696.out BK701.out (by decide)) (fun _ hk=>hk.2) (.bool t693)) (fun _ hk=>hk.2) (.slice Ao43 t694.length co43)) (fun _ hk=>hk.2) (.slice Ao44 t697.length co44)) (fun _ hk=>⟨hk.1.1.1.1.1.1.2,⟨hk.1.1.1.1.1.2,⟨hk.1.1.1.1.2,⟨hk.1.1.1.2,⟨hk.1.1.2,⟨hk.1.2,hk.1.1.1.1.1.1.1⟩⟩⟩⟩⟩⟩)⟩
   have n7_ : Aside0 (Kd.R (Kd.int .u32) 35 (((w38.setCell ⟨gb701,0,none⟩ (.bool t693)).setCell ⟨gb701,1,none⟩ (.slice Ao43 t694.length co43)).setCell ⟨gb701,2,none⟩ (.slice Ao44 t697.length co44)) w.heap.size (fun k_=>some k_ ≠ (.slice Ao22 t667.length co22 : Value).ownBlock ∧ some k_ ≠ (.slice Ao23 t670.length co23 : Value).ownBlock ∧ some k_ ≠ (.slice Ao28 t676.length co28 : Value).ownBlock ∧ some k_ ≠ (.slice Ao29 t679.length co29 : Value).ownBlock ∧ some k_ ≠ (.slice Ao35 t685.length co35 : Value).ownBlock ∧ some k_ ≠ (.slice Ao36 t688.length co36 : Value).ownBlock ∧ some k_ ≠ (.slice Ao43 t694.length co43 : Value).ownBlock) (.slice Ao44 t697.length co44) t697):=⟨by (with_reducible repeat (first|apply Ra|apply Rn|apply Rd));exact Kd.R_mono (Kd.R_far (p:=⟨gb701,2,none⟩) (Kd.R_far (p:=⟨gb701,1,none⟩) (Kd.R_far (p:=⟨gb701,0,none⟩) (Kd.R_types HO699.out BK701.out (by decide)) (fun _ hk=>hk.2) (.bool t693)) (fun _ hk=>hk.2) (.slice Ao43 t694.length co43)) (fun _ hk=>hk.2) (.slice Ao44 t697.length co44)) (fun _ hk=>⟨hk.1.1.1.1.1.1.2,⟨hk.1.1.1.1.1.2,⟨hk.1.1.1.1.2,⟨hk.1.1.1.2,⟨hk.1.1.2,⟨hk.1.2,hk.1.1.1.1.1.1.1⟩⟩⟩⟩⟩⟩)⟩
   have n8_ : Aside0 ((((w38.setCell ⟨gb701,0,none⟩ (.bool t693)).setCell ⟨gb701,1,none⟩ (.slice Ao43 t694.length co43)).setCell ⟨gb701,2,none⟩ (.slice Ao44 t697.length co44)).heap[gb674]? = some (.cells #[.bool t666,.slice Ao22 t667.length co22,.slice Ao23 t670.length co23] 25 (0,0))):=⟨by (with_reducible repeat (first|refine blk_drewN ?_ _|refine blk_drew ?_|refine blk_alloc ?_ _));refine blk_far ?_ NB674_701.out _;(with_reducible repeat (first|refine blk_drewN ?_ _|refine blk_drew ?_|refine blk_alloc ?_ _));refine blk_far ?_ NB674_701.out _;(with_reducible repeat (first|refine blk_drewN ?_ _|refine blk_drew ?_|refine blk_alloc ?_ _));refine blk_far ?_ NB674_701.out _;(with_reducible repeat (first|refine blk_drewN ?_ _|refine blk_drew ?_|refine blk_alloc ?_ _));exact BK674.out⟩
   have n9_ : Aside0 ((((w38.setCell ⟨gb701,0,none⟩ (.bool t693)).setCell ⟨gb701,1,none⟩ (.slice Ao43 t694.length co43)).setCell ⟨gb701,2,none⟩ (.slice Ao44 t697.length co44)).heap[gb683]? = some (.cells #[.bool t675,.slice Ao28 t676.length co28,.slice Ao29 t679.length co29] 25 (0,0))):=⟨by (with_reducible repeat (first|refine blk_drewN ?_ _|refine blk_drew ?_|refine blk_alloc ?_ _));refine blk_far ?_ NB683_701.out _;(with_reducible repeat (first|refine blk_drewN ?_ _|refine blk_drew ?_|refine blk_alloc ?_ _));refine blk_far ?_ NB683_701.out _;(with_reducible repeat (first|refine blk_drewN ?_ _|refine blk_drew ?_|refine blk_alloc ?_ _));refine blk_far ?_ NB683_701.out _;(with_reducible repeat (first|refine blk_drewN ?_ _|refine blk_drew ?_|refine blk_alloc ?_ _));exact BK683.out⟩
   have n10_ : Aside0 ((((w38.setCell ⟨gb701,0,none⟩ (.bool t693)).setCell ⟨gb701,1,none⟩ (.slice Ao43 t694.length co43)).setCell ⟨gb701,2,none⟩ (.slice Ao44 t697.length co44)).heap[gb692]? = some (.cells #[.bool t684,.slice Ao35 t685.length co35,.slice Ao36 t688.length co36] 25 (0,0))):=⟨by (with_reducible repeat (first|refine blk_drewN ?_ _|refine blk_drew ?_|refine blk_alloc ?_ _));refine blk_far ?_ NB692_701.out _;(with_reducible repeat (first|refine blk_drewN ?_ _|refine blk_drew ?_|refine blk_alloc ?_ _));refine blk_far ?_ NB692_701.out _;(with_reducible repeat (first|refine blk_drewN ?_ _|refine blk_drew ?_|refine blk_alloc ?_ _));refine blk_far ?_ NB692_701.out _;(with_reducible repeat (first|refine blk_drewN ?_ _|refine blk_drew ?_|refine blk_alloc ?_ _));exact BK692.out⟩
   have n11_ : Aside0 ((((w38.setCell ⟨gb701,0,none⟩ (.bool t693)).setCell ⟨gb701,1,none⟩ (.slice Ao43 t694.length co43)).setCell ⟨gb701,2,none⟩ (.slice Ao44 t697.length co44)).heap[gb701]? = some (.cells #[.bool t693,.slice Ao43 t694.length co43,.slice Ao44 t697.length co44] 25 (0,0))):=⟨by (with_reducible repeat (first|refine blk_drewN ?_ _|refine blk_drew ?_|refine blk_alloc ?_ _));refine blk_put (cs:=#[.bool t693,.slice Ao43 t694.length co43,.slice none 0 0]) ?_ 2 _ rfl;(with_reducible repeat (first|refine blk_drewN ?_ _|refine blk_drew ?_|refine blk_alloc ?_ _));refine blk_put (cs:=#[.bool t693,.slice none 0 0,.slice none 0 0]) ?_ 1 _ rfl;(with_reducible repeat (first|refine blk_drewN ?_ _|refine blk_drew ?_|refine blk_alloc ?_ _));refine blk_put (cs:=#[.bool false,.slice none 0 0,.slice none 0 0]) ?_ 0 _ rfl;(with_reducible repeat (first|refine blk_drewN ?_ _|refine blk_drew ?_|refine blk_alloc ?_ _));exact BK701.out⟩
   have n12_ : Aside0 (Below w.heap.size w (((w38.setCell ⟨gb701,0,none⟩ (.bool t693)).setCell ⟨gb701,1,none⟩ (.slice Ao43 t694.length co43)).setCell ⟨gb701,2,none⟩ (.slice Ao44 t697.length co44))):=⟨by repeat (first|with_reducible exact HB.out|apply ba|apply bn|apply b1|refine below_set ?_ GE674.out|refine below_set ?_ GE683.out|refine below_set ?_ GE692.out|refine below_set ?_ GE701.out)⟩
   (try clear HO669)
   (try clear HO672)
   (try clear HO678)
   (try clear HO681)
   (try clear HO687)
   (try clear HO690)
   (try clear HO696)
   (try clear HO699)
   (try clear BK674)
   (try clear BK683)
   (try clear BK692)
   (try clear BK701)
   (try clear HB)
   generalize (((w38.setCell ⟨gb701,0,none⟩ (.bool t693)).setCell ⟨gb701,1,none⟩ (.slice Ao43 t694.length co43)).setCell ⟨gb701,2,none⟩ (.slice Ao44 t697.length co44)) = w45 at n0_ n1_ n2_ n3_ n4_ n5_ n6_ n7_ n8_ n9_ n10_ n11_ n12_ ⊢
   have HO669:=n0_
   have HO672:=n1_
   have HO678:=n2_
   have HO681:=n3_
   have HO687:=n4_
   have HO690:=n5_
   have HO696:=n6_
   have HO699:=n7_
   have BK674:=n8_
   have BK683:=n9_
   have BK692:=n10_
   have BK701:=n11_
   have HB:=n12_
   clear n0_ n1_ n2_ n3_ n4_ n5_ n6_ n7_ n8_ n9_ n10_ n11_ n12_
   have n0_:=Aside0.mk (Rd HO669.out)
   have n1_:=Aside0.mk (Rd HO672.out)
   have n2_:=Aside0.mk (Rd HO678.out)
   have n3_:=Aside0.mk (Rd HO681.out)
   have n4_:=Aside0.mk (Rd HO687.out)
   have n5_:=Aside0.mk (Rd HO690.out)
   have n6_:=Aside0.mk (Rd HO696.out)
   have n7_:=Aside0.mk (Rd HO699.out)
   have n8_:=Aside0.mk (blk_drew BK674.out)
   have n9_:=Aside0.mk (blk_drew BK683.out)
   have n10_:=Aside0.mk (blk_drew BK692.out)
   have n11_:=Aside0.mk (blk_drew BK701.out)
   have n12_:=Aside0.mk (b1 HB.out)
   clear HO669
   clear HO672
   clear HO678
   clear HO681
   clear HO687
   clear HO690
   clear HO696
   clear HO699
   clear BK674
   clear BK683
   clear BK692
   clear BK701
   clear HB
   have HO669:=n0_
   have HO672:=n1_
   have HO678:=n2_
   have HO681:=n3_
   have HO687:=n4_
   have HO690:=n5_
   have HO696:=n6_
   have HO699:=n7_
   have BK674:=n8_
   have BK683:=n9_
   have BK692:=n10_
   have BK701:=n11_
   have HB:=n12_
   clear n0_ n1_ n2_ n3_ n4_ n5_ n6_ n7_ n8_ n9_ n10_ n11_ n12_
   refine start_ (n:=35) (S:=fun w'=>w'.cell? ⟨gb674,0,none⟩ = some (.bool t666) ∧ w'.cell? ⟨gb674,1,none⟩ = some (.slice Ao22 t667.length co22) ∧ w'.cell? ⟨gb674,2,none⟩ = some (.slice Ao23 t670.length co23) ∧ w'.cell? ⟨gb683,0,none⟩ = some (.bool t675) ∧ w'.cell? ⟨gb683,1,none⟩ = some (.slice Ao28 t676.length co28) ∧ w'.cell? ⟨gb683,2,none⟩ = some (.slice Ao29 t679.length co29)) (ds:=[]) #[false,false,false,false,false,false,false,false,false,false,false,false,false,false,false,false,false,false,false,false,false,false,false,false,false,false,false,false,false,false,false,false,false,false,false] (by kernel_rfl) rfl rfl ⟨(blk_cell BK674.out 0).trans rfl,(blk_cell BK674.out 1).trans rfl,(blk_cell BK674.out 2).trans rfl,(blk_cell BK683.out 0).trans rfl,(blk_cell BK683.out 1).trans rfl,(blk_cell BK683.out 2).trans rfl⟩ (fun hHeld=>?_);refine with_tabW penumbralaw04_fixed.tab5 penumbralaw04_fixed.bits5 (fun HT_ HW_=>?_)
   generalize w45.drew = w46 at HO669 HO672 HO678 HO681 HO687 HO690 HO696 HO699 BK674 BK683 BK692 BK701 HB hHeld ⊢
   refine pv (i:=0) (N:=some 25) (v:=?_) (a':=?_) rfl rfl (any_of HT_.out (by kernel_rfl)) (Or.inl ⟨by rfl,?_⟩) ?_ ?_
   rotate_left
   ·intro w'
    go_simp
    with_reducible rfl
   rotate_left
   ·simp only [Act.put,s0,s1,s2,i64_w,i32_w]
    rfl
   refine pv (i:=1) (N:=some 26) (v:=?_) (a':=?_) rfl rfl (any_of HT_.out (by kernel_rfl)) (Or.inl ⟨by rfl,?_⟩) ?_ ?_
   rotate_left
   ·intro w'
    go_simp
    with_reducible rfl
   rotate_left
   ·simp only [Act.put,s0,s1,s2,i64_w,i32_w]
    rfl
   refine pv (i:=2) (N:=some 27) (v:=?_) (a':=?_) rfl rfl (any_of HT_.out (by kernel_rfl)) (Or.inl ⟨by rfl,?_⟩) ?_ ?_
   rotate_left
   ·intro w'
    go_simp
    with_reducible rfl
   rotate_left
   ·simp only [Act.put,s0,s1,s2,i64_w,i32_w]
    rfl
   refine take_ (i:=3) (N:=some 28) (v:=?_) (a':=?_) #[true,true,true,true,false,false,false,false,false,false,false,false,false,false,false,false,false,false,false,false,false,false,false,false,false,false,false,false,false,false,false,false,false,false,false] rfl rfl (take_ofW HT_.out HW_.out (by kernel_rfl)) (fun _ _ _ h=>h) (Or.inl ⟨by rfl,?_⟩) hHeld ?_ ?_
   rotate_left
   ·rintro w' ⟨s0,s1,s2,s3,s4,s5⟩
    go_simp
    with_reducible rfl
   rotate_left
   ·simp only [Act.put,s0,s1,s2,i64_w,i32_w]
    rfl
   refine one_ (i:=4) (N:=some 29) #[true,true,true,true,true,false,false,false,false,false,false,false,false,false,false,false,false,false,false,false,false,false,false,false,false,false,false,false,false,false,false,false,false,false,false] rfl rfl (one_of HT_.out (by kernel_rfl)) (by decide) (fun K hK=>?_)
   refine goes_ Tryd.func23 (by kernel_rfl) rfl #[.int .i64 1,.int .i64 8] (by rfl) rfl rfl (by (try simp only [List.map_toArray,List.map_cons,List.map_nil]);first|done|rfl) ?_
   with_reducible refine (penumbraref03_Of.calls k 1 8 t702 t703 t706 _ A6.out).mono ?_
   rintro e w47 ⟨v704,v707,rfl,ho0,ho1,hb⟩
   refine ⟨_,rfl,?_⟩
   have n0_:=Aside0.mk (Kd.R_mono (Kd.R_told (Kd.R_told (Kd.R_old (Ru HO669.out) hb) (Kd.R_base ho0)) (Kd.R_base ho1)) (fun _ h_=>h_.1))
   have n1_:=Aside0.mk (Kd.R_mono (Kd.R_told (Kd.R_told (Kd.R_old (Ru HO672.out) hb) (Kd.R_base ho0)) (Kd.R_base ho1)) (fun _ h_=>h_.1))
   have n2_:=Aside0.mk (Kd.R_mono (Kd.R_told (Kd.R_told (Kd.R_old (Ru HO678.out) hb) (Kd.R_base ho0)) (Kd.R_base ho1)) (fun _ h_=>h_.1))
   have n3_:=Aside0.mk (Kd.R_mono (Kd.R_told (Kd.R_told (Kd.R_old (Ru HO681.out) hb) (Kd.R_base ho0)) (Kd.R_base ho1)) (fun _ h_=>h_.1))
   have n4_:=Aside0.mk (Kd.R_mono (Kd.R_told (Kd.R_told (Kd.R_old (Ru HO687.out) hb) (Kd.R_base ho0)) (Kd.R_base ho1)) (fun _ h_=>h_.1))
   have n5_:=Aside0.mk (Kd.R_mono (Kd.R_told (Kd.R_told (Kd.R_old (Ru HO690.out) hb) (Kd.R_base ho0)) (Kd.R_base ho1)) (fun _ h_=>h_.1))
   have n6_:=Aside0.mk (Kd.R_mono (Kd.R_told (Kd.R_told (Kd.R_old (Ru HO696.out) hb) (Kd.R_base ho0)) (Kd.R_base ho1)) (fun _ h_=>h_.1))
   have n7_:=Aside0.mk (Kd.R_mono (Kd.R_told (Kd.R_told (Kd.R_old (Ru HO699.out) hb) (Kd.R_base ho0)) (Kd.R_base ho1)) (fun _ h_=>h_.1))
   have n8_:=Aside0.mk (Kd.R_lower (Kd.R_new' (Kd.R_new' (Kd.R_new' (Kd.R_new' (Kd.R_new' (Kd.R_new' (Kd.R_new' (Kd.R_new' ho0 (Kd.R_lt (Ru HO669.out))) (Kd.R_lt (Ru HO672.out))) (Kd.R_lt (Ru HO678.out))) (Kd.R_lt (Ru HO681.out))) (Kd.R_lt (Ru HO687.out))) (Kd.R_lt (Ru HO690.out))) (Kd.R_lt (Ru HO696.out))) (Kd.R_lt (Ru HO699.out))) (below_size (by repeat (first|with_reducible exact HB.out|apply ba|apply bn|apply b1|refine below_set ?_ GE674.out|refine below_set ?_ GE683.out|refine below_set ?_ GE692.out|refine below_set ?_ GE701.out))))
   have n9_:=Aside0.mk (Kd.R_lower (Kd.R_new' (Kd.R_new' (Kd.R_new' (Kd.R_new' (Kd.R_new' (Kd.R_new' (Kd.R_new' (Kd.R_new' ho1 (Kd.R_lt (Ru HO669.out))) (Kd.R_lt (Ru HO672.out))) (Kd.R_lt (Ru HO678.out))) (Kd.R_lt (Ru HO681.out))) (Kd.R_lt (Ru HO687.out))) (Kd.R_lt (Ru HO690.out))) (Kd.R_lt (Ru HO696.out))) (Kd.R_lt (Ru HO699.out))) (below_size (by repeat (first|with_reducible exact HB.out|apply ba|apply bn|apply b1|refine below_set ?_ GE674.out|refine below_set ?_ GE683.out|refine below_set ?_ GE692.out|refine below_set ?_ GE701.out))))
   have n10_:=Aside0.mk (blk_below (g:=gb674) (o:=.cells #[.bool t666,.slice Ao22 t667.length co22,.slice Ao23 t670.length co23] 25 (0,0)) (Bu BK674.out) hb)
   have n11_:=Aside0.mk (blk_below (g:=gb683) (o:=.cells #[.bool t675,.slice Ao28 t676.length co28,.slice Ao29 t679.length co29] 25 (0,0)) (Bu BK683.out) hb)
   have n12_:=Aside0.mk (blk_below (g:=gb692) (o:=.cells #[.bool t684,.slice Ao35 t685.length co35,.slice Ao36 t688.length co36] 25 (0,0)) (Bu BK692.out) hb)
   have n13_:=Aside0.mk (blk_below (g:=gb701) (o:=.cells #[.bool t693,.slice Ao43 t694.length co43,.slice Ao44 t697.length co44] 25 (0,0)) (Bu BK701.out) hb)
   have n14_:=Aside0.mk (below_step (by repeat (first|with_reducible exact HB.out|apply ba|apply bn|apply b1|refine below_set ?_ GE674.out|refine below_set ?_ GE683.out|refine below_set ?_ GE692.out|refine below_set ?_ GE701.out)) hb)
   clear HO669
   clear HO672
   clear HO678
   clear HO681
   clear HO687
   clear HO690
   clear HO696
   clear HO699
   clear BK674
   clear BK683
   clear BK692
   clear BK701
   clear HB
   have HO669:=n0_
   have HO672:=n1_
   have HO678:=n2_
   have HO681:=n3_
   have HO687:=n4_
   have HO690:=n5_
   have HO696:=n6_
   have HO699:=n7_
   have HO705:=n8_
   have HO708:=n9_
   have BK674:=n10_
   have BK683:=n11_
   have BK692:=n12_
   have BK701:=n13_
   have HB:=n14_
   clear n0_ n1_ n2_ n3_ n4_ n5_ n6_ n7_ n8_ n9_ n10_ n11_ n12_ n13_ n14_
   (try clear hb)
   (try clear hb2)
   (try clear hk)
   (try clear hi)
   (try clear ho0)
   (try clear ho1)
   obtain ⟨Ao48,co48,eo48⟩:=Kd.R_slice HO705.out
   (first|subst eo48|(injection eo48 with f1_ f2_ f3_;have f4_:=f1_.symm;have f5_:=f3_.symm;clear f1_ f2_ f3_;subst f4_;subst f5_))
   obtain ⟨Ao49,co49,eo49⟩:=Kd.R_slice HO708.out
   (first|subst eo49|(injection eo49 with f1_ f2_ f3_;have f4_:=f1_.symm;have f5_:=f3_.symm;clear f1_ f2_ f3_;subst f4_;subst f5_))
   refine hK.out _ _ ⟨(blk_cell BK674.out 0).trans rfl,(blk_cell BK674.out 1).trans rfl,(blk_cell BK674.out 2).trans rfl,(blk_cell BK683.out 0).trans rfl,(blk_cell BK683.out 1).trans rfl,(blk_cell BK683.out 2).trans rfl⟩ (fun hHeld=>?_)
   clear hK K
   refine norm_ (a':=?_) ?_ ?_
   rotate_left
   ·show Act.put _ (some 29) _ = _
    simp only [Act.put,s0,s1,s2,i64_w,i32_w]
    rfl
   refine one_ (i:=5) (N:=some 30) #[true,true,true,true,true,true,false,false,false,false,false,false,false,false,false,false,false,false,false,false,false,false,false,false,false,false,false,false,false,false,false,false,false,false,false] rfl rfl (one_of HT_.out (by kernel_rfl)) (by decide) (fun K hK=>?_)
   refine goes_ Tryd.func11 (by kernel_rfl) rfl #[.agg #[.bool t666,.slice Ao22 t667.length co22,.slice Ao23 t670.length co23],.agg #[.bool t702,.slice Ao48 t703.length co48,.slice Ao49 t706.length co49]] (by rfl) rfl rfl (by (try simp only [List.map_toArray,List.map_cons,List.map_nil]);first|done|rfl) ?_
   with_reducible refine (penumbraref03_Is.calls k t666 _ _ t667 _ _ t670 t702 _ _ t703 _ _ t706 true _ ?side1 ?side2 ?side3 ?side4 ?side5 ?side6 ?side7 ?side8 A7.out).mono ?_
   (case side1=>exact Cu (Kd.R_reads' HO669.out).2.2)
   (case side2=>exact (Kd.R_reads' HO669.out).2.1)
   (case side3=>exact Cu (Kd.R_reads' HO672.out).2.2)
   (case side4=>exact (Kd.R_reads' HO672.out).2.1)
   (case side5=>exact Cu (Kd.R_reads' HO705.out).2.2)
   (case side6=>exact (Kd.R_reads' HO705.out).2.1)
   (case side7=>exact Cu (Kd.R_reads' HO708.out).2.2)
   (case side8=>exact (Kd.R_reads' HO708.out).2.1)
   rintro e w50 ⟨rfl,hb⟩
   refine ⟨_,rfl,?_⟩
   have n0_:=Aside0.mk (Kd.R_below (Ru HO669.out) hb)
   have n1_:=Aside0.mk (Kd.R_below (Ru HO672.out) hb)
   have n2_:=Aside0.mk (Kd.R_below (Ru HO678.out) hb)
   have n3_:=Aside0.mk (Kd.R_below (Ru HO681.out) hb)
   have n4_:=Aside0.mk (Kd.R_below (Ru HO687.out) hb)
   have n5_:=Aside0.mk (Kd.R_below (Ru HO690.out) hb)
   have n6_:=Aside0.mk (Kd.R_below (Ru HO696.out) hb)
   have n7_:=Aside0.mk (Kd.R_below (Ru HO699.out) hb)
   have n8_:=Aside0.mk (Kd.R_below (Ru HO705.out) hb)
   have n9_:=Aside0.mk (Kd.R_below (Ru HO708.out) hb)
   have n10_:=Aside0.mk (blk_below (g:=gb674) (o:=.cells #[.bool t666,.slice Ao22 t667.length co22,.slice Ao23 t670.length co23] 25 (0,0)) (Bu BK674.out) hb)
   have n11_:=Aside0.mk (blk_below (g:=gb683) (o:=.cells #[.bool t675,.slice Ao28 t676.length co28,.slice Ao29 t679.length co29] 25 (0,0)) (Bu BK683.out) hb)
   have n12_:=Aside0.mk (blk_below (g:=gb692) (o:=.cells #[.bool t684,.slice Ao35 t685.length co35,.slice Ao36 t688.length co36] 25 (0,0)) (Bu BK692.out) hb)
   have n13_:=Aside0.mk (blk_below (g:=gb701) (o:=.cells #[.bool t693,.slice Ao43 t694.length co43,.slice Ao44 t697.length co44] 25 (0,0)) (Bu BK701.out) hb)
   have n14_:=Aside0.mk (below_step (by repeat (first|with_reducible exact HB.out|apply ba|apply bn|apply b1|refine below_set ?_ GE674.out|refine below_set ?_ GE683.out|refine below_set ?_ GE692.out|refine below_set ?_ GE701.out)) hb)
   clear HO669
   clear HO672
   clear HO678
   clear HO681
   clear HO687
   clear HO690
   clear HO696
   clear HO699
   clear HO705
   clear HO708
   clear BK674
   clear BK683
   clear BK692
   clear BK701
   clear HB
   have HO669:=n0_
   have HO672:=n1_
   have HO678:=n2_
   have HO681:=n3_
   have HO687:=n4_
   have HO690:=n5_
   have HO696:=n6_
   have HO699:=n7_
   have HO705:=n8_
   have HO708:=n9_
   have BK674:=n10_
   have BK683:=n11_
   have BK692:=n12_
   have BK701:=n13_
   have HB:=n14_
   clear n0_ n1_ n2_ n3_ n4_ n5_ n6_ n7_ n8_ n9_ n10_ n11_ n12_ n13_ n14_
   (try clear hb)
   (try clear hb2)
   (try clear hk)
   (try clear hi)
   refine hK.out _ _ ⟨(blk_cell BK674.out 0).trans rfl,(blk_cell BK674.out 1).trans rfl,(blk_cell BK674.out 2).trans rfl,(blk_cell BK683.out 0).trans rfl,(blk_cell BK683.out 1).trans rfl,(blk_cell BK683.out 2).trans rfl⟩ (fun hHeld=>?_)
   clear hK K
   refine norm_ (a':=?_) ?_ ?_
   rotate_left
   ·show Act.put _ (some 30) _ = _
    simp only [Act.put,s0,s1,s2,i64_w,i32_w]
    rfl
   refine pv (i:=6) (N:=some 31) (v:=?_) (a':=?_) rfl rfl (any_of HT_.out (by kernel_rfl)) (Or.inl ⟨by rfl,?_⟩) ?_ ?_
   rotate_left
   ·intro w'
    go_simp
    with_reducible rfl
   rotate_left
   ·simp only [Act.put,s0,s1,s2,i64_w,i32_w]
    rfl
   refine pv (i:=7) (N:=some 32) (v:=?_) (a':=?_) rfl rfl (any_of HT_.out (by kernel_rfl)) (Or.inl ⟨by rfl,?_⟩) ?_ ?_
   rotate_left
   ·intro w'
    go_simp
    with_reducible rfl
   rotate_left
   ·simp only [Act.put,s0,s1,s2,i64_w,i32_w]
    rfl
   refine pv (i:=8) (N:=some 33) (v:=?_) (a':=?_) rfl rfl (any_of HT_.out (by kernel_rfl)) (Or.inl ⟨by rfl,?_⟩) ?_ ?_
   rotate_left
   ·intro w'
    go_simp
    with_reducible rfl
   rotate_left
   ·simp only [Act.put,s0,s1,s2,i64_w,i32_w]
    rfl
   refine pv (i:=9) (N:=some 34) (v:=?_) (a':=?_) rfl rfl (any_of HT_.out (by kernel_rfl)) (Or.inl ⟨by rfl,?_⟩) ?_ ?_
   rotate_left
   ·intro w'
    go_simp
    with_reducible rfl
   rotate_left
   ·simp only [Act.put,s0,s1,s2,i64_w,i32_w]
    rfl
   refine pv (i:=10) (N:=some 35) (v:=?_) (a':=?_) rfl rfl (any_of HT_.out (by kernel_rfl)) (Or.inl ⟨by rfl,?_⟩) ?_ ?_
   rotate_left
   ·intro w'
    go_simp
    with_reducible rfl
   rotate_left
   ·simp only [Act.put,s0,s1,s2,i64_w,i32_w]
    rfl
   refine pv (i:=11) (N:=some 36) (v:=?_) (a':=?_) rfl rfl (any_of HT_.out (by kernel_rfl)) (Or.inl ⟨by rfl,?_⟩) ?_ ?_
   rotate_left
   ·intro w'
    go_simp
    with_reducible rfl
   rotate_left
   ·simp only [Act.put,s0,s1,s2,i64_w,i32_w]
    rfl
   refine take_ (i:=12) (N:=some 37) (v:=?_) (a':=?_) #[true,true,true,true,true,true,true,true,true,true,true,true,true,false,false,false,false,false,false,false,false,false,false,false,false,false,false,false,false,false,false,false,false,false,false] rfl rfl (take_ofW HT_.out HW_.out (by kernel_rfl)) (fun _ _ _ h=>h) (Or.inl ⟨by rfl,?_⟩) hHeld ?_ ?_
   rotate_left
   ·rintro w' ⟨s0,s1,s2,s3,s4,s5⟩
    go_simp
    with_reducible rfl
   rotate_left
   ·simp only [Act.put,s0,s1,s2,i64_w,i32_w]
    rfl
   refine one_ (i:=13) (N:=some 38) #[true,true,true,true,true,true,true,true,true,true,true,true,true,true,false,false,false,false,false,false,false,false,false,false,false,false,false,false,false,false,false,false,false,false,false] rfl rfl (one_of HT_.out (by kernel_rfl)) (by decide) (fun K hK=>?_)
   refine goes_ Tryd.func23 (by kernel_rfl) rfl #[.int .i64 1,.int .i64 2] (by rfl) rfl rfl (by (try simp only [List.map_toArray,List.map_cons,List.map_nil]);first|done|rfl) ?_
   with_reducible refine (penumbraref03_Of.calls k 1 2 t710 t711 t714 _ A10.out).mono ?_
   rintro e w51 ⟨v712,v715,rfl,ho0,ho1,hb⟩
   refine ⟨_,rfl,?_⟩
   have n0_:=Aside0.mk (Kd.R_mono (Kd.R_told (Kd.R_told (Kd.R_old (Ru HO669.out) hb) (Kd.R_base ho0)) (Kd.R_base ho1)) (fun _ h_=>h_.1))
   have n1_:=Aside0.mk (Kd.R_mono (Kd.R_told (Kd.R_told (Kd.R_old (Ru HO672.out) hb) (Kd.R_base ho0)) (Kd.R_base ho1)) (fun _ h_=>h_.1))
   have n2_:=Aside0.mk (Kd.R_mono (Kd.R_told (Kd.R_told (Kd.R_old (Ru HO678.out) hb) (Kd.R_base ho0)) (Kd.R_base ho1)) (fun _ h_=>h_.1))
   have n3_:=Aside0.mk (Kd.R_mono (Kd.R_told (Kd.R_told (Kd.R_old (Ru HO681.out) hb) (Kd.R_base ho0)) (Kd.R_base ho1)) (fun _ h_=>h_.1))
   have n4_:=Aside0.mk (Kd.R_mono (Kd.R_told (Kd.R_told (Kd.R_old (Ru HO687.out) hb) (Kd.R_base ho0)) (Kd.R_base ho1)) (fun _ h_=>h_.1))
   have n5_:=Aside0.mk (Kd.R_mono (Kd.R_told (Kd.R_told (Kd.R_old (Ru HO690.out) hb) (Kd.R_base ho0)) (Kd.R_base ho1)) (fun _ h_=>h_.1))
   have n6_:=Aside0.mk (Kd.R_mono (Kd.R_told (Kd.R_told (Kd.R_old (Ru HO696.out) hb) (Kd.R_base ho0)) (Kd.R_base ho1)) (fun _ h_=>h_.1))
   have n7_:=Aside0.mk (Kd.R_mono (Kd.R_told (Kd.R_told (Kd.R_old (Ru HO699.out) hb) (Kd.R_base ho0)) (Kd.R_base ho1)) (fun _ h_=>h_.1))
   have n8_:=Aside0.mk (Kd.R_mono (Kd.R_told (Kd.R_told (Kd.R_old (Ru HO705.out) hb) (Kd.R_base ho0)) (Kd.R_base ho1)) (fun _ h_=>h_.1))
   have n9_:=Aside0.mk (Kd.R_mono (Kd.R_told (Kd.R_told (Kd.R_old (Ru HO708.out) hb) (Kd.R_base ho0)) (Kd.R_base ho1)) (fun _ h_=>h_.1))
   have n10_:=Aside0.mk (Kd.R_lower (Kd.R_new' (Kd.R_new' (Kd.R_new' (Kd.R_new' (Kd.R_new' (Kd.R_new' (Kd.R_new' (Kd.R_new' (Kd.R_new' (Kd.R_new' ho0 (Kd.R_lt (Ru HO669.out))) (Kd.R_lt (Ru HO672.out))) (Kd.R_lt (Ru HO678.out))) (Kd.R_lt (Ru HO681.out))) (Kd.R_lt (Ru HO687.out))) (Kd.R_lt (Ru HO690.out))) (Kd.R_lt (Ru HO696.out))) (Kd.R_lt (Ru HO699.out))) (Kd.R_lt (Ru HO705.out))) (Kd.R_lt (Ru HO708.out))) (below_size (by repeat (first|with_reducible exact HB.out|apply ba|apply bn|apply b1|refine below_set ?_ GE674.out|refine below_set ?_ GE683.out|refine below_set ?_ GE692.out|refine below_set ?_ GE701.out))))
   have n11_:=Aside0.mk (Kd.R_lower (Kd.R_new' (Kd.R_new' (Kd.R_new' (Kd.R_new' (Kd.R_new' (Kd.R_new' (Kd.R_new' (Kd.R_new' (Kd.R_new' (Kd.R_new' ho1 (Kd.R_lt (Ru HO669.out))) (Kd.R_lt (Ru HO672.out))) (Kd.R_lt (Ru HO678.out))) (Kd.R_lt (Ru HO681.out))) (Kd.R_lt (Ru HO687.out))) (Kd.R_lt (Ru HO690.out))) (Kd.R_lt (Ru HO696.out))) (Kd.R_lt (Ru HO699.out))) (Kd.R_lt (Ru HO705.out))) (Kd.R_lt (Ru HO708.out))) (below_size (by repeat (first|with_reducible exact HB.out|apply ba|apply bn|apply b1|refine below_set ?_ GE674.out|refine below_set ?_ GE683.out|refine below_set ?_ GE692.out|refine below_set ?_ GE701.out))))
   have n12_:=Aside0.mk (blk_below (g:=gb674) (o:=.cells #[.bool t666,.slice Ao22 t667.length co22,.slice Ao23 t670.length co23] 25 (0,0)) (Bu BK674.out) hb)
   have n13_:=Aside0.mk (blk_below (g:=gb683) (o:=.cells #[.bool t675,.slice Ao28 t676.length co28,.slice Ao29 t679.length co29] 25 (0,0)) (Bu BK683.out) hb)
   have n14_:=Aside0.mk (blk_below (g:=gb692) (o:=.cells #[.bool t684,.slice Ao35 t685.length co35,.slice Ao36 t688.length co36] 25 (0,0)) (Bu BK692.out) hb)
   have n15_:=Aside0.mk (blk_below (g:=gb701) (o:=.cells #[.bool t693,.slice Ao43 t694.length co43,.slice Ao44 t697.length co44] 25 (0,0)) (Bu BK701.out) hb)
   have n16_:=Aside0.mk (below_step (by repeat (first|with_reducible exact HB.out|apply ba|apply bn|apply b1|refine below_set ?_ GE674.out|refine below_set ?_ GE683.out|refine below_set ?_ GE692.out|refine below_set ?_ GE701.out)) hb)
   clear HO669
   clear HO672
   clear HO678
   clear HO681
   clear HO687
   clear HO690
   clear HO696
   clear HO699
   clear HO705
   clear HO708
   clear BK674
   clear BK683
   clear BK692
   clear BK701
   clear HB
   have HO669:=n0_
   have HO672:=n1_
   have HO678:=n2_
   have HO681:=n3_
   have HO687:=n4_
   have HO690:=n5_
   have HO696:=n6_
   have HO699:=n7_
   have HO705:=n8_
   have HO708:=n9_
   have HO713:=n10_
   have HO716:=n11_
   have BK674:=n12_
   have BK683:=n13_
   have BK692:=n14_
   have BK701:=n15_
   have HB:=n16_
   clear n0_ n1_ n2_ n3_ n4_ n5_ n6_ n7_ n8_ n9_ n10_ n11_ n12_ n13_ n14_ n15_ n16_
   (try clear hb)
   (try clear hb2)
   (try clear hk)
   (try clear hi)
   (try clear ho0)
   (try clear ho1)
   obtain ⟨Ao52,co52,eo52⟩:=Kd.R_slice HO713.out
   (first|subst eo52|(injection eo52 with f1_ f2_ f3_;have f4_:=f1_.symm;have f5_:=f3_.symm;clear f1_ f2_ f3_;subst f4_;subst f5_))
   obtain ⟨Ao53,co53,eo53⟩:=Kd.R_slice HO716.out
   (first|subst eo53|(injection eo53 with f1_ f2_ f3_;have f4_:=f1_.symm;have f5_:=f3_.symm;clear f1_ f2_ f3_;subst f4_;subst f5_))
   refine hK.out _ _ ⟨(blk_cell BK674.out 0).trans rfl,(blk_cell BK674.out 1).trans rfl,(blk_cell BK674.out 2).trans rfl,(blk_cell BK683.out 0).trans rfl,(blk_cell BK683.out 1).trans rfl,(blk_cell BK683.out 2).trans rfl⟩ (fun hHeld=>?_)
   clear hK K
   refine norm_ (a':=?_) ?_ ?_
   rotate_left
   ·show Act.put _ (some 38) _ = _
    simp only [Act.put,s0,s1,s2,i64_w,i32_w]
    rfl
   refine one_ (i:=14) (N:=some 39) #[true,true,true,true,true,true,true,true,true,true,true,true,true,true,true,false,false,false,false,false,false,false,false,false,false,false,false,false,false,false,false,false,false,false,false] rfl rfl (one_of HT_.out (by kernel_rfl)) (by decide) (fun K hK=>?_)
   refine goes_ Tryd.func11 (by kernel_rfl) rfl #[.agg #[.bool t675,.slice Ao28 t676.length co28,.slice Ao29 t679.length co29],.agg #[.bool t710,.slice Ao52 t711.length co52,.slice Ao53 t714.length co53]] (by rfl) rfl rfl (by (try simp only [List.map_toArray,List.map_cons,List.map_nil]);first|done|rfl) ?_
   with_reducible refine (penumbraref03_Is.calls k t675 _ _ t676 _ _ t679 t710 _ _ t711 _ _ t714 true _ ?side1 ?side2 ?side3 ?side4 ?side5 ?side6 ?side7 ?side8 A11.out).mono ?_
   (case side1=>exact Cu (Kd.R_reads' HO678.out).2.2)
   (case side2=>exact (Kd.R_reads' HO678.out).2.1)
   (case side3=>exact Cu (Kd.R_reads' HO681.out).2.2)
   (case side4=>exact (Kd.R_reads' HO681.out).2.1)
   (case side5=>exact Cu (Kd.R_reads' HO713.out).2.2)
   (case side6=>exact (Kd.R_reads' HO713.out).2.1)
   (case side7=>exact Cu (Kd.R_reads' HO716.out).2.2)
   (case side8=>exact (Kd.R_reads' HO716.out).2.1)
   rintro e w54 ⟨rfl,hb⟩
   refine ⟨_,rfl,?_⟩
   have n0_:=Aside0.mk (Kd.R_below (Ru HO669.out) hb)
   have n1_:=Aside0.mk (Kd.R_below (Ru HO672.out) hb)
   have n2_:=Aside0.mk (Kd.R_below (Ru HO678.out) hb)
   have n3_:=Aside0.mk (Kd.R_below (Ru HO681.out) hb)
   have n4_:=Aside0.mk (Kd.R_below (Ru HO687.out) hb)
   have n5_:=Aside0.mk (Kd.R_below (Ru HO690.out) hb)
   have n6_:=Aside0.mk (Kd.R_below (Ru HO696.out) hb)
   have n7_:=Aside0.mk (Kd.R_below (Ru HO699.out) hb)
   have n8_:=Aside0.mk (Kd.R_below (Ru HO705.out) hb)
   have n9_:=Aside0.mk (Kd.R_below (Ru HO708.out) hb)
   have n10_:=Aside0.mk (Kd.R_below (Ru HO713.out) hb)
   have n11_:=Aside0.mk (Kd.R_below (Ru HO716.out) hb)
   have n12_:=Aside0.mk (blk_below (g:=gb674) (o:=.cells #[.bool t666,.slice Ao22 t667.length co22,.slice Ao23 t670.length co23] 25 (0,0)) (Bu BK674.out) hb)
   have n13_:=Aside0.mk (blk_below (g:=gb683) (o:=.cells #[.bool t675,.slice Ao28 t676.length co28,.slice Ao29 t679.length co29] 25 (0,0)) (Bu BK683.out) hb)
   have n14_:=Aside0.mk (blk_below (g:=gb692) (o:=.cells #[.bool t684,.slice Ao35 t685.length co35,.slice Ao36 t688.length co36] 25 (0,0)) (Bu BK692.out) hb)
   have n15_:=Aside0.mk (blk_below (g:=gb701) (o:=.cells #[.bool t693,.slice Ao43 t694.length co43,.slice Ao44 t697.length co44] 25 (0,0)) (Bu BK701.out) hb)
   have n16_:=Aside0.mk (below_step (by repeat (first|with_reducible exact HB.out|apply ba|apply bn|apply b1|refine below_set ?_ GE674.out|refine below_set ?_ GE683.out|refine below_set ?_ GE692.out|refine below_set ?_ GE701.out)) hb)
   clear HO669
   clear HO672
   clear HO678
   clear HO681
   clear HO687
   clear HO690
   clear HO696
   clear HO699
   clear HO705
   clear HO708
   clear HO713
   clear HO716
   clear BK674
   clear BK683
   clear BK692
   clear BK701
   clear HB
   have HO669:=n0_
   have HO672:=n1_
   have HO678:=n2_
   have HO681:=n3_
   have HO687:=n4_
   have HO690:=n5_
   have HO696:=n6_
   have HO699:=n7_
   have HO705:=n8_
   have HO708:=n9_
   have HO713:=n10_
   have HO716:=n11_
   have BK674:=n12_
   have BK683:=n13_
   have BK692:=n14_
   have BK701:=n15_
   have HB:=n16_
   clear n0_ n1_ n2_ n3_ n4_ n5_ n6_ n7_ n8_ n9_ n10_ n11_ n12_ n13_ n14_ n15_ n16_
   (try clear hb)
   (try clear hb2)
   (try clear hk)
   (try clear hi)
   refine hK.out _ _ ⟨(blk_cell BK674.out 0).trans rfl,(blk_cell BK674.out 1).trans rfl,(blk_cell BK674.out 2).trans rfl,(blk_cell BK683.out 0).trans rfl,(blk_cell BK683.out 1).trans rfl,(blk_cell BK683.out 2).trans rfl⟩ (fun hHeld=>?_)
   clear hK K
   refine norm_ (a':=?_) ?_ ?_
   rotate_left
   ·show Act.put _ (some 39) _ = _
    simp only [Act.put,s0,s1,s2,i64_w,i32_w]
    rfl
   refine pv (i:=15) (N:=some 40) (v:=?_) (a':=?_) rfl rfl (any_of HT_.out (by kernel_rfl)) (Or.inl ⟨by rfl,?_⟩) ?_ ?_
   rotate_left
   ·intro w'
    go_simp
    with_reducible rfl
   rotate_left
   ·simp only [Act.put,s0,s1,s2,i64_w,i32_w]
    rfl
   refine pv (i:=16) (N:=some 41) (v:=?_) (a':=?_) rfl rfl (any_of HT_.out (by kernel_rfl)) (Or.inl ⟨by rfl,?_⟩) ?_ ?_
   rotate_left
   ·intro w'
    go_simp
    with_reducible rfl
   rotate_left
   ·simp only [Act.put,s0,s1,s2,i64_w,i32_w]
    rfl
   refine pv (i:=17) (N:=some 42) (v:=?_) (a':=?_) rfl rfl (any_of HT_.out (by kernel_rfl)) (Or.inl ⟨by rfl,?_⟩) ?_ ?_
   rotate_left
   ·intro w'
    go_simp
    with_reducible rfl
   rotate_left
   ·simp only [Act.put,s0,s1,s2,i64_w,i32_w]
    rfl
   refine pv (i:=18) (N:=some 43) (v:=?_) (a':=?_) rfl rfl (any_of HT_.out (by kernel_rfl)) (Or.inl ⟨by rfl,?_⟩) ?_ ?_
   rotate_left
   ·intro w'
    go_simp
    with_reducible rfl
   rotate_left
   ·simp only [Act.put,s0,s1,s2,i64_w,i32_w]
    rfl
   refine pv (i:=19) (N:=some 44) (v:=?_) (a':=?_) rfl rfl (any_of HT_.out (by kernel_rfl)) (Or.inl ⟨by rfl,?_⟩) ?_ ?_
   rotate_left
   ·intro w'
    go_simp
    with_reducible rfl
   rotate_left
   ·simp only [Act.put,s0,s1,s2,i64_w,i32_w]
    rfl
   refine pv (i:=20) (N:=some 45) (v:=?_) (a':=?_) rfl rfl (any_of HT_.out (by kernel_rfl)) (Or.inl ⟨by rfl,?_⟩) ?_ ?_
   rotate_left
   ·intro w'
    go_simp
    with_reducible rfl
   rotate_left
   ·simp only [Act.put,s0,s1,s2,i64_w,i32_w]
    rfl
   refine pv (i:=21) (N:=some 46) (v:=?_) (a':=?_) rfl rfl (any_of HT_.out (by kernel_rfl)) (Or.inl ⟨by rfl,?_⟩) ?_ ?_
   rotate_left
   ·intro w'
    go_simp
    with_reducible rfl
   rotate_left
   ·simp only [Act.put,s0,s1,s2,i64_w,i32_w]
    rfl
   refine pv (i:=22) (N:=some 47) (v:=?_) (a':=?_) rfl rfl (any_of HT_.out (by kernel_rfl)) (Or.inl ⟨by rfl,?_⟩) ?_ ?_
   rotate_left
   ·intro w'
    go_simp
    with_reducible rfl
   rotate_left
   ·simp only [Act.put,s0,s1,s2,i64_w,i32_w]
    rfl
   refine pv (i:=23) (N:=some 48) (v:=?_) (a':=?_) rfl rfl (any_of HT_.out (by kernel_rfl)) (Or.inl ⟨by rfl,?_⟩) ?_ ?_
   rotate_left
   ·intro w'
    go_simp
    with_reducible rfl
   rotate_left
   ·simp only [Act.put,s0,s1,s2,i64_w,i32_w]
    rfl
   refine pv (i:=24) (N:=some 49) (v:=?_) (a':=?_) rfl rfl (any_of HT_.out (by kernel_rfl)) (Or.inl ⟨by rfl,?_⟩) ?_ ?_
   rotate_left
   ·intro w'
    go_simp
    with_reducible rfl
   rotate_left
   ·simp only [Act.put,s0,s1,s2,i64_w,i32_w]
    rfl
   refine one_ (i:=25) (N:=some 50) #[true,true,true,true,true,true,true,true,true,true,true,true,true,true,true,true,true,true,true,true,true,true,true,true,true,true,false,false,false,false,false,false,false,false,false] rfl rfl (one_of HT_.out (by kernel_rfl)) (by decide) (fun K hK=>?_)
   refine goes_ Tryd.func24 (by kernel_rfl) rfl #[.int .i64 (-3),.int .i64 6] (by rfl) rfl rfl (by (try simp only [List.map_toArray,List.map_cons,List.map_nil]);first|done|rfl) ?_
   with_reducible refine (rat_Of.calls k (-3) 6 t718 t719 t722 _ A15.out).mono ?_
   rintro e w55 ⟨v720,v723,rfl,ho0,ho1,hb⟩
   refine ⟨_,rfl,?_⟩
   have n0_:=Aside0.mk (Kd.R_mono (Kd.R_told (Kd.R_told (Kd.R_old (Ru HO669.out) hb) (Kd.R_base ho0)) (Kd.R_base ho1)) (fun _ h_=>h_.1))
   have n1_:=Aside0.mk (Kd.R_mono (Kd.R_told (Kd.R_told (Kd.R_old (Ru HO672.out) hb) (Kd.R_base ho0)) (Kd.R_base ho1)) (fun _ h_=>h_.1))
   have n2_:=Aside0.mk (Kd.R_mono (Kd.R_told (Kd.R_told (Kd.R_old (Ru HO678.out) hb) (Kd.R_base ho0)) (Kd.R_base ho1)) (fun _ h_=>h_.1))
   have n3_:=Aside0.mk (Kd.R_mono (Kd.R_told (Kd.R_told (Kd.R_old (Ru HO681.out) hb) (Kd.R_base ho0)) (Kd.R_base ho1)) (fun _ h_=>h_.1))
   have n4_:=Aside0.mk (Kd.R_mono (Kd.R_told (Kd.R_told (Kd.R_old (Ru HO687.out) hb) (Kd.R_base ho0)) (Kd.R_base ho1)) (fun _ h_=>h_.1))
   have n5_:=Aside0.mk (Kd.R_mono (Kd.R_told (Kd.R_told (Kd.R_old (Ru HO690.out) hb) (Kd.R_base ho0)) (Kd.R_base ho1)) (fun _ h_=>h_.1))
   have n6_:=Aside0.mk (Kd.R_mono (Kd.R_told (Kd.R_told (Kd.R_old (Ru HO696.out) hb) (Kd.R_base ho0)) (Kd.R_base ho1)) (fun _ h_=>h_.1))
   have n7_:=Aside0.mk (Kd.R_mono (Kd.R_told (Kd.R_told (Kd.R_old (Ru HO699.out) hb) (Kd.R_base ho0)) (Kd.R_base ho1)) (fun _ h_=>h_.1))
   have n8_:=Aside0.mk (Kd.R_mono (Kd.R_told (Kd.R_told (Kd.R_old (Ru HO705.out) hb) (Kd.R_base ho0)) (Kd.R_base ho1)) (fun _ h_=>h_.1))
   have n9_:=Aside0.mk (Kd.R_mono (Kd.R_told (Kd.R_told (Kd.R_old (Ru HO708.out) hb) (Kd.R_base ho0)) (Kd.R_base ho1)) (fun _ h_=>h_.1))
   have n10_:=Aside0.mk (Kd.R_mono (Kd.R_told (Kd.R_told (Kd.R_old (Ru HO713.out) hb) (Kd.R_base ho0)) (Kd.R_base ho1)) (fun _ h_=>h_.1))
   have n11_:=Aside0.mk (Kd.R_mono (Kd.R_told (Kd.R_told (Kd.R_old (Ru HO716.out) hb) (Kd.R_base ho0)) (Kd.R_base ho1)) (fun _ h_=>h_.1))
   have n12_:=Aside0.mk (Kd.R_lower (Kd.R_new' (Kd.R_new' (Kd.R_new' (Kd.R_new' (Kd.R_new' (Kd.R_new' (Kd.R_new' (Kd.R_new' (Kd.R_new' (Kd.R_new' (Kd.R_new' (Kd.R_new' ho0 (Kd.R_lt (Ru HO669.out))) (Kd.R_lt (Ru HO672.out))) (Kd.R_lt (Ru HO678.out))) (Kd.R_lt (Ru HO681.out))) (Kd.R_lt (Ru HO687.out))) (Kd.R_lt (Ru HO690.out))) (Kd.R_lt (Ru HO696.out))) (Kd.R_lt (Ru HO699.out))) (Kd.R_lt (Ru HO705.out))) (Kd.R_lt (Ru HO708.out))) (Kd.R_lt (Ru HO713.out))) (Kd.R_lt (Ru HO716.out))) (below_size (by repeat (first|with_reducible exact HB.out|apply ba|apply bn|apply b1|refine below_set ?_ GE674.out|refine below_set ?_ GE683.out|refine below_set ?_ GE692.out|refine below_set ?_ GE701.out))))
   have n13_:=Aside0.mk (Kd.R_lower (Kd.R_new' (Kd.R_new' (Kd.R_new' (Kd.R_new' (Kd.R_new' (Kd.R_new' (Kd.R_new' (Kd.R_new' (Kd.R_new' (Kd.R_new' (Kd.R_new' (Kd.R_new' ho1 (Kd.R_lt (Ru HO669.out))) (Kd.R_lt (Ru HO672.out))) (Kd.R_lt (Ru HO678.out))) (Kd.R_lt (Ru HO681.out))) (Kd.R_lt (Ru HO687.out))) (Kd.R_lt (Ru HO690.out))) (Kd.R_lt (Ru HO696.out))) (Kd.R_lt (Ru HO699.out))) (Kd.R_lt (Ru HO705.out))) (Kd.R_lt (Ru HO708.out))) (Kd.R_lt (Ru HO713.out))) (Kd.R_lt (Ru HO716.out))) (below_size (by repeat (first|with_reducible exact HB.out|apply ba|apply bn|apply b1|refine below_set ?_ GE674.out|refine below_set ?_ GE683.out|refine below_set ?_ GE692.out|refine below_set ?_ GE701.out))))
   have n14_:=Aside0.mk (blk_below (g:=gb674) (o:=.cells #[.bool t666,.slice Ao22 t667.length co22,.slice Ao23 t670.length co23] 25 (0,0)) (Bu BK674.out) hb)
   have n15_:=Aside0.mk (blk_below (g:=gb683) (o:=.cells #[.bool t675,.slice Ao28 t676.length co28,.slice Ao29 t679.length co29] 25 (0,0)) (Bu BK683.out) hb)
   have n16_:=Aside0.mk (blk_below (g:=gb692) (o:=.cells #[.bool t684,.slice Ao35 t685.length co35,.slice Ao36 t688.length co36] 25 (0,0)) (Bu BK692.out) hb)
   have n17_:=Aside0.mk (blk_below (g:=gb701) (o:=.cells #[.bool t693,.slice Ao43 t694.length co43,.slice Ao44 t697.length co44] 25 (0,0)) (Bu BK701.out) hb)
   have n18_:=Aside0.mk (below_step (by repeat (first|with_reducible exact HB.out|apply ba|apply bn|apply b1|refine below_set ?_ GE674.out|refine below_set ?_ GE683.out|refine below_set ?_ GE692.out|refine below_set ?_ GE701.out)) hb)
   clear HO669
   clear HO672
   clear HO678
   clear HO681
   clear HO687
   clear HO690
   clear HO696
   clear HO699
   clear HO705
   clear HO708
   clear HO713
   clear HO716
   clear BK674
   clear BK683
   clear BK692
   clear BK701
   clear HB
   have HO669:=n0_
   have HO672:=n1_
   have HO678:=n2_
   have HO681:=n3_
   have HO687:=n4_
   have HO690:=n5_
   have HO696:=n6_
   have HO699:=n7_
   have HO705:=n8_
   have HO708:=n9_
   have HO713:=n10_
   have HO716:=n11_
   have HO721:=n12_
   have HO724:=n13_
   have BK674:=n14_
   have BK683:=n15_
   have BK692:=n16_
   have BK701:=n17_
   have HB:=n18_
   clear n0_ n1_ n2_ n3_ n4_ n5_ n6_ n7_ n8_ n9_ n10_ n11_ n12_ n13_ n14_ n15_ n16_ n17_ n18_
   (try clear hb)
   (try clear hb2)
   (try clear hk)
   (try clear hi)
   (try clear ho0)
   (try clear ho1)
   obtain ⟨Ao56,co56,eo56⟩:=Kd.R_slice HO721.out
   (first|subst eo56|(injection eo56 with f1_ f2_ f3_;have f4_:=f1_.symm;have f5_:=f3_.symm;clear f1_ f2_ f3_;subst f4_;subst f5_))
   obtain ⟨Ao57,co57,eo57⟩:=Kd.R_slice HO724.out
   (first|subst eo57|(injection eo57 with f1_ f2_ f3_;have f4_:=f1_.symm;have f5_:=f3_.symm;clear f1_ f2_ f3_;subst f4_;subst f5_))
   refine hK.out _ _ ⟨(blk_cell BK674.out 0).trans rfl,(blk_cell BK674.out 1).trans rfl,(blk_cell BK674.out 2).trans rfl,(blk_cell BK683.out 0).trans rfl,(blk_cell BK683.out 1).trans rfl,(blk_cell BK683.out 2).trans rfl⟩ (fun hHeld=>?_)
   clear hK K
   refine norm_ (a':=?_) ?_ ?_
   rotate_left
   ·show Act.put _ (some 50) _ = _
    simp only [Act.put,s0,s1,s2,i64_w,i32_w]
    rfl
   refine one_ (i:=26) (N:=some 51) #[true,true,true,true,true,true,true,true,true,true,true,true,true,true,true,true,true,true,true,true,true,true,true,true,true,true,true,false,false,false,false,false,false,false,false] rfl rfl (one_of HT_.out (by kernel_rfl)) (by decide) (fun K hK=>?_)
   refine goes_ Tryd.func12 (by kernel_rfl) rfl #[.agg #[.bool t718,.slice Ao56 t719.length co56,.slice Ao57 t722.length co57]] (by rfl) rfl rfl (by (try simp only [List.map_toArray,List.map_cons,List.map_nil]);first|done|rfl) ?_
   with_reducible refine (decimal_Print.calls k t718 _ _ t719 _ _ t722 t725 _ ?side1 ?side2 ?side3 ?side4 A16.out).mono ?_
   (case side1=>exact Cu (Kd.R_reads' HO721.out).2.2)
   (case side2=>exact (Kd.R_reads' HO721.out).2.1)
   (case side3=>exact Cu (Kd.R_reads' HO724.out).2.2)
   (case side4=>exact (Kd.R_reads' HO724.out).2.1)
   rintro e w58 ⟨rfl,hb⟩
   refine ⟨_,rfl,?_⟩
   have n0_:=Aside0.mk (Kd.R_below (Ru HO669.out) hb)
   have n1_:=Aside0.mk (Kd.R_below (Ru HO672.out) hb)
   have n2_:=Aside0.mk (Kd.R_below (Ru HO678.out) hb)
   have n3_:=Aside0.mk (Kd.R_below (Ru HO681.out) hb)
   have n4_:=Aside0.mk (Kd.R_below (Ru HO687.out) hb)
   have n5_:=Aside0.mk (Kd.R_below (Ru HO690.out) hb)
   have n6_:=Aside0.mk (Kd.R_below (Ru HO696.out) hb)
   have n7_:=Aside0.mk (Kd.R_below (Ru HO699.out) hb)
   have n8_:=Aside0.mk (Kd.R_below (Ru HO705.out) hb)
   have n9_:=Aside0.mk (Kd.R_below (Ru HO708.out) hb)
   have n10_:=Aside0.mk (Kd.R_below (Ru HO713.out) hb)
   have n11_:=Aside0.mk (Kd.R_below (Ru HO716.out) hb)
   have n12_:=Aside0.mk (Kd.R_below (Ru HO721.out) hb)
   have n13_:=Aside0.mk (Kd.R_below (Ru HO724.out) hb)
   have n14_:=Aside0.mk (blk_below (g:=gb674) (o:=.cells #[.bool t666,.slice Ao22 t667.length co22,.slice Ao23 t670.length co23] 25 (0,0)) (Bu BK674.out) hb)
   have n15_:=Aside0.mk (blk_below (g:=gb683) (o:=.cells #[.bool t675,.slice Ao28 t676.length co28,.slice Ao29 t679.length co29] 25 (0,0)) (Bu BK683.out) hb)
   have n16_:=Aside0.mk (blk_below (g:=gb692) (o:=.cells #[.bool t684,.slice Ao35 t685.length co35,.slice Ao36 t688.length co36] 25 (0,0)) (Bu BK692.out) hb)
   have n17_:=Aside0.mk (blk_below (g:=gb701) (o:=.cells #[.bool t693,.slice Ao43 t694.length co43,.slice Ao44 t697.length co44] 25 (0,0)) (Bu BK701.out) hb)
   have n18_:=Aside0.mk (below_step (by repeat (first|with_reducible exact HB.out|apply ba|apply bn|apply b1|refine below_set ?_ GE674.out|refine below_set ?_ GE683.out|refine below_set ?_ GE692.out|refine below_set ?_ GE701.out)) hb)
   clear HO669
   clear HO672
   clear HO678
   clear HO681
   clear HO687
   clear HO690
   clear HO696
   clear HO699
   clear HO705
   clear HO708
   clear HO713
   clear HO716
   clear HO721
   clear HO724
   clear BK674
   clear BK683
   clear BK692
   clear BK701
   clear HB
   have HO669:=n0_
   have HO672:=n1_
   have HO678:=n2_
   have HO681:=n3_
   have HO687:=n4_
   have HO690:=n5_
   have HO696:=n6_
   have HO699:=n7_
   have HO705:=n8_
   have HO708:=n9_
   have HO713:=n10_
   have HO716:=n11_
   have HO721:=n12_
   have HO724:=n13_
   have BK674:=n14_
   have BK683:=n15_
   have BK692:=n16_
   have BK701:=n17_
   have HB:=n18_
   clear n0_ n1_ n2_ n3_ n4_ n5_ n6_ n7_ n8_ n9_ n10_ n11_ n12_ n13_ n14_ n15_ n16_ n17_ n18_
   (try clear hb)
   (try clear hb2)
   (try clear hk)
   (try clear hi)
   refine hK.out _ _ ⟨(blk_cell BK674.out 0).trans rfl,(blk_cell BK674.out 1).trans rfl,(blk_cell BK674.out 2).trans rfl,(blk_cell BK683.out 0).trans rfl,(blk_cell BK683.out 1).trans rfl,(blk_cell BK683.out 2).trans rfl⟩ (fun hHeld=>?_)
   clear hK K
   refine norm_ (a':=?_) ?_ ?_
   rotate_left
   ·show Act.put _ (some 51) _ = _
    simp only [Act.put,s0,s1,s2,i64_w,i32_w]
    rfl
   refine pv (i:=27) (N:=some 52) (v:=?_) (a':=?_) rfl rfl (any_of HT_.out (by kernel_rfl)) (Or.inl ⟨by rfl,?_⟩) ?_ ?_
   rotate_left
   ·intro w'
    go_simp
    with_reducible rfl
   rotate_left
   ·simp only [Act.put,s0,s1,s2,i64_w,i32_w]
    rfl
   refine pv (i:=28) (N:=some 53) (v:=?_) (a':=?_) rfl rfl (any_of HT_.out (by kernel_rfl)) (Or.inl ⟨by rfl,?_⟩) ?_ ?_
   rotate_left
   ·intro w'
    go_simp
    with_reducible rfl
   rotate_left
   ·simp only [Act.put,s0,s1,s2,i64_w,i32_w]
    rfl
   refine pv (i:=29) (N:=some 54) (v:=?_) (a':=?_) rfl rfl (any_of HT_.out (by kernel_rfl)) (Or.inl ⟨by rfl,?_⟩) ?_ ?_
   rotate_left
   ·intro w'
    go_simp
    with_reducible rfl
   rotate_left
   ·simp only [Act.put,s0,s1,s2,i64_w,i32_w]
    rfl
   refine one_ (i:=30) (N:=some 55) #[true,true,true,true,true,true,true,true,true,true,true,true,true,true,true,true,true,true,true,true,true,true,true,true,true,true,true,true,true,true,true,false,false,false,false] rfl rfl (one_of HT_.out (by kernel_rfl)) (by decide) (fun K hK=>?_)
   refine Kd.R_lit_step (Kd.int .u32) _ 35 ?hg (N:=55) ?hd (xs:=([0,1] : List Int)) (inner:=[.int .u32 0,.int .u32 1]) (ok:=fun _=>True) (okp:=fun _=>True) ?hr ?hp (fun _ hk=>hk) trivial (Below.refl _ _) (Nat.le_refl _) (by simp) ?_;(case hd=>rfl);(case hg=>rfl);(case hr=>first|(go_simp;done)|(go_simp;(with_reducible rfl))|(go_simp;rfl)|(go_simp;simp only [hu,Int.emod_sub_emod]));(case hp=>exact (Reps.one (show Kd.M (Kd.int .u32) _ _ _ 0 [.int .u32 0] from rfl) (Reps.one (show Kd.M (Kd.int .u32) _ _ _ 1 [.int .u32 1] from rfl) (Reps.none _ _))))
   intro v727 w59 ho60 hb hg_ hnew_
   clear hg_ hnew_
   (first|rw [← Ny726.out] at ho60|(simp only [Int.reduceToNat] at ho60;rw [← Ny726.out] at ho60))
   have n0_:=Aside0.mk (Kd.R_elder' (Ru HO669.out) (Kd.R_base ho60) hb)
   have n1_:=Aside0.mk (Kd.R_elder' (Ru HO672.out) (Kd.R_base ho60) hb)
   have n2_:=Aside0.mk (Kd.R_elder' (Ru HO678.out) (Kd.R_base ho60) hb)
   have n3_:=Aside0.mk (Kd.R_elder' (Ru HO681.out) (Kd.R_base ho60) hb)
   have n4_:=Aside0.mk (Kd.R_elder' (Ru HO687.out) (Kd.R_base ho60) hb)
   have n5_:=Aside0.mk (Kd.R_elder' (Ru HO690.out) (Kd.R_base ho60) hb)
   have n6_:=Aside0.mk (Kd.R_elder' (Ru HO696.out) (Kd.R_base ho60) hb)
   have n7_:=Aside0.mk (Kd.R_elder' (Ru HO699.out) (Kd.R_base ho60) hb)
   have n8_:=Aside0.mk (Kd.R_elder' (Ru HO705.out) (Kd.R_base ho60) hb)
   have n9_:=Aside0.mk (Kd.R_elder' (Ru HO708.out) (Kd.R_base ho60) hb)
   have n10_:=Aside0.mk (Kd.R_elder' (Ru HO713.out) (Kd.R_base ho60) hb)
   have n11_:=Aside0.mk (Kd.R_elder' (Ru HO716.out) (Kd.R_base ho60) hb)
   have n12_:=Aside0.mk (Kd.R_elder' (Ru HO721.out) (Kd.R_base ho60) hb)
   have n13_:=Aside0.mk (Kd.R_elder' (Ru HO724.out) (Kd.R_base ho60) hb)
   have n14_:=Aside0.mk (Kd.R_lower (Kd.R_new' (Kd.R_new' (Kd.R_new' (Kd.R_new' (Kd.R_new' (Kd.R_new' (Kd.R_new' (Kd.R_new' (Kd.R_new' (Kd.R_new' (Kd.R_new' (Kd.R_new' (Kd.R_new' (Kd.R_new' ho60 (Kd.R_lt (Ru HO669.out))) (Kd.R_lt (Ru HO672.out))) (Kd.R_lt (Ru HO678.out))) (Kd.R_lt (Ru HO681.out))) (Kd.R_lt (Ru HO687.out))) (Kd.R_lt (Ru HO690.out))) (Kd.R_lt (Ru HO696.out))) (Kd.R_lt (Ru HO699.out))) (Kd.R_lt (Ru HO705.out))) (Kd.R_lt (Ru HO708.out))) (Kd.R_lt (Ru HO713.out))) (Kd.R_lt (Ru HO716.out))) (Kd.R_lt (Ru HO721.out))) (Kd.R_lt (Ru HO724.out))) (below_size (by repeat (first|with_reducible exact HB.out|apply ba|apply bn|apply b1|refine below_set ?_ GE674.out|refine below_set ?_ GE683.out|refine below_set ?_ GE692.out|refine below_set ?_ GE701.out))))
   have n15_:=Aside0.mk (blk_below (g:=gb674) (o:=.cells #[.bool t666,.slice Ao22 t667.length co22,.slice Ao23 t670.length co23] 25 (0,0)) (Bu BK674.out) hb)
   have n16_:=Aside0.mk (blk_below (g:=gb683) (o:=.cells #[.bool t675,.slice Ao28 t676.length co28,.slice Ao29 t679.length co29] 25 (0,0)) (Bu BK683.out) hb)
   have n17_:=Aside0.mk (blk_below (g:=gb692) (o:=.cells #[.bool t684,.slice Ao35 t685.length co35,.slice Ao36 t688.length co36] 25 (0,0)) (Bu BK692.out) hb)
   have n18_:=Aside0.mk (blk_below (g:=gb701) (o:=.cells #[.bool t693,.slice Ao43 t694.length co43,.slice Ao44 t697.length co44] 25 (0,0)) (Bu BK701.out) hb)
   have n19_:=Aside0.mk (below_step (by repeat (first|with_reducible exact HB.out|apply ba|apply bn|apply b1|refine below_set ?_ GE674.out|refine below_set ?_ GE683.out|refine below_set ?_ GE692.out|refine below_set ?_ GE701.out)) hb)
   clear HO669
   clear HO672
   clear HO678
   clear HO681
   clear HO687
   clear HO690
   clear HO696
   clear HO699
   clear HO705
   clear HO708
   clear HO713
   clear HO716
   clear HO721
   clear HO724
   clear BK674
   clear BK683
   clear BK692
   clear BK701
   clear HB
   have HO669:=n0_
   have HO672:=n1_
   have HO678:=n2_
   have HO681:=n3_
   have HO687:=n4_
   have HO690:=n5_
   have HO696:=n6_
   have HO699:=n7_
   have HO705:=n8_
   have HO708:=n9_
   have HO713:=n10_
   have HO716:=n11_
   have HO721:=n12_
   have HO724:=n13_
   have HO728:=n14_
   have BK674:=n15_
   have BK683:=n16_
   have BK692:=n17_
   have BK701:=n18_
   have HB:=n19_
   clear n0_ n1_ n2_ n3_ n4_ n5_ n6_ n7_ n8_ n9_ n10_ n11_ n12_ n13_ n14_ n15_ n16_ n17_ n18_ n19_
   clear hb ho60
   obtain ⟨Ao61,co61,eo61⟩:=Kd.R_slice HO728.out
   (first|subst eo61|(injection eo61 with f1_ f2_ f3_;have f4_:=f1_.symm;have f5_:=f3_.symm;clear f1_ f2_ f3_;subst f4_;subst f5_))
   refine hK.out _ _ ⟨(blk_cell BK674.out 0).trans rfl,(blk_cell BK674.out 1).trans rfl,(blk_cell BK674.out 2).trans rfl,(blk_cell BK683.out 0).trans rfl,(blk_cell BK683.out 1).trans rfl,(blk_cell BK683.out 2).trans rfl⟩ (fun hHeld=>?_)
   clear hK K
   refine norm_ (a':=?_) ?_ ?_
   rotate_left
   ·show Act.put _ (some 55) _ = _
    simp only [Act.put,s0,s1,s2,i64_w,i32_w]
    rfl
   refine one_ (i:=31) (N:=some 56) #[true,true,true,true,true,true,true,true,true,true,true,true,true,true,true,true,true,true,true,true,true,true,true,true,true,true,true,true,true,true,true,true,false,false,false] rfl rfl (one_of HT_.out (by kernel_rfl)) (by decide) (fun K hK=>?_)
   refine goes_ Tryd.func14 (by kernel_rfl) rfl #[.slice Ao61 y726.length co61] (by rfl) rfl rfl (by (try simp only [List.map_toArray,List.map_cons,List.map_nil]);first|done|rfl) ?_
   with_reducible refine (decimal_Natural.calls k _ _ y726 t729 _ ?side1 ?side2 A18.out).mono ?_
   (case side1=>exact Cu (Kd.R_reads' HO728.out).2.2)
   (case side2=>exact (Kd.R_reads' HO728.out).2.1)
   rintro e w62 ⟨rfl,hb⟩
   refine ⟨_,rfl,?_⟩
   have n0_:=Aside0.mk (Kd.R_below (Ru HO669.out) hb)
   have n1_:=Aside0.mk (Kd.R_below (Ru HO672.out) hb)
   have n2_:=Aside0.mk (Kd.R_below (Ru HO678.out) hb)
   have n3_:=Aside0.mk (Kd.R_below (Ru HO681.out) hb)
   have n4_:=Aside0.mk (Kd.R_below (Ru HO687.out) hb)
   have n5_:=Aside0.mk (Kd.R_below (Ru HO690.out) hb)
   have n6_:=Aside0.mk (Kd.R_below (Ru HO696.out) hb)
   have n7_:=Aside0.mk (Kd.R_below (Ru HO699.out) hb)
   have n8_:=Aside0.mk (Kd.R_below (Ru HO705.out) hb)
   have n9_:=Aside0.mk (Kd.R_below (Ru HO708.out) hb)
   have n10_:=Aside0.mk (Kd.R_below (Ru HO713.out) hb)
   have n11_:=Aside0.mk (Kd.R_below (Ru HO716.out) hb)
   have n12_:=Aside0.mk (Kd.R_below (Ru HO721.out) hb)
   have n13_:=Aside0.mk (Kd.R_below (Ru HO724.out) hb)
   have n14_:=Aside0.mk (Kd.R_below (Ru HO728.out) hb)
   have n15_:=Aside0.mk (blk_below (g:=gb674) (o:=.cells #[.bool t666,.slice Ao22 t667.length co22,.slice Ao23 t670.length co23] 25 (0,0)) (Bu BK674.out) hb)
   have n16_:=Aside0.mk (blk_below (g:=gb683) (o:=.cells #[.bool t675,.slice Ao28 t676.length co28,.slice Ao29 t679.length co29] 25 (0,0)) (Bu BK683.out) hb)
   have n17_:=Aside0.mk (blk_below (g:=gb692) (o:=.cells #[.bool t684,.slice Ao35 t685.length co35,.slice Ao36 t688.length co36] 25 (0,0)) (Bu BK692.out) hb)
   have n18_:=Aside0.mk (blk_below (g:=gb701) (o:=.cells #[.bool t693,.slice Ao43 t694.length co43,.slice Ao44 t697.length co44] 25 (0,0)) (Bu BK701.out) hb)
   have n19_:=Aside0.mk (below_step (by repeat (first|with_reducible exact HB.out|apply ba|apply bn|apply b1|refine below_set ?_ GE674.out|refine below_set ?_ GE683.out|refine below_set ?_ GE692.out|refine below_set ?_ GE701.out)) hb)
   clear HO669
   clear HO672
   clear HO678
   clear HO681
   clear HO687
   clear HO690
   clear HO696
   clear HO699
   clear HO705
   clear HO708
   clear HO713
   clear HO716
   clear HO721
   clear HO724
   clear HO728
   clear BK674
   clear BK683
   clear BK692
   clear BK701
   clear HB
   have HO669:=n0_
   have HO672:=n1_
   have HO678:=n2_
   have HO681:=n3_
   have HO687:=n4_
   have HO690:=n5_
   have HO696:=n6_
   have HO699:=n7_
   have HO705:=n8_
   have HO708:=n9_
   have HO713:=n10_
   have HO716:=n11_
   have HO721:=n12_
   have HO724:=n13_
   have HO728:=n14_
   have BK674:=n15_
   have BK683:=n16_
   have BK692:=n17_
   have BK701:=n18_
   have HB:=n19_
   clear n0_ n1_ n2_ n3_ n4_ n5_ n6_ n7_ n8_ n9_ n10_ n11_ n12_ n13_ n14_ n15_ n16_ n17_ n18_ n19_
   (try clear hb)
   (try clear hb2)
   (try clear hk)
   (try clear hi)
   refine hK.out _ _ ⟨(blk_cell BK674.out 0).trans rfl,(blk_cell BK674.out 1).trans rfl,(blk_cell BK674.out 2).trans rfl,(blk_cell BK683.out 0).trans rfl,(blk_cell BK683.out 1).trans rfl,(blk_cell BK683.out 2).trans rfl⟩ (fun hHeld=>?_)
   clear hK K
   refine norm_ (a':=?_) ?_ ?_
   rotate_left
   ·show Act.put _ (some 56) _ = _
    simp only [Act.put,s0,s1,s2,i64_w,i32_w]
    rfl
   refine pv (i:=32) (N:=some 57) (v:=?_) (a':=?_) rfl rfl (any_of HT_.out (by kernel_rfl)) (Or.inl ⟨by rfl,?_⟩) ?_ ?_
   rotate_left
   ·intro w'
    go_simp
    with_reducible rfl
   rotate_left
   ·simp only [Act.put,s0,s1,s2,i64_w,i32_w]
    rfl
   refine pv (i:=33) (N:=some 58) (v:=?_) (a':=?_) rfl rfl (any_of HT_.out (by kernel_rfl)) (Or.inl ⟨by rfl,?_⟩) ?_ ?_
   rotate_left
   ·intro w'
    go_simp
    with_reducible rfl
   rotate_left
   ·simp only [Act.put,s0,s1,s2,i64_w,i32_w]
    rfl
   refine pv (i:=34) (N:=some 0) (v:=?_) (a':=?_) rfl rfl (any_of HT_.out (by kernel_rfl)) (Or.inl ⟨by rfl,?_⟩) ?_ ?_
   rotate_left
   ·intro w'
    go_simp
    with_reducible rfl
   rotate_left
   ·simp only [Act.put,s0,s1,s2,i64_w,i32_w]
    rfl
   refine done_ (done_of HT_.out (by kernel_rfl)) ?_
   try go_wp2
   go_ret
   exact ⟨by first|rfl|(simp [errW_none,errW_some] <;> rfl)|(simp [*,errW_none,errW_some] <;> rfl),by repeat (first|with_reducible exact HB.out|apply ba|apply bn|apply b1|refine below_set ?_ GE674.out|refine below_set ?_ GE683.out|refine below_set ?_ GE692.out|refine below_set ?_ GE701.out)⟩
  ·replace c12:=Bool.eq_false_iff.mpr c12
   subst c12
   rw [if_neg (show ¬ (false = true) by decide)] at H
   exact absurd H (by simp)
 ·replace c8:=Bool.eq_false_iff.mpr c8
  subst c8
  rw [if_neg (show ¬ (false = true) by decide)] at H
  exact absurd H (by simp)
end Go.Proofs.YtncdiodnbkhacaaDoor.Pq
end
section
namespace Go.Proofs.YtncdiodnbkhacaaDoor.Pq
open Go.RowKit Go.Proofs.YtncdiodnbkhacaaDoorW.PrintWords Go.Proofs.YtncdiodnbkhacaaDoorW.PrintLast Go.Proofs.YtncdiodnbkhacaaDoorW.PrintMore
attribute [local go_sem] max2_int min2_int max_two min_two max_three min_three max_four min_four
set_option linter.unusedVariables false
set_option linter.unusedSimpArgs false
set_option maxHeartbeats 8000000 in
set_option maxRecDepth 100000 in
theorem penumbraref04_Natural.calls (k : Nat) (P0_ : Nat → Prop) (A0 : Option Addr) (c0 : Nat) (l0 : List Int) (r : ByteArray) (w : World) (hs0 : Kd.V (Kd.int .u32) 35 w w.heap.size (fun k_=>P0_ k_) (.slice A0 l0.length c0) l0) (h : penumbraref04_Natural.f k l0 = some r) :
  Calls Tryd.prog 15 #[.slice A0 l0.length c0] w fun e w'=>e = .returned (.string r) ∧ Below w.heap.size w w':=by
 have HO0:=Aside0.mk (show Kd.V (Kd.int .u32) 35 w w.heap.size (fun k_=>(P0_ k_ ∨ w.heap.size ≤ k_)) (.slice A0 l0.length c0) l0 from Kd.V_mono hs0 (fun k_ hk=>.inl hk))
 have HB:=Aside0.mk (Below.refl w.heap.size w)
 have H : ((penumbraref01_Zero.f k l0).bind fun t826=>(if t826 = true then (some (⟨#[48]⟩ : ByteArray)) else (penumbraref04_Natural.l0 k l0 (([] : List Int))))) = some r:=h
 clear h
 replace H:=Option.bind_eq_some_iff.mp H
 obtain ⟨t826,A20,H⟩:=H
 try dsimp only at H
 have A2:=Aside0.mk A20
 clear A20
 by_cases c3 : t826 = true
 ·subst c3
  rw [if_pos rfl] at H
  obtain rfl:=Option.some.inj H
  go_enter Tryd.func15,Tryd.ntmps15
  go_wp2_with (first|((with_reducible refine gate_callee (f:=33) rfl ?_);refine goesL_ (some 11) rfl rfl Tryd.func33 (by kernel_rfl) rfl #[.slice A0 l0.length c0] rfl (by (try simp only [List.map_toArray,List.map_cons,List.map_nil]);first|done|rfl) ?_;(with_reducible refine (penumbraref01_Zero.calls k _ _ l0 true _ ?side1 ?side2 A2.out).mono ?_);(case side1=>repeat (first|exact (Kd.V_reads' HO0.out).2.2|(with_reducible refine Kd.C_alloc ?_ _)|(with_reducible refine Kd.C_drewN ?_ _)|(with_reducible refine Kd.C_drew ?_)));(case side2=>exact (Kd.V_reads' HO0.out).2.1);rintro e w4 ⟨rfl,hb⟩;refine ⟨_,rfl,?_⟩;have n0_:=Aside0.mk (Kd.V_below (by (with_reducible repeat (first|apply Kd.V_alloc|apply Kd.V_drewN|apply Kd.V_drew));exact HO0.out) hb);have n1_:=Aside0.mk (below_step (Hu HB.out) hb);clear HO0;clear HB;have HO0:=n0_;have HB:=n1_;clear n0_ n1_))
  go_ret
  exact ⟨by first|rfl|(simp [errW_none,errW_some] <;> rfl)|(simp [*,errW_none,errW_some] <;> rfl),Hu HB.out⟩
 ·replace c3:=Bool.eq_false_iff.mpr c3
  subst c3
  rw [if_neg (show ¬ (false = true) by decide)] at H
  obtain ⟨y827,hy827⟩ : ∃ y_ : List Int,y_ = (([] : List Int)):=⟨_,rfl⟩
  replace H : (penumbraref04_Natural.l0 k l0 y827) = some r:=by first|(rw [hy827];with_reducible exact H)|(have H2_:=(Option.bind_some _ _).symm.trans H;rw [hy827];with_reducible exact H2_)|(have H2_:=(Option.bind_some _ _).symm.trans H;with_reducible exact H2_)|with_reducible exact H|(rw [hy827];exact H)|exact H
  have Ny827:=Aside0.mk hy827
  clear hy827
  have H':=Aside0.mk H
  clear H
  go_enter Tryd.func15,Tryd.ntmps15
  go_wp2_with (first|((with_reducible refine gate_callee (f:=33) rfl ?_);refine goesL_ (some 11) rfl rfl Tryd.func33 (by kernel_rfl) rfl #[.slice A0 l0.length c0] rfl (by (try simp only [List.map_toArray,List.map_cons,List.map_nil]);first|done|rfl) ?_;(with_reducible refine (penumbraref01_Zero.calls k _ _ l0 false _ ?side1 ?side2 A2.out).mono ?_);(case side1=>repeat (first|exact (Kd.V_reads' HO0.out).2.2|(with_reducible refine Kd.C_alloc ?_ _)|(with_reducible refine Kd.C_drewN ?_ _)|(with_reducible refine Kd.C_drew ?_)));(case side2=>exact (Kd.V_reads' HO0.out).2.1);rintro e w5 ⟨rfl,hb⟩;refine ⟨_,rfl,?_⟩;have n0_:=Aside0.mk (Kd.V_below (by (with_reducible repeat (first|apply Kd.V_alloc|apply Kd.V_drewN|apply Kd.V_drew));exact HO0.out) hb);have n1_:=Aside0.mk (below_step (Hu HB.out) hb);clear HO0;clear HB;have HO0:=n0_;have HB:=n1_;clear n0_ n1_)|((with_reducible refine gate_dst (N:=12) rfl ?_);refine Kd.R_lit (Kd.int .u8) _ 5 ?hg (N:=12) ?hd (xs:=([] : List Int)) (inner:=[]) (ok:=fun _=>True) (okp:=fun _=>True) ?hr ?hp (fun _ hk=>hk) trivial (Below.refl _ _) (Nat.le_refl _) (by simp) ?_;(case hd=>rfl);(case hg=>rfl);(case hr=>first|(go_simp;done)|(go_simp;(with_reducible rfl))|(go_simp;rfl)|(go_simp;simp only [hu,Int.emod_sub_emod]));(case hp=>exact (Reps.none _ _));intro v828 w6 ho7 hb hg_ hnew_;clear hg_ hnew_;(first|rw [← Ny827.out] at ho7|(simp only [Int.reduceToNat] at ho7;rw [← Ny827.out] at ho7));have n0_:=Aside0.mk (Kd.V_elder' (by (with_reducible repeat (first|apply Kd.V_alloc|apply Kd.V_drewN|apply Kd.V_drew));exact HO0.out) (Kd.R_base ho7) hb);have n1_:=Aside0.mk (Kd.R_lower (Kd.R_newM (M:=fun k_=>(w.heap.size ≤ k_)) ho7 (below_size (Hu HB.out)) (fun k_ h_=>h_)) (below_size (Hu HB.out)));have n2_:=Aside0.mk (below_step (Hu HB.out) hb);clear HO0;clear HB;have HO0:=n0_;have HO829:=n1_;have HB:=n2_;clear n0_ n1_ n2_;clear hb ho7))
  go_loopg [0,3] k (fun kq v0 v3 w'=>∃ (x0_1 : List Int) (x3_1 : List Int),Aside0 (penumbraref04_Natural.l0 kq x0_1 x3_1 = some r) ∧ Aside0 (kq ≤ k) ∧ Aside0 (Kd.V (Kd.int .u32) 35 w' w.heap.size (fun k_=>(P0_ k_ ∨ w.heap.size ≤ k_) ∧ some k_ ≠ (v3 : Value).ownBlock) v0 x0_1) ∧ Aside0 (Kd.R (Kd.int .u8) 5 w' w.heap.size (fun k_=>(w.heap.size ≤ k_)) v3 x3_1) ∧ Aside0 (Below w.heap.size w w'))
  case atStart=>exact ⟨(l0),(y827),H',⟨Nat.le_refl _⟩,⟨by (with_reducible repeat (first|apply Kd.V_alloc|apply Kd.V_drewN|apply Kd.V_drew));exact HO0.out⟩,⟨by (with_reducible repeat (first|apply Ra|apply Rn|apply Rd));exact Kd.R_mono HO829.out (fun _ hk=>hk.1)⟩,⟨Hu HB.out⟩⟩
  case round =>
   clear H'
   obtain ⟨x0_1,x3_1,HA,HK1,HO_0,HO_3,HB⟩:=hrel
   cases gk with
  |zero=>exact absurd HA.out (by simp [penumbraref04_Natural.l0])
  |succ k1 =>
    have H:=HA.out
    clear HA
    simp only [penumbraref04_Natural.l0] at H
    replace H:=Option.bind_eq_some_iff.mp H
    obtain ⟨t830,A80,H⟩:=H
    try dsimp only at H
    have A8:=Aside0.mk A80
    clear A80
    by_cases c9 : t830 = true
    ·subst c9
     rw [if_pos rfl] at H
     obtain ⟨y848,hy848⟩ : ∃ y_ : List Int,y_ = (([] : List Int)):=⟨_,rfl⟩
     replace H : (penumbraref04_Natural.l1 k1 x3_1 y848 (wrap64 ((x3_1.length : Int) - 1))) = some r:=by first|(rw [hy848];with_reducible exact H)|(have H2_:=(Option.bind_some _ _).symm.trans H;rw [hy848];with_reducible exact H2_)|(have H2_:=(Option.bind_some _ _).symm.trans H;with_reducible exact H2_)|with_reducible exact H|(rw [hy848];exact H)|exact H
     have Ny848:=Aside0.mk hy848
     clear hy848
     have H':=Aside0.mk H
     clear H
     obtain ⟨Ao10,co10,eo10⟩:=Kd.V_slice HO_0.out
     subst eo10
     go_wp2_with (first|((with_reducible refine gate_callee (f:=33) rfl ?_);refine goesL_ (some 14) rfl rfl Tryd.func33 (by kernel_rfl) rfl #[.slice Ao10 x0_1.length co10] rfl (by (try simp only [List.map_toArray,List.map_cons,List.map_nil]);first|done|rfl) ?_;(with_reducible refine (penumbraref01_Zero.calls k1 _ _ x0_1 true _ ?side1 ?side2 A8.out).mono ?_);(case side1=>repeat (first|exact (Kd.V_reads' HO_0.out).2.2|(with_reducible refine Kd.C_alloc ?_ _)|(with_reducible refine Kd.C_drewN ?_ _)|(with_reducible refine Kd.C_drew ?_)));(case side2=>exact (Kd.V_reads' HO_0.out).2.1);rintro e w11 ⟨rfl,hb⟩;refine ⟨_,rfl,?_⟩;have n0_:=Aside0.mk (Kd.V_below (by (with_reducible repeat (first|apply Kd.V_alloc|apply Kd.V_drewN|apply Kd.V_drew));exact HO_0.out) hb);have n1_:=Aside0.mk (Kd.R_below (Ru HO_3.out) hb);have n2_:=Aside0.mk (below_step (Hu HB.out) hb);clear HO_0;clear HO_3;clear HB;have HO_0:=n0_;have HO_3:=n1_;have HB:=n2_;clear n0_ n1_ n2_)|((with_reducible refine gate_dst (N:=36) rfl ?_);refine Kd.R_lit (Kd.int .u8) _ 5 ?hg (N:=36) ?hd (xs:=([] : List Int)) (inner:=[]) (ok:=fun _=>True) (okp:=fun _=>True) ?hr ?hp (fun _ hk=>hk) trivial (Below.refl _ _) (Nat.le_refl _) (by simp) ?_;(case hd=>rfl);(case hg=>rfl);(case hr=>first|(go_simp;done)|(go_simp;(with_reducible rfl))|(go_simp;rfl)|(go_simp;simp only [hu,Int.emod_sub_emod]));(case hp=>exact (Reps.none _ _));intro v849 w12 ho13 hb hg_ hnew_;clear hg_ hnew_;(first|rw [← Ny848.out] at ho13|(simp only [Int.reduceToNat] at ho13;rw [← Ny848.out] at ho13));have n0_:=Aside0.mk (Kd.V_elder' (by (with_reducible repeat (first|apply Kd.V_alloc|apply Kd.V_drewN|apply Kd.V_drew));exact HO_0.out) (Kd.R_base ho13) hb);have n1_:=Aside0.mk (Kd.R_elder' (Ru HO_3.out) (Kd.R_base ho13) hb);have n2_:=Aside0.mk (Kd.R_lower (Kd.R_new' (Kd.R_newM (M:=fun k_=>(w.heap.size ≤ k_)) ho13 (below_size (Hu HB.out)) (fun k_ h_=>h_)) (Kd.R_lt (Ru HO_3.out))) (below_size (Hu HB.out)));have n3_:=Aside0.mk (below_step (Hu HB.out) hb);clear HO_0;clear HO_3;clear HB;have HO_0:=n0_;have HO_3:=n1_;have HO850:=n2_;have HB:=n3_;clear n0_ n1_ n2_ n3_;clear hb ho13;obtain ⟨Ao14,co14,eo14⟩:=Kd.R_slice HO_3.out;subst eo14))
     go_loopg [8,9] k1 (fun kq v8 v9 w'=>∃ (x8_2 : List Int) (x9_2 : Int),v9 = .int .i64 x9_2 ∧ Aside0 (penumbraref04_Natural.l1 kq x3_1 x8_2 x9_2 = some r) ∧ Aside0 (kq ≤ k1) ∧ Aside0 (Kd.R (Kd.int .u8) 5 w' w.heap.size (fun k_=>(w.heap.size ≤ k_) ∧ some k_ ≠ (v8 : Value).ownBlock) (.slice Ao14 x3_1.length co14) x3_1) ∧ Aside0 (Kd.R (Kd.int .u8) 5 w' w.heap.size (fun k_=>(w.heap.size ≤ k_) ∧ some k_ ≠ ((.slice Ao14 x3_1.length co14) : Value).ownBlock) v8 x8_2) ∧ Aside0 (Below w.heap.size w w'))
     case atStart=>exact ⟨(y848),(wrap64 ((x3_1.length : Int) - 1)),(by first|rfl|(simp;done)|(simp [*];done)),H',⟨Nat.le_refl _⟩,⟨Ru HO_3.out⟩,⟨by (with_reducible repeat (first|apply Ra|apply Rn|apply Rd));exact Kd.R_mono HO850.out (fun _ hk=>⟨hk.1.1,hk.2⟩)⟩,⟨Hu HB.out⟩⟩
     case round =>
      clear H'
      obtain ⟨x8_2,x9_2,rfl,HA,HK2,HO_3,HO_8,HB⟩:=hrel
      cases gk with
     |zero=>exact absurd HA.out (by simp [penumbraref04_Natural.l1])
     |succ k2 =>
       have H:=HA.out
       clear HA
       simp only [penumbraref04_Natural.l1] at H
       by_cases c15 : x9_2 ≥ 0
       ·rw [if_pos c15] at H
        have c15b0 : decide (0 ≤ x9_2) = true:=decide_eq_true c15
        clear c15
        by_cases c16 : 0 ≤ x9_2
        case neg =>rw [if_neg c16] at H;exact absurd H (by simp)
        rw [if_pos c16] at H
        have c16b0 : decide (0 ≤ x9_2) = true:=decide_eq_true c16
        clear c16
        by_cases c17 : x9_2 < (x3_1.length : Int)
        case neg =>rw [if_neg c17] at H;exact absurd H (by simp)
        rw [if_pos c17] at H
        have c17b0 : decide (x9_2 < (x3_1.length : Int)) = true:=decide_eq_true c17
        clear c17
        by_cases c18 : x8_2.length < 140737488355328
        case neg =>rw [if_neg c18] at H;exact absurd H (by simp)
        rw [if_pos c18] at H
        have LMc18:=Aside0.mk c18
        clear c18
        obtain ⟨y852,hy852⟩ : ∃ y_ : List Int,y_ = (x8_2 ++ [rd x3_1 x9_2]):=⟨_,rfl⟩
        replace H : (penumbraref04_Natural.l1 k2 x3_1 y852 (wrap64 (x9_2 - 1))) = some r:=by first|(rw [hy852];with_reducible exact H)|(have H2_:=(Option.bind_some _ _).symm.trans H;rw [hy852];with_reducible exact H2_)|(have H2_:=(Option.bind_some _ _).symm.trans H;with_reducible exact H2_)|with_reducible exact H|(rw [hy852];exact H)|exact H
        have Ny852:=Aside0.mk hy852
        clear hy852
        have H':=Aside0.mk H
        clear H
        have p851 : 0 ≤ (x9_2 : Int):=of_decide_eq_true (by assumption)
        have q851 : x9_2 < (x3_1.length : Int):=of_decide_eq_true (by assumption)
        obtain ⟨ad851,e851,hx851_0⟩:=Kd.at_int (Kd.R_reads' HO_3.out).2.2 x9_2 p851 q851
        cases e851
        replace p851:=eq_true p851
        replace q851:=eq_true q851
        go_wp2_with (first|((with_reducible refine gate_builtin (b:=.append) (xs:=#[.tmp 44,.tmp 49]) rfl ?_);at_builtin;refine Kd.R_append (Kd.int .u8) (w0:=w) w.heap.size rfl (.tmp 44) (.tmp 49) 39 5 (.int .u8 0) 1 rfl Tryd.underlying39 info5 rfl (by decide) (by omega) u8 x8_2 (rd x3_1 x9_2) [.int .u8 (rd x3_1 x9_2)] (fun k_=>(w.heap.size ≤ k_) ∧ some k_ ≠ (.slice (some ad851) x3_1.length co14 : Value).ownBlock) (fun _=>False) rfl rfl ?aP (fun _ hk=>hk.elim) ?aF ?aO ?aB ?aS ?aL ?_;(case aP=>exact rfl);(case aB=>exact (Hu HB.out));(case aF=>exact (fun k_ hk=>⟨(Nat.le_trans (below_size (Hu HB.out)) hk),Kd.fresh' (Kd.R_lt (Ru HO_3.out)) k_ hk⟩));(case aO=>exact (Ru HO_8.out));(case aS=>exact (below_size (Hu HB.out)));(case aL=>have:=LMc18.out;omega);intro v853 w19 ho hb hg hat;rw [← Ny852.out] at ho;have n0_:=Aside0.mk (Kd.R_after (ok:=(fun k_=>(w.heap.size ≤ k_))) (Ru HO_3.out) hg hat);have n1_:=Aside0.mk (hb);have n2_:=Aside0.mk (ho);clear HO_3;clear HB;clear HO_8;have HO_3:=n0_;have HB:=n1_;have HO854:=n2_;clear n0_ n1_ n2_;clear ho hb hg hat))
        go_roundg k2
        case measure=>have:=HK1.out;have:=HK2.out;omega
        case rel=>exact ⟨(y852),(wrap64 (x9_2 - 1)),(by first|rfl|(simp;done)|(simp [*];done)),H',⟨by have:=HK1.out;have:=HK2.out;omega⟩,⟨Ru HO_3.out⟩,⟨Ru HO854.out⟩,⟨Hu HB.out⟩⟩
       ·rw [if_neg c15] at H
        have c15b0 : decide (0 ≤ x9_2) = false:=decide_eq_false c15
        clear c15
        obtain rfl:=Option.some.inj H
        have hcv20:=own_string (P:=Tryd.prog) Tryd.underlying39 Tryd.underlying5 Tryd.underlying9 (Kd.own_of_R HO_8.out)
        go_wp2
        go_ret
        exact ⟨by first|rfl|(simp [errW_none,errW_some] <;> rfl)|(simp [*,errW_none,errW_some] <;> rfl),Hu HB.out⟩
    ·replace c9:=Bool.eq_false_iff.mpr c9
     subst c9
     rw [if_neg (show ¬ (false = true) by decide)] at H
     obtain ⟨y831,hy831⟩ : ∃ y_ : List Int,y_ = (([10] : List Int)):=⟨_,rfl⟩
     replace H : ((penumbraref01_DivMod.f k1 x0_1 y831).bind fun bt834=>(if (bt834.2.1.length : Int) > 0 then (if 0 < (bt834.2.1.length : Int) then (if x3_1.length < 140737488355328 then (penumbraref04_Natural.l0 k1 bt834.1 (x3_1 ++ [(48 + (rd bt834.2.1 0)) % 256])) else (none)) else (none)) else (if x3_1.length < 140737488355328 then (penumbraref04_Natural.l0 k1 bt834.1 (x3_1 ++ [48])) else (none)))) = some r:=by first|(rw [hy831];with_reducible exact H)|(have H2_:=(Option.bind_some _ _).symm.trans H;rw [hy831];with_reducible exact H2_)|(have H2_:=(Option.bind_some _ _).symm.trans H;with_reducible exact H2_)|with_reducible exact H|(rw [hy831];exact H)|exact H
     have Ny831:=Aside0.mk hy831
     clear hy831
     replace H:=Option.bind_eq_some_iff.mp H
     obtain ⟨⟨t834,t835,t836⟩,A210,H⟩:=H
     try dsimp only at H
     have A21:=Aside0.mk A210
     clear A210
     by_cases c22 : (t835.length : Int) > 0
     ·rw [if_pos c22] at H
      have c22b0 : decide (0 < (t835.length : Int)) = true:=decide_eq_true c22
      have c22b1 : decide (0 < t835.length) = true:=decide_eq_true (by omega)
      clear c22
      by_cases c23 : 0 < (t835.length : Int)
      case neg =>rw [if_neg c23] at H;exact absurd H (by simp)
      rw [if_pos c23] at H
      have c23b0 : decide (0 < (t835.length : Int)) = true:=decide_eq_true c23
      have c23b1 : decide (0 < t835.length) = true:=decide_eq_true (by omega)
      clear c23
      by_cases c24 : x3_1.length < 140737488355328
      case neg =>rw [if_neg c24] at H;exact absurd H (by simp)
      rw [if_pos c24] at H
      have LMc24:=Aside0.mk c24
      clear c24
      obtain ⟨y842,hy842⟩ : ∃ y_ : List Int,y_ = (x3_1 ++ [(48 + (rd t835 0)) % 256]):=⟨_,rfl⟩
      replace H : (penumbraref04_Natural.l0 k1 t834 y842) = some r:=by first|(rw [hy842];with_reducible exact H)|(have H2_:=(Option.bind_some _ _).symm.trans H;rw [hy842];with_reducible exact H2_)|(have H2_:=(Option.bind_some _ _).symm.trans H;with_reducible exact H2_)|with_reducible exact H|(rw [hy842];exact H)|exact H
      have Ny842:=Aside0.mk hy842
      clear hy842
      have H':=Aside0.mk H
      clear H
      obtain ⟨Ao25,co25,eo25⟩:=Kd.V_slice HO_0.out
      subst eo25
      go_wp2_with (first|((with_reducible refine gate_callee (f:=33) rfl ?_);refine goesL_ (some 14) rfl rfl Tryd.func33 (by kernel_rfl) rfl #[.slice Ao25 x0_1.length co25] rfl (by (try simp only [List.map_toArray,List.map_cons,List.map_nil]);first|done|rfl) ?_;(with_reducible refine (penumbraref01_Zero.calls k1 _ _ x0_1 false _ ?side1 ?side2 A8.out).mono ?_);(case side1=>repeat (first|exact (Kd.V_reads' HO_0.out).2.2|(with_reducible refine Kd.C_alloc ?_ _)|(with_reducible refine Kd.C_drewN ?_ _)|(with_reducible refine Kd.C_drew ?_)));(case side2=>exact (Kd.V_reads' HO_0.out).2.1);rintro e w26 ⟨rfl,hb⟩;refine ⟨_,rfl,?_⟩;have n0_:=Aside0.mk (Kd.V_below (by (with_reducible repeat (first|apply Kd.V_alloc|apply Kd.V_drewN|apply Kd.V_drew));exact HO_0.out) hb);have n1_:=Aside0.mk (Kd.R_below (Ru HO_3.out) hb);have n2_:=Aside0.mk (below_step (Hu HB.out) hb);clear HO_0;clear HO_3;clear HB;have HO_0:=n0_;have HO_3:=n1_;have HB:=n2_;clear n0_ n1_ n2_)|((with_reducible refine gate_dst (N:=18) rfl ?_);refine Kd.R_lit (Kd.int .u32) _ 35 ?hg (N:=18) ?hd (xs:=([10] : List Int)) (inner:=[.int .u32 10]) (ok:=fun _=>True) (okp:=fun _=>True) ?hr ?hp (fun _ hk=>hk) trivial (Below.refl _ _) (Nat.le_refl _) (by simp) ?_;(case hd=>rfl);(case hg=>rfl);(case hr=>first|(go_simp;done)|(go_simp;(with_reducible rfl))|(go_simp;rfl)|(go_simp;simp only [hu,Int.emod_sub_emod]));(case hp=>exact (Reps.one (show Kd.M (Kd.int .u32) _ _ _ 10 [.int .u32 10] from rfl) (Reps.none _ _)));intro v832 w27 ho28 hb hg_ hnew_;clear hg_ hnew_;(first|rw [← Ny831.out] at ho28|(simp only [Int.reduceToNat] at ho28;rw [← Ny831.out] at ho28));have n0_:=Aside0.mk (Kd.V_elder' (by (with_reducible repeat (first|apply Kd.V_alloc|apply Kd.V_drewN|apply Kd.V_drew));exact HO_0.out) (Kd.R_base ho28) hb);have n1_:=Aside0.mk (Kd.R_below (Ru HO_3.out) hb);have n2_:=Aside0.mk (Kd.R_lower (Kd.R_newM (M:=fun k_=>(w.heap.size ≤ k_)) ho28 (below_size (Hu HB.out)) (fun k_ h_=>h_)) (below_size (Hu HB.out)));have n3_:=Aside0.mk (below_step (Hu HB.out) hb);clear HO_0;clear HO_3;clear HB;have HO_0:=n0_;have HO_3:=n1_;have HO833:=n2_;have HB:=n3_;clear n0_ n1_ n2_ n3_;clear hb ho28;obtain ⟨Ao29,co29,eo29⟩:=Kd.R_slice HO833.out;subst eo29)|((with_reducible refine gate_callee (f:=42) rfl ?_);refine goesL_ (some 19) rfl rfl Tryd.func42 (by kernel_rfl) rfl #[.slice Ao25 x0_1.length co25,.slice Ao29 y831.length co29] rfl (by (try simp only [List.map_toArray,List.map_cons,List.map_nil]);first|done|rfl) ?_;(with_reducible refine (penumbraref01_DivMod.calls k1 _ _ x0_1 _ _ y831 t834 t835 t836 _ ?side1 ?side2 ?side3 ?side4 A21.out).mono ?_);(case side1=>repeat (first|exact (Kd.V_reads' HO_0.out).2.2|(with_reducible refine Kd.C_alloc ?_ _)|(with_reducible refine Kd.C_drewN ?_ _)|(with_reducible refine Kd.C_drew ?_)));(case side2=>exact (Kd.V_reads' HO_0.out).2.1);(case side3=>exact Cu (Kd.R_reads' HO833.out).2.2);(case side4=>exact (Kd.R_reads' HO833.out).2.1);rintro e w30 ⟨v837,v839,rfl,ho0,ho1,hb⟩;refine ⟨_,rfl,?_⟩;have n0_:=Aside0.mk (Kd.V_mono (Kd.V_told (Kd.V_told (Kd.V_old (by (with_reducible repeat (first|apply Kd.V_alloc|apply Kd.V_drewN|apply Kd.V_drew));exact HO_0.out) hb) (Kd.R_base ho0)) (Kd.R_base ho1)) (fun _ h_=>h_.1));have n1_:=Aside0.mk (Kd.R_below (Ru HO_3.out) hb);have n2_:=Aside0.mk (Kd.R_mono (Kd.R_told (Kd.R_told (Kd.R_old (Ru HO833.out) hb) (Kd.R_base ho0)) (Kd.R_base ho1)) (fun _ h_=>h_.1));have n3_:=Aside0.mk (Kd.R_lower (Kd.R_new' (Kd.R_newM (M:=fun k_=>(w.heap.size ≤ k_)) ho0 (below_size (Hu HB.out)) (fun k_ h_=>h_)) (Kd.R_lt (Ru HO833.out))) (below_size (Hu HB.out)));have n4_:=Aside0.mk (Kd.R_lower (Kd.R_new' (Kd.R_newM (M:=fun k_=>(w.heap.size ≤ k_)) ho1 (below_size (Hu HB.out)) (fun k_ h_=>h_)) (Kd.R_lt (Ru HO833.out))) (below_size (Hu HB.out)));have n5_:=Aside0.mk (below_step (Hu HB.out) hb);clear HO_0;clear HO_3;clear HO833;clear HB;have HO_0:=n0_;have HO_3:=n1_;have HO833:=n2_;have HO838:=n3_;have HO840:=n4_;have HB:=n5_;clear n0_ n1_ n2_ n3_ n4_ n5_;obtain ⟨Ao31,co31,eo31⟩:=Kd.R_slice HO840.out;subst eo31;have p841 : 0 ≤ (0 : Int):=(by omega);have q841 : 0 < (t835.length : Int):=of_decide_eq_true (by assumption);obtain ⟨ad841,e841,hx841_0⟩:=Kd.at_int (Kd.R_reads' HO840.out).2.2 0 p841 q841;cases e841;have qi841 : (0 < t835.length) = True:=eq_true (by omega);(try rw [show ((0 : Int)).toNat = 0 from rfl] at hx841_0);(try rw [Addr.add_zero'] at hx841_0);replace p841:=eq_true p841;replace q841:=eq_true q841)|((with_reducible refine gate_builtin (b:=.append) (xs:=#[.tmp 31,.tmp 33]) rfl ?_);at_builtin;refine Kd.R_append (Kd.int .u8) (w0:=w) w.heap.size rfl (.tmp 31) (.tmp 33) 39 5 (.int .u8 0) 1 rfl Tryd.underlying39 info5 rfl (by decide) (by omega) u3 x3_1 ((48 + (rd t835 0)) % 256) [.int .u8 ((48 + (rd t835 0)) % 256)] (fun k_=>(w.heap.size ≤ k_)) (fun _=>False) rfl rfl ?aP (fun _ hk=>hk.elim) ?aF ?aO ?aB ?aS ?aL ?_;(case aP=>exact rfl);(case aB=>exact (Hu HB.out));(case aF=>exact (fun k_ hk=>(Nat.le_trans (below_size (Hu HB.out)) hk)));(case aO=>exact (Ru HO_3.out));(case aS=>exact (below_size (Hu HB.out)));(case aL=>have:=LMc24.out;omega);intro v843 w32 ho hb hg hat;rw [← Ny842.out] at ho;have n0_:=Aside0.mk (Kd.V_afterv (ok:=(fun k_=>(P0_ k_ ∨ w.heap.size ≤ k_) ∧ some k_ ≠ (.slice Ao29 y831.length co29 : Value).ownBlock ∧ some k_ ≠ (v837 : Value).ownBlock ∧ some k_ ≠ (.slice (some ad841) t835.length co31 : Value).ownBlock)) (by (with_reducible repeat (first|apply Kd.V_alloc|apply Kd.V_drewN|apply Kd.V_drew));exact Kd.V_mono HO_0.out (fun _ hk=>⟨⟨hk.1.1.1.1,⟨hk.1.1.2,⟨hk.1.2,hk.2⟩⟩⟩,hk.1.1.1.2⟩)) hg hat);have n1_:=Aside0.mk (Kd.R_over' (Ru HO833.out) (Kd.R_typed (Ru HO_3.out)) (by decide) hg);have n2_:=Aside0.mk (Kd.R_over' (Ru HO838.out) (Kd.R_typed (Ru HO_3.out)) (by decide) hg);have n3_:=Aside0.mk (Kd.R_over' (Ru HO840.out) (Kd.R_typed (Ru HO_3.out)) (by decide) hg);have n4_:=Aside0.mk (hb);have n5_:=Aside0.mk (ho);clear HO_0;clear HO833;clear HO838;clear HO840;clear HB;clear HO_3;have HO_0:=n0_;have HO833:=n1_;have HO838:=n2_;have HO840:=n3_;have HB:=n4_;have HO844:=n5_;clear n0_ n1_ n2_ n3_ n4_ n5_;clear ho hb hg hat))
      go_roundg k1
      case measure=>have:=HK1.out;omega
      case rel=>exact ⟨(t834),(y842),H',⟨by have:=HK1.out;omega⟩,⟨Kd.V_mono (Kd.R_V (ok:=fun k_=>(w.heap.size ≤ k_) ∧ some k_ ≠ (v843 : Value).ownBlock) (by (with_reducible repeat (first|apply Ra|apply Rn|apply Rd));exact Kd.R_mono (Kd.R_apart' HO838.out (Kd.R_typed HO844.out) (by decide)) (fun _ hk=>⟨hk.1.1.1,hk.2⟩))) (fun k_ hk=>by first|exact ⟨(.inr (hk.1)),hk.2⟩|exact (.inr (hk)))⟩,⟨Ru HO844.out⟩,⟨Hu HB.out⟩⟩
     ·rw [if_neg c22] at H
      have c22b0 : decide (0 < (t835.length : Int)) = false:=decide_eq_false c22
      have c22b1 : decide (0 < t835.length) = false:=decide_eq_false (by omega)
      clear c22
      by_cases c33 : x3_1.length < 140737488355328
      case neg =>rw [if_neg c33] at H;exact absurd H (by simp)
      rw [if_pos c33] at H
      have LMc33:=Aside0.mk c33
      clear c33
      obtain ⟨y845,hy845⟩ : ∃ y_ : List Int,y_ = (x3_1 ++ [48]):=⟨_,rfl⟩
      replace H : (penumbraref04_Natural.l0 k1 t834 y845) = some r:=by first|(rw [hy845];with_reducible exact H)|(have H2_:=(Option.bind_some _ _).symm.trans H;rw [hy845];with_reducible exact H2_)|(have H2_:=(Option.bind_some _ _).symm.trans H;with_reducible exact H2_)|with_reducible exact H|(rw [hy845];exact H)|exact H
      have Ny845:=Aside0.mk hy845
      clear hy845
      have H':=Aside0.mk H
      clear H
      obtain ⟨Ao34,co34,eo34⟩:=Kd.V_slice HO_0.out
      subst eo34
      go_wp2_with (first|((with_reducible refine gate_callee (f:=33) rfl ?_);refine goesL_ (some 14) rfl rfl Tryd.func33 (by kernel_rfl) rfl #[.slice Ao34 x0_1.length co34] rfl (by (try simp only [List.map_toArray,List.map_cons,List.map_nil]);first|done|rfl) ?_;(with_reducible refine (penumbraref01_Zero.calls k1 _ _ x0_1 false _ ?side1 ?side2 A8.out).mono ?_);(case side1=>repeat (first|exact (Kd.V_reads' HO_0.out).2.2|(with_reducible refine Kd.C_alloc ?_ _)|(with_reducible refine Kd.C_drewN ?_ _)|(with_reducible refine Kd.C_drew ?_)));(case side2=>exact (Kd.V_reads' HO_0.out).2.1);rintro e w35 ⟨rfl,hb⟩;refine ⟨_,rfl,?_⟩;have n0_:=Aside0.mk (Kd.V_below (by (with_reducible repeat (first|apply Kd.V_alloc|apply Kd.V_drewN|apply Kd.V_drew));exact HO_0.out) hb);have n1_:=Aside0.mk (Kd.R_below (Ru HO_3.out) hb);have n2_:=Aside0.mk (below_step (Hu HB.out) hb);clear HO_0;clear HO_3;clear HB;have HO_0:=n0_;have HO_3:=n1_;have HB:=n2_;clear n0_ n1_ n2_)|((with_reducible refine gate_dst (N:=18) rfl ?_);refine Kd.R_lit (Kd.int .u32) _ 35 ?hg (N:=18) ?hd (xs:=([10] : List Int)) (inner:=[.int .u32 10]) (ok:=fun _=>True) (okp:=fun _=>True) ?hr ?hp (fun _ hk=>hk) trivial (Below.refl _ _) (Nat.le_refl _) (by simp) ?_;(case hd=>rfl);(case hg=>rfl);(case hr=>first|(go_simp;done)|(go_simp;(with_reducible rfl))|(go_simp;rfl)|(go_simp;simp only [hu,Int.emod_sub_emod]));(case hp=>exact (Reps.one (show Kd.M (Kd.int .u32) _ _ _ 10 [.int .u32 10] from rfl) (Reps.none _ _)));intro v832 w36 ho37 hb hg_ hnew_;clear hg_ hnew_;(first|rw [← Ny831.out] at ho37|(simp only [Int.reduceToNat] at ho37;rw [← Ny831.out] at ho37));have n0_:=Aside0.mk (Kd.V_elder' (by (with_reducible repeat (first|apply Kd.V_alloc|apply Kd.V_drewN|apply Kd.V_drew));exact HO_0.out) (Kd.R_base ho37) hb);have n1_:=Aside0.mk (Kd.R_below (Ru HO_3.out) hb);have n2_:=Aside0.mk (Kd.R_lower (Kd.R_newM (M:=fun k_=>(w.heap.size ≤ k_)) ho37 (below_size (Hu HB.out)) (fun k_ h_=>h_)) (below_size (Hu HB.out)));have n3_:=Aside0.mk (below_step (Hu HB.out) hb);clear HO_0;clear HO_3;clear HB;have HO_0:=n0_;have HO_3:=n1_;have HO833:=n2_;have HB:=n3_;clear n0_ n1_ n2_ n3_;clear hb ho37;obtain ⟨Ao38,co38,eo38⟩:=Kd.R_slice HO833.out;subst eo38)|((with_reducible refine gate_callee (f:=42) rfl ?_);refine goesL_ (some 19) rfl rfl Tryd.func42 (by kernel_rfl) rfl #[.slice Ao34 x0_1.length co34,.slice Ao38 y831.length co38] rfl (by (try simp only [List.map_toArray,List.map_cons,List.map_nil]);first|done|rfl) ?_;(with_reducible refine (penumbraref01_DivMod.calls k1 _ _ x0_1 _ _ y831 t834 t835 t836 _ ?side1 ?side2 ?side3 ?side4 A21.out).mono ?_);(case side1=>repeat (first|exact (Kd.V_reads' HO_0.out).2.2|(with_reducible refine Kd.C_alloc ?_ _)|(with_reducible refine Kd.C_drewN ?_ _)|(with_reducible refine Kd.C_drew ?_)));(case side2=>exact (Kd.V_reads' HO_0.out).2.1);(case side3=>exact Cu (Kd.R_reads' HO833.out).2.2);(case side4=>exact (Kd.R_reads' HO833.out).2.1);rintro e w39 ⟨v837,v839,rfl,ho0,ho1,hb⟩;refine ⟨_,rfl,?_⟩;have n0_:=Aside0.mk (Kd.V_mono (Kd.V_told (Kd.V_told (Kd.V_old (by (with_reducible repeat (first|apply Kd.V_alloc|apply Kd.V_drewN|apply Kd.V_drew));exact HO_0.out) hb) (Kd.R_base ho0)) (Kd.R_base ho1)) (fun _ h_=>h_.1));have n1_:=Aside0.mk (Kd.R_below (Ru HO_3.out) hb);have n2_:=Aside0.mk (Kd.R_mono (Kd.R_told (Kd.R_told (Kd.R_old (Ru HO833.out) hb) (Kd.R_base ho0)) (Kd.R_base ho1)) (fun _ h_=>h_.1));have n3_:=Aside0.mk (Kd.R_lower (Kd.R_new' (Kd.R_newM (M:=fun k_=>(w.heap.size ≤ k_)) ho0 (below_size (Hu HB.out)) (fun k_ h_=>h_)) (Kd.R_lt (Ru HO833.out))) (below_size (Hu HB.out)));have n4_:=Aside0.mk (Kd.R_lower (Kd.R_new' (Kd.R_newM (M:=fun k_=>(w.heap.size ≤ k_)) ho1 (below_size (Hu HB.out)) (fun k_ h_=>h_)) (Kd.R_lt (Ru HO833.out))) (below_size (Hu HB.out)));have n5_:=Aside0.mk (below_step (Hu HB.out) hb);clear HO_0;clear HO_3;clear HO833;clear HB;have HO_0:=n0_;have HO_3:=n1_;have HO833:=n2_;have HO838:=n3_;have HO840:=n4_;have HB:=n5_;clear n0_ n1_ n2_ n3_ n4_ n5_;obtain ⟨Ao40,co40,eo40⟩:=Kd.R_slice HO840.out;subst eo40)|((with_reducible refine gate_builtin (b:=.append) (xs:=#[.tmp 31,.tmp 33]) rfl ?_);at_builtin;refine Kd.R_append (Kd.int .u8) (w0:=w) w.heap.size rfl (.tmp 31) (.tmp 33) 39 5 (.int .u8 0) 1 rfl Tryd.underlying39 info5 rfl (by decide) (by omega) u3 x3_1 48 [.int .u8 48] (fun k_=>(w.heap.size ≤ k_)) (fun _=>False) rfl rfl ?aP (fun _ hk=>hk.elim) ?aF ?aO ?aB ?aS ?aL ?_;(case aP=>exact rfl);(case aB=>exact (Hu HB.out));(case aF=>exact (fun k_ hk=>(Nat.le_trans (below_size (Hu HB.out)) hk)));(case aO=>exact (Ru HO_3.out));(case aS=>exact (below_size (Hu HB.out)));(case aL=>have:=LMc33.out;omega);intro v846 w41 ho hb hg hat;rw [← Ny845.out] at ho;have n0_:=Aside0.mk (Kd.V_afterv (ok:=(fun k_=>(P0_ k_ ∨ w.heap.size ≤ k_) ∧ some k_ ≠ (.slice Ao38 y831.length co38 : Value).ownBlock ∧ some k_ ≠ (v837 : Value).ownBlock ∧ some k_ ≠ (.slice Ao40 t835.length co40 : Value).ownBlock)) (by (with_reducible repeat (first|apply Kd.V_alloc|apply Kd.V_drewN|apply Kd.V_drew));exact Kd.V_mono HO_0.out (fun _ hk=>⟨⟨hk.1.1.1.1,⟨hk.1.1.2,⟨hk.1.2,hk.2⟩⟩⟩,hk.1.1.1.2⟩)) hg hat);have n1_:=Aside0.mk (Kd.R_over' (Ru HO833.out) (Kd.R_typed (Ru HO_3.out)) (by decide) hg);have n2_:=Aside0.mk (Kd.R_over' (Ru HO838.out) (Kd.R_typed (Ru HO_3.out)) (by decide) hg);have n3_:=Aside0.mk (Kd.R_over' (Ru HO840.out) (Kd.R_typed (Ru HO_3.out)) (by decide) hg);have n4_:=Aside0.mk (hb);have n5_:=Aside0.mk (ho);clear HO_0;clear HO833;clear HO838;clear HO840;clear HB;clear HO_3;have HO_0:=n0_;have HO833:=n1_;have HO838:=n2_;have HO840:=n3_;have HB:=n4_;have HO847:=n5_;clear n0_ n1_ n2_ n3_ n4_ n5_;clear ho hb hg hat))
      go_roundg k1
      case measure=>have:=HK1.out;omega
      case rel=>exact ⟨(t834),(y845),H',⟨by have:=HK1.out;omega⟩,⟨Kd.V_mono (Kd.R_V (ok:=fun k_=>(w.heap.size ≤ k_) ∧ some k_ ≠ (v846 : Value).ownBlock) (by (with_reducible repeat (first|apply Ra|apply Rn|apply Rd));exact Kd.R_mono (Kd.R_apart' HO838.out (Kd.R_typed HO847.out) (by decide)) (fun _ hk=>⟨hk.1.1.1,hk.2⟩))) (fun k_ hk=>by first|exact ⟨(.inr (hk.1)),hk.2⟩|exact (.inr (hk)))⟩,⟨Ru HO847.out⟩,⟨Hu HB.out⟩⟩
end Go.Proofs.YtncdiodnbkhacaaDoor.Pq
end
section
namespace Go.Proofs.YtncdiodnbkhacaaDoor.Pq
open Go.RowKit Go.Proofs.YtncdiodnbkhacaaDoorW.PrintWords Go.Proofs.YtncdiodnbkhacaaDoorW.PrintLast Go.Proofs.YtncdiodnbkhacaaDoorW.PrintMore
attribute [local go_sem] max2_int min2_int max_two min_two max_three min_three max_four min_four
set_option linter.unusedVariables false
set_option linter.unusedSimpArgs false
set_option maxHeartbeats 8000000 in
set_option maxRecDepth 100000 in
theorem penumbraref04_Print.calls (k : Nat) (a0_0 : Bool) (A0_1 : Option Addr) (c0_1 : Nat) (l0_1 : List Int) (A0_2 : Option Addr) (c0_2 : Nat) (l0_2 : List Int) (r : ByteArray) (w : World) (hr0_1 : Kd.C (Kd.int .u32) w A0_1 l0_1.length l0_1) (hc0_1 : l0_1.length ≤ c0_1) (hr0_2 : Kd.C (Kd.int .u32) w A0_2 l0_2.length l0_2) (hc0_2 : l0_2.length ≤ c0_2) (h : penumbraref04_Print.f k a0_0 l0_1 l0_2 = some r) :
  Calls Tryd.prog 13 #[.agg #[.bool a0_0,.slice A0_1 l0_1.length c0_1,.slice A0_2 l0_2.length c0_2]] w fun e w'=>e = .returned (.string r) ∧ Below w.heap.size w w':=by
 have hu25:=Tryd.underlying25
 have HR0_1:=Aside0.mk hr0_1
 have HC0_1:=Aside0.mk hc0_1
 clear hr0_1 hc0_1
 have HR0_2:=Aside0.mk hr0_2
 have HC0_2:=Aside0.mk hc0_2
 clear hr0_2 hc0_2
 have HB:=Aside0.mk (Below.refl w.heap.size w)
 have H : ((penumbraref03_Read.f k a0_0 l0_1 l0_2).bind fun bt856=>(if bt856.1 = true then (penumbraref04_Print.j0 k (⟨#[45]⟩ : ByteArray) bt856.1 bt856.2.1 bt856.2.2) else (penumbraref04_Print.j0 k (⟨#[]⟩ : ByteArray) bt856.1 bt856.2.1 bt856.2.2))) = some r:=h
 clear h
 replace H:=Option.bind_eq_some_iff.mp H
 obtain ⟨⟨t856,t857,t860⟩,A20,H⟩:=H
 try dsimp only at H
 have A2:=Aside0.mk A20
 clear A20
 have HC3:=Aside0.mk H
 clear H
 go_enter Tryd.func13,Tryd.ntmps13
 go_upto_if 8 with (first|((with_reducible refine gate_dst (N:=1) rfl ?_);refine box_event ?hg (N:=1) ?hd (cs:=#[.bool a0_0,.slice A0_1 l0_1.length c0_1,.slice A0_2 l0_2.length c0_2]) (t:=25) ?hr ?_;(case hd=>rfl);(case hg=>rfl);(case hr=>first|(go_simp;done)|(go_simp;(with_reducible rfl))|(go_simp;rfl)|(go_simp;simp only [hu,Int.emod_sub_emod]));intro gb855 hg w4 hbox hb;have n0_:=Aside0.mk (below_step (Hu HB.out) hb);have n1_:=Aside0.mk (hbox);have n2_:=Aside0.mk ((by rw [hg];exact (below_size (Hu HB.out)) : w.heap.size ≤ gb855));have n3_:=Aside0.mk ((by rw [hg];exact (below_size (Hu HB.out)) : w.heap.size ≤ gb855));clear HB;have HB:=n0_;have BK855:=n1_;have GW855:=n2_;have GE855:=n3_;clear n0_ n1_ n2_ n3_;clear hb hbox hg;have hcz5_0 : w4.cell? ⟨gb855,0,none⟩ = some (.bool a0_0):=(blk_cell BK855.out 0).trans rfl;have hcz5_1 : w4.cell? ⟨gb855,1,none⟩ = some (.slice A0_1 l0_1.length c0_1):=(blk_cell BK855.out 1).trans rfl;have hcz5_2 : w4.cell? ⟨gb855,2,none⟩ = some (.slice A0_2 l0_2.length c0_2):=(blk_cell BK855.out 2).trans rfl;have hfz5_0:=blk_frozen BK855.out 0;have hfz5_1:=blk_frozen BK855.out 1;have hfz5_2:=blk_frozen BK855.out 2)|((with_reducible refine gate_callee (f:=34) rfl ?_);refine goesL_ (some 6) rfl rfl Tryd.func34 (by kernel_rfl) rfl #[.agg #[.bool a0_0,.slice A0_1 l0_1.length c0_1,.slice A0_2 l0_2.length c0_2]] rfl (by (try simp only [List.map_toArray,List.map_cons,List.map_nil]);first|done|rfl) ?_;(with_reducible refine (penumbraref03_Read.calls k a0_0 _ _ l0_1 _ _ l0_2 t856 t857 t860 _ ?side1 ?side2 ?side3 ?side4 A2.out).mono ?_);(case side1=>repeat (first|exact (Kd.C_below HR0_1.out HB.out)|(with_reducible refine Kd.C_alloc ?_ _)|(with_reducible refine Kd.C_drewN ?_ _)|(with_reducible refine Kd.C_drew ?_)));(case side2=>exact HC0_1.out);(case side3=>repeat (first|exact (Kd.C_below HR0_2.out HB.out)|(with_reducible refine Kd.C_alloc ?_ _)|(with_reducible refine Kd.C_drewN ?_ _)|(with_reducible refine Kd.C_drew ?_)));(case side4=>exact HC0_2.out);rintro e w6 ⟨v858,v861,rfl,ho0,ho1,hb⟩;refine ⟨_,rfl,?_⟩;have n0_:=Aside0.mk (Kd.R_lower ho0 (below_size (by repeat (first|with_reducible exact HB.out|apply ba|apply bn|apply b1|refine below_set ?_ GE855.out))));have n1_:=Aside0.mk (Kd.R_lower ho1 (below_size (by repeat (first|with_reducible exact HB.out|apply ba|apply bn|apply b1|refine below_set ?_ GE855.out))));have n2_:=Aside0.mk (blk_below (g:=gb855) (o:=.cells #[.bool a0_0,.slice A0_1 l0_1.length c0_1,.slice A0_2 l0_2.length c0_2] 25 (0,0)) (Bu BK855.out) hb);have n3_:=Aside0.mk (below_step (by repeat (first|with_reducible exact HB.out|apply ba|apply bn|apply b1|refine below_set ?_ GE855.out)) hb);clear BK855;clear HB;have HO859:=n0_;have HO862:=n1_;have BK855:=n2_;have HB:=n3_;clear n0_ n1_ n2_ n3_)|((with_reducible refine gate_dst (N:=3) rfl ?_);refine box_event ?hg (N:=3) ?hd (cs:=#[.bool false,.slice none 0 0,.slice none 0 0]) (t:=25) ?hr ?_;(case hd=>rfl);(case hg=>rfl);(case hr=>first|(go_simp;done)|(go_simp;(with_reducible rfl))|(go_simp;rfl)|(go_simp;simp only [hu,Int.emod_sub_emod]));intro gb863 hg w7 hbox hb;have n0_:=Aside0.mk (Kd.R_below (Ru HO859.out) hb);have n1_:=Aside0.mk (Kd.R_below (Ru HO862.out) hb);have n2_:=Aside0.mk (blk_below (g:=gb855) (o:=.cells #[.bool a0_0,.slice A0_1 l0_1.length c0_1,.slice A0_2 l0_2.length c0_2] 25 (0,0)) (Bu BK855.out) hb);have n3_:=Aside0.mk (below_step (by repeat (first|with_reducible exact HB.out|apply ba|apply bn|apply b1|refine below_set ?_ GE855.out)) hb);have n4_:=Aside0.mk (hbox);have n5_:=Aside0.mk ((by rw [hg];exact (below_size (by repeat (first|with_reducible exact HB.out|apply ba|apply bn|apply b1|refine below_set ?_ GE855.out))) : w.heap.size ≤ gb863));have n6_:=Aside0.mk ((by rw [hg];exact (below_size (by repeat (first|with_reducible exact HB.out|apply ba|apply bn|apply b1|refine below_set ?_ GE855.out))) : w.heap.size ≤ gb863));have n7_:=Aside0.mk ((by rw [hg];exact Nat.ne_of_lt (blk_lt (g:=gb855) (o:=.cells #[.bool a0_0,.slice A0_1 l0_1.length c0_1,.slice A0_2 l0_2.length c0_2] 25 (0,0)) (Bu BK855.out)) : gb855 ≠ gb863));have n8_:=Aside0.mk ((by rw [hg];exact Nat.ne_of_gt (blk_lt (g:=gb855) (o:=.cells #[.bool a0_0,.slice A0_1 l0_1.length c0_1,.slice A0_2 l0_2.length c0_2] 25 (0,0)) (Bu BK855.out)) : gb863 ≠ gb855));clear HO859;clear HO862;clear BK855;clear HB;have HO859:=n0_;have HO862:=n1_;have BK855:=n2_;have HB:=n3_;have BK863:=n4_;have GW863:=n5_;have GE863:=n6_;have NB855_863:=n7_;have NB863_855:=n8_;clear n0_ n1_ n2_ n3_ n4_ n5_ n6_ n7_ n8_;clear hb hbox hg;have hnb8:=NB863_855.out;have hnc8:=NB855_863.out;have hcz9_0 : w7.cell? ⟨gb863,0,none⟩ = some (.bool false):=(blk_cell BK863.out 0).trans rfl;have hcz9_1 : w7.cell? ⟨gb863,1,none⟩ = some (.slice none 0 0):=(blk_cell BK863.out 1).trans rfl;have hcz9_2 : w7.cell? ⟨gb863,2,none⟩ = some (.slice none 0 0):=(blk_cell BK863.out 2).trans rfl;have hfz9_0:=blk_frozen BK863.out 0;have hfz9_1:=blk_frozen BK863.out 1;have hfz9_2:=blk_frozen BK863.out 2;obtain ⟨Ao10,co10,eo10⟩:=Kd.R_slice HO859.out;subst eo10;obtain ⟨Ao11,co11,eo11⟩:=Kd.R_slice HO862.out;subst eo11))
 (try simp only [Act.put,s0,s1,s2])
 go_cut [4] (fun v4 wc=>∃ (kq : Nat) (x4_2 : ByteArray),v4 = .string x4_2 ∧ Aside0 (penumbraref04_Print.j0 kq x4_2 t856 t857 t860 = some r) ∧ Aside0 (kq ≤ k) ∧ Aside0 (Kd.R (Kd.int .u32) 35 wc w.heap.size (fun k_=>some k_ ≠ ((.slice Ao11 t860.length co11) : Value).ownBlock) (.slice Ao10 t857.length co10) t857) ∧ Aside0 (Kd.R (Kd.int .u32) 35 wc w.heap.size (fun k_=>some k_ ≠ ((.slice Ao10 t857.length co10) : Value).ownBlock) (.slice Ao11 t860.length co11) t860) ∧ Aside0 (wc.heap[gb855]? = some (.cells #[.bool a0_0,(.slice A0_1 l0_1.length c0_1),(.slice A0_2 l0_2.length c0_2)] 25 (0,0))) ∧ Aside0 (wc.heap[gb863]? = some (.cells #[.bool t856,(.slice Ao10 t857.length co10),(.slice Ao11 t860.length co11)] 25 (0,0))) ∧ Aside0 (Below w.heap.size w wc))
 case first =>
  have H:=HC3.out
  clear HC3
  by_cases c12 : t856 = true
  ·subst c12
   rw [if_pos rfl] at H
   have H':=Aside0.mk H
   clear H
   go_wp2
   go_meet
   case rel=>exact ⟨_,((⟨#[45]⟩ : ByteArray)),(by first|rfl|(simp;done)|(simp [*];done)),H',⟨by first|omega|exact Nat.le_refl _⟩,⟨by (with_reducible repeat (first|apply Ra|apply Rn|apply Rd));exact Kd.R_mono (Kd.R_far (p:=⟨gb863,2,none⟩) (Kd.R_far (p:=⟨gb863,1,none⟩) (Kd.R_far (p:=⟨gb863,0,none⟩) (Kd.R_types HO859.out BK863.out (by decide)) (fun _ hk=>hk.2) (.bool true)) (fun _ hk=>hk.2) (.slice Ao10 t857.length co10)) (fun _ hk=>hk.2) (.slice Ao11 t860.length co11)) (fun _ hk=>hk.1)⟩,⟨by (with_reducible repeat (first|apply Ra|apply Rn|apply Rd));exact Kd.R_mono (Kd.R_far (p:=⟨gb863,2,none⟩) (Kd.R_far (p:=⟨gb863,1,none⟩) (Kd.R_far (p:=⟨gb863,0,none⟩) (Kd.R_types HO862.out BK863.out (by decide)) (fun _ hk=>hk.2) (.bool true)) (fun _ hk=>hk.2) (.slice Ao10 t857.length co10)) (fun _ hk=>hk.2) (.slice Ao11 t860.length co11)) (fun _ hk=>hk.1)⟩,⟨by (with_reducible repeat (first|refine blk_drewN ?_ _|refine blk_drew ?_|refine blk_alloc ?_ _));refine blk_far ?_ NB855_863.out _;(with_reducible repeat (first|refine blk_drewN ?_ _|refine blk_drew ?_|refine blk_alloc ?_ _));refine blk_far ?_ NB855_863.out _;(with_reducible repeat (first|refine blk_drewN ?_ _|refine blk_drew ?_|refine blk_alloc ?_ _));refine blk_far ?_ NB855_863.out _;(with_reducible repeat (first|refine blk_drewN ?_ _|refine blk_drew ?_|refine blk_alloc ?_ _));exact BK855.out⟩,⟨by (with_reducible repeat (first|refine blk_drewN ?_ _|refine blk_drew ?_|refine blk_alloc ?_ _));refine blk_put (cs:=#[.bool true,.slice Ao10 t857.length co10,.slice none 0 0]) ?_ 2 _ rfl;(with_reducible repeat (first|refine blk_drewN ?_ _|refine blk_drew ?_|refine blk_alloc ?_ _));refine blk_put (cs:=#[.bool true,.slice none 0 0,.slice none 0 0]) ?_ 1 _ rfl;(with_reducible repeat (first|refine blk_drewN ?_ _|refine blk_drew ?_|refine blk_alloc ?_ _));refine blk_put (cs:=#[.bool false,.slice none 0 0,.slice none 0 0]) ?_ 0 _ rfl;(with_reducible repeat (first|refine blk_drewN ?_ _|refine blk_drew ?_|refine blk_alloc ?_ _));exact BK863.out⟩,⟨by repeat (first|with_reducible exact HB.out|apply ba|apply bn|apply b1|refine below_set ?_ GE855.out|refine below_set ?_ GE863.out)⟩⟩
  ·replace c12:=Bool.eq_false_iff.mpr c12
   subst c12
   rw [if_neg (show ¬ (false = true) by decide)] at H
   have H':=Aside0.mk H
   clear H
   go_wp2
   go_meet
   case rel=>exact ⟨_,((⟨#[]⟩ : ByteArray)),(by first|rfl|(simp;done)|(simp [*];done)),H',⟨by first|omega|exact Nat.le_refl _⟩,⟨by (with_reducible repeat (first|apply Ra|apply Rn|apply Rd));exact Kd.R_mono (Kd.R_far (p:=⟨gb863,2,none⟩) (Kd.R_far (p:=⟨gb863,1,none⟩) (Kd.R_far (p:=⟨gb863,0,none⟩) (Kd.R_types HO859.out BK863.out (by decide)) (fun _ hk=>hk.2) (.bool false)) (fun _ hk=>hk.2) (.slice Ao10 t857.length co10)) (fun _ hk=>hk.2) (.slice Ao11 t860.length co11)) (fun _ hk=>hk.1)⟩,⟨by (with_reducible repeat (first|apply Ra|apply Rn|apply Rd));exact Kd.R_mono (Kd.R_far (p:=⟨gb863,2,none⟩) (Kd.R_far (p:=⟨gb863,1,none⟩) (Kd.R_far (p:=⟨gb863,0,none⟩) (Kd.R_types HO862.out BK863.out (by decide)) (fun _ hk=>hk.2) (.bool false)) (fun _ hk=>hk.2) (.slice Ao10 t857.length co10)) (fun _ hk=>hk.2) (.slice Ao11 t860.length co11)) (fun _ hk=>hk.1)⟩,⟨by (with_reducible repeat (first|refine blk_drewN ?_ _|refine blk_drew ?_|refine blk_alloc ?_ _));refine blk_far ?_ NB855_863.out _;(with_reducible repeat (first|refine blk_drewN ?_ _|refine blk_drew ?_|refine blk_alloc ?_ _));refine blk_far ?_ NB855_863.out _;(with_reducible repeat (first|refine blk_drewN ?_ _|refine blk_drew ?_|refine blk_alloc ?_ _));refine blk_far ?_ NB855_863.out _;(with_reducible repeat (first|refine blk_drewN ?_ _|refine blk_drew ?_|refine blk_alloc ?_ _));exact BK855.out⟩,⟨by (with_reducible repeat (first|refine blk_drewN ?_ _|refine blk_drew ?_|refine blk_alloc ?_ _));refine blk_put (cs:=#[.bool false,.slice Ao10 t857.length co10,.slice none 0 0]) ?_ 2 _ rfl;(with_reducible repeat (first|refine blk_drewN ?_ _|refine blk_drew ?_|refine blk_alloc ?_ _));refine blk_put (cs:=#[.bool false,.slice none 0 0,.slice none 0 0]) ?_ 1 _ rfl;(with_reducible repeat (first|refine blk_drewN ?_ _|refine blk_drew ?_|refine blk_alloc ?_ _));refine blk_put (cs:=#[.bool false,.slice none 0 0,.slice none 0 0]) ?_ 0 _ rfl;(with_reducible repeat (first|refine blk_drewN ?_ _|refine blk_drew ?_|refine blk_alloc ?_ _));exact BK863.out⟩,⟨by repeat (first|with_reducible exact HB.out|apply ba|apply bn|apply b1|refine below_set ?_ GE855.out|refine below_set ?_ GE863.out)⟩⟩
 case rest =>
  clear HC3
  obtain ⟨kq,x4_2,rfl,HA,HJ2,HO_864001,HO_864002,BK855,BK863,HB⟩:=hcut
  cases kq with
 |zero=>exact absurd HA.out (by simp [penumbraref04_Print.j0])
 |succ kj2 =>
   have H:=HA.out
   clear HA
   simp only [penumbraref04_Print.j0] at H
   replace H:=Option.bind_eq_some_iff.mp H
   obtain ⟨t864,A130,H⟩:=H
   try dsimp only at H
   have A13:=Aside0.mk A130
   clear A130
   by_cases c14 : x4_2.size + t864.size ≤ 9223372036854775807
   case neg =>rw [if_neg c14] at H;exact absurd H (by simp)
   rw [if_pos c14] at H
   have c14b0:=eq_true c14
   have c14b1 : decide (x4_2.size + t864.size ≤ 9223372036854775807) = true:=decide_eq_true c14
   try have c14b2 : (9223372036854775807 < x4_2.size + t864.size) = False:=eq_false (Nat.not_lt.2 c14)
   obtain ⟨y865,hy865⟩ : ∃ y_ : List Int,y_ = (([1] : List Int)):=⟨_,rfl⟩
   replace H : ((penumbraref01_Same.f kj2 t860 y865).bind fun t868=>(if t868 = true then (some (x4_2 ++ t864)) else ((penumbraref04_Natural.f kj2 t860).bind fun t869=>(if 1 + t869.size ≤ 9223372036854775807 then (if (x4_2 ++ t864).size + ((⟨#[47]⟩ : ByteArray) ++ t869).size ≤ 9223372036854775807 then (some ((x4_2 ++ t864) ++ ((⟨#[47]⟩ : ByteArray) ++ t869))) else (none)) else (none))))) = some r:=by first|(rw [hy865];with_reducible exact H)|(have H2_:=(Option.bind_some _ _).symm.trans H;rw [hy865];with_reducible exact H2_)|(have H2_:=(Option.bind_some _ _).symm.trans H;with_reducible exact H2_)|with_reducible exact H|(rw [hy865];exact H)|exact H
   have Ny865:=Aside0.mk hy865
   clear hy865
   replace H:=Option.bind_eq_some_iff.mp H
   obtain ⟨t868,A150,H⟩:=H
   try dsimp only at H
   have A15:=Aside0.mk A150
   clear A150
   by_cases c16 : t868 = true
   ·subst c16
    rw [if_pos rfl] at H
    obtain rfl:=Option.some.inj H
    have hnb17:=NB863_855.out
    have hnc17:=NB855_863.out
    have hcz18_0 : wc.cell? ⟨gb863,0,none⟩ = some (.bool t856):=(blk_cell BK863.out 0).trans rfl
    have hcz18_1 : wc.cell? ⟨gb863,1,none⟩ = some (.slice Ao10 t857.length co10):=(blk_cell BK863.out 1).trans rfl
    have hcz18_2 : wc.cell? ⟨gb863,2,none⟩ = some (.slice Ao11 t860.length co11):=(blk_cell BK863.out 2).trans rfl
    have hfz18_0:=blk_frozen BK863.out 0
    have hfz18_1:=blk_frozen BK863.out 1
    have hfz18_2:=blk_frozen BK863.out 2
    go_wp2_with (first|((with_reducible refine gate_callee (f:=15) rfl ?_);refine goesL_ (some 12) rfl rfl Tryd.func15 (by kernel_rfl) rfl #[.slice Ao10 t857.length co10] rfl (by (try simp only [List.map_toArray,List.map_cons,List.map_nil]);first|done|rfl) ?_;(with_reducible refine (penumbraref04_Natural.calls kj2 (fun k_=>some k_ = (.slice Ao10 t857.length co10 : Value).ownBlock) _ _ t857 t864 _ ?side1 A13.out).mono ?_);(case side1=>exact Kd.R_V (Kd.R_tight rfl (Kd.R_types (Kd.R_types (HO_864001.out) BK855.out (by decide)) BK863.out (by decide))));rintro e w19 ⟨rfl,hb⟩;refine ⟨_,rfl,?_⟩;have n0_:=Aside0.mk (Kd.R_below (Ru HO_864001.out) hb);have n1_:=Aside0.mk (Kd.R_below (Ru HO_864002.out) hb);have n2_:=Aside0.mk (blk_below (g:=gb855) (o:=.cells #[.bool a0_0,.slice A0_1 l0_1.length c0_1,.slice A0_2 l0_2.length c0_2] 25 (0,0)) (Bu BK855.out) hb);have n3_:=Aside0.mk (blk_below (g:=gb863) (o:=.cells #[.bool t856,.slice Ao10 t857.length co10,.slice Ao11 t860.length co11] 25 (0,0)) (Bu BK863.out) hb);have n4_:=Aside0.mk (below_step (by repeat (first|with_reducible exact HB.out|apply ba|apply bn|apply b1|refine below_set ?_ GE855.out|refine below_set ?_ GE863.out)) hb);clear HO_864001;clear HO_864002;clear BK855;clear BK863;clear HB;have HO_864001:=n0_;have HO_864002:=n1_;have BK855:=n2_;have BK863:=n3_;have HB:=n4_;clear n0_ n1_ n2_ n3_ n4_;have hcz20_0 : w19.cell? ⟨gb863,0,none⟩ = some (.bool t856):=(blk_cell BK863.out 0).trans rfl;have hcz20_1 : w19.cell? ⟨gb863,1,none⟩ = some (.slice Ao10 t857.length co10):=(blk_cell BK863.out 1).trans rfl;have hcz20_2 : w19.cell? ⟨gb863,2,none⟩ = some (.slice Ao11 t860.length co11):=(blk_cell BK863.out 2).trans rfl;have hfz20_0:=blk_frozen BK863.out 0;have hfz20_1:=blk_frozen BK863.out 1;have hfz20_2:=blk_frozen BK863.out 2)|((with_reducible refine gate_dst (N:=16) rfl ?_);refine Kd.R_lit (Kd.int .u32) _ 35 ?hg (N:=16) ?hd (xs:=([1] : List Int)) (inner:=[.int .u32 1]) (ok:=fun _=>True) (okp:=fun _=>True) ?hr ?hp (fun _ hk=>hk) trivial (Below.refl _ _) (Nat.le_refl _) (by simp) ?_;(case hd=>rfl);(case hg=>rfl);(case hr=>first|(go_simp;done)|(go_simp;(with_reducible rfl))|(go_simp;rfl)|(go_simp;simp only [hu,Int.emod_sub_emod]));(case hp=>exact (Reps.one (show Kd.M (Kd.int .u32) _ _ _ 1 [.int .u32 1] from rfl) (Reps.none _ _)));intro v866 w21 ho22 hb hg_ hnew_;clear hg_ hnew_;(first|rw [← Ny865.out] at ho22|(simp only [Int.reduceToNat] at ho22;rw [← Ny865.out] at ho22));have n0_:=Aside0.mk (Kd.R_elder' (Ru HO_864001.out) (Kd.R_base ho22) hb);have n1_:=Aside0.mk (Kd.R_elder' (Ru HO_864002.out) (Kd.R_base ho22) hb);have n2_:=Aside0.mk (Kd.R_lower (Kd.R_new' (Kd.R_new' ho22 (Kd.R_lt (Ru HO_864001.out))) (Kd.R_lt (Ru HO_864002.out))) (below_size (by repeat (first|with_reducible exact HB.out|apply ba|apply bn|apply b1|refine below_set ?_ GE855.out|refine below_set ?_ GE863.out))));have n3_:=Aside0.mk (blk_below (g:=gb855) (o:=.cells #[.bool a0_0,.slice A0_1 l0_1.length c0_1,.slice A0_2 l0_2.length c0_2] 25 (0,0)) (Bu BK855.out) hb);have n4_:=Aside0.mk (blk_below (g:=gb863) (o:=.cells #[.bool t856,.slice Ao10 t857.length co10,.slice Ao11 t860.length co11] 25 (0,0)) (Bu BK863.out) hb);have n5_:=Aside0.mk (below_step (by repeat (first|with_reducible exact HB.out|apply ba|apply bn|apply b1|refine below_set ?_ GE855.out|refine below_set ?_ GE863.out)) hb);clear HO_864001;clear HO_864002;clear BK855;clear BK863;clear HB;have HO_864001:=n0_;have HO_864002:=n1_;have HO867:=n2_;have BK855:=n3_;have BK863:=n4_;have HB:=n5_;clear n0_ n1_ n2_ n3_ n4_ n5_;clear hb ho22;obtain ⟨Ao23,co23,eo23⟩:=Kd.R_slice HO867.out;subst eo23)|((with_reducible refine gate_callee (f:=35) rfl ?_);refine goesL_ (some 17) rfl rfl Tryd.func35 (by kernel_rfl) rfl #[.slice Ao11 t860.length co11,.slice Ao23 y865.length co23] rfl (by (try simp only [List.map_toArray,List.map_cons,List.map_nil]);first|done|rfl) ?_;(with_reducible refine (penumbraref01_Same.calls kj2 _ _ t860 _ _ y865 true _ ?side1 ?side2 ?side3 ?side4 A15.out).mono ?_);(case side1=>exact Cu (Kd.R_reads' HO_864002.out).2.2);(case side2=>exact (Kd.R_reads' HO_864002.out).2.1);(case side3=>exact Cu (Kd.R_reads' HO867.out).2.2);(case side4=>exact (Kd.R_reads' HO867.out).2.1);rintro e w' ⟨rfl,⟨nd,rfl⟩⟩;refine ⟨_,rfl,?_⟩))
    go_ret
    exact ⟨by first|rfl|(simp [errW_none,errW_some] <;> rfl)|(simp [*,errW_none,errW_some] <;> rfl),by repeat (first|with_reducible exact HB.out|apply ba|apply bn|apply b1|refine below_set ?_ GE855.out|refine below_set ?_ GE863.out)⟩
   ·replace c16:=Bool.eq_false_iff.mpr c16
    subst c16
    rw [if_neg (show ¬ (false = true) by decide)] at H
    replace H:=Option.bind_eq_some_iff.mp H
    obtain ⟨t869,A240,H⟩:=H
    try dsimp only at H
    have A24:=Aside0.mk A240
    clear A240
    by_cases c25 : 1 + t869.size ≤ 9223372036854775807
    case neg =>rw [if_neg c25] at H;exact absurd H (by simp)
    rw [if_pos c25] at H
    have c25b0:=eq_true c25
    have c25b1 : decide (1 + t869.size ≤ 9223372036854775807) = true:=decide_eq_true c25
    try have c25b2 : (9223372036854775807 < 1 + t869.size) = False:=eq_false (Nat.not_lt.2 c25)
    by_cases c26 : (x4_2 ++ t864).size + ((⟨#[47]⟩ : ByteArray) ++ t869).size ≤ 9223372036854775807
    case neg =>rw [if_neg c26] at H;exact absurd H (by simp)
    rw [if_pos c26] at H
    have c26b0:=eq_true c26
    have c26b1 : decide ((x4_2 ++ t864).size + ((⟨#[47]⟩ : ByteArray) ++ t869).size ≤ 9223372036854775807) = true:=decide_eq_true c26
    try have c26b2 : (9223372036854775807 < (x4_2 ++ t864).size + ((⟨#[47]⟩ : ByteArray) ++ t869).size) = False:=eq_false (Nat.not_lt.2 c26)
    obtain rfl:=Option.some.inj H
    have hnb27:=NB863_855.out
    have hnc27:=NB855_863.out
    have hcz28_0 : wc.cell? ⟨gb863,0,none⟩ = some (.bool t856):=(blk_cell BK863.out 0).trans rfl
    have hcz28_1 : wc.cell? ⟨gb863,1,none⟩ = some (.slice Ao10 t857.length co10):=(blk_cell BK863.out 1).trans rfl
    have hcz28_2 : wc.cell? ⟨gb863,2,none⟩ = some (.slice Ao11 t860.length co11):=(blk_cell BK863.out 2).trans rfl
    have hfz28_0:=blk_frozen BK863.out 0
    have hfz28_1:=blk_frozen BK863.out 1
    have hfz28_2:=blk_frozen BK863.out 2
    go_wp2_with (first|((with_reducible refine gate_callee (f:=15) rfl ?_);refine goesL_ (some 12) rfl rfl Tryd.func15 (by kernel_rfl) rfl #[.slice Ao10 t857.length co10] rfl (by (try simp only [List.map_toArray,List.map_cons,List.map_nil]);first|done|rfl) ?_;(with_reducible refine (penumbraref04_Natural.calls kj2 (fun k_=>some k_ = (.slice Ao10 t857.length co10 : Value).ownBlock) _ _ t857 t864 _ ?side1 A13.out).mono ?_);(case side1=>exact Kd.R_V (Kd.R_tight rfl (Kd.R_types (Kd.R_types (HO_864001.out) BK855.out (by decide)) BK863.out (by decide))));rintro e w29 ⟨rfl,hb⟩;refine ⟨_,rfl,?_⟩;have n0_:=Aside0.mk (Kd.R_below (Ru HO_864001.out) hb);have n1_:=Aside0.mk (Kd.R_below (Ru HO_864002.out) hb);have n2_:=Aside0.mk (blk_below (g:=gb855) (o:=.cells #[.bool a0_0,.slice A0_1 l0_1.length c0_1,.slice A0_2 l0_2.length c0_2] 25 (0,0)) (Bu BK855.out) hb);have n3_:=Aside0.mk (blk_below (g:=gb863) (o:=.cells #[.bool t856,.slice Ao10 t857.length co10,.slice Ao11 t860.length co11] 25 (0,0)) (Bu BK863.out) hb);have n4_:=Aside0.mk (below_step (by repeat (first|with_reducible exact HB.out|apply ba|apply bn|apply b1|refine below_set ?_ GE855.out|refine below_set ?_ GE863.out)) hb);clear HO_864001;clear HO_864002;clear BK855;clear BK863;clear HB;have HO_864001:=n0_;have HO_864002:=n1_;have BK855:=n2_;have BK863:=n3_;have HB:=n4_;clear n0_ n1_ n2_ n3_ n4_;have hcz30_0 : w29.cell? ⟨gb863,0,none⟩ = some (.bool t856):=(blk_cell BK863.out 0).trans rfl;have hcz30_1 : w29.cell? ⟨gb863,1,none⟩ = some (.slice Ao10 t857.length co10):=(blk_cell BK863.out 1).trans rfl;have hcz30_2 : w29.cell? ⟨gb863,2,none⟩ = some (.slice Ao11 t860.length co11):=(blk_cell BK863.out 2).trans rfl;have hfz30_0:=blk_frozen BK863.out 0;have hfz30_1:=blk_frozen BK863.out 1;have hfz30_2:=blk_frozen BK863.out 2)|((with_reducible refine gate_dst (N:=16) rfl ?_);refine Kd.R_lit (Kd.int .u32) _ 35 ?hg (N:=16) ?hd (xs:=([1] : List Int)) (inner:=[.int .u32 1]) (ok:=fun _=>True) (okp:=fun _=>True) ?hr ?hp (fun _ hk=>hk) trivial (Below.refl _ _) (Nat.le_refl _) (by simp) ?_;(case hd=>rfl);(case hg=>rfl);(case hr=>first|(go_simp;done)|(go_simp;(with_reducible rfl))|(go_simp;rfl)|(go_simp;simp only [hu,Int.emod_sub_emod]));(case hp=>exact (Reps.one (show Kd.M (Kd.int .u32) _ _ _ 1 [.int .u32 1] from rfl) (Reps.none _ _)));intro v866 w31 ho32 hb hg_ hnew_;clear hg_ hnew_;(first|rw [← Ny865.out] at ho32|(simp only [Int.reduceToNat] at ho32;rw [← Ny865.out] at ho32));have n0_:=Aside0.mk (Kd.R_elder' (Ru HO_864001.out) (Kd.R_base ho32) hb);have n1_:=Aside0.mk (Kd.R_elder' (Ru HO_864002.out) (Kd.R_base ho32) hb);have n2_:=Aside0.mk (Kd.R_lower (Kd.R_new' (Kd.R_new' ho32 (Kd.R_lt (Ru HO_864001.out))) (Kd.R_lt (Ru HO_864002.out))) (below_size (by repeat (first|with_reducible exact HB.out|apply ba|apply bn|apply b1|refine below_set ?_ GE855.out|refine below_set ?_ GE863.out))));have n3_:=Aside0.mk (blk_below (g:=gb855) (o:=.cells #[.bool a0_0,.slice A0_1 l0_1.length c0_1,.slice A0_2 l0_2.length c0_2] 25 (0,0)) (Bu BK855.out) hb);have n4_:=Aside0.mk (blk_below (g:=gb863) (o:=.cells #[.bool t856,.slice Ao10 t857.length co10,.slice Ao11 t860.length co11] 25 (0,0)) (Bu BK863.out) hb);have n5_:=Aside0.mk (below_step (by repeat (first|with_reducible exact HB.out|apply ba|apply bn|apply b1|refine below_set ?_ GE855.out|refine below_set ?_ GE863.out)) hb);clear HO_864001;clear HO_864002;clear BK855;clear BK863;clear HB;have HO_864001:=n0_;have HO_864002:=n1_;have HO867:=n2_;have BK855:=n3_;have BK863:=n4_;have HB:=n5_;clear n0_ n1_ n2_ n3_ n4_ n5_;clear hb ho32;obtain ⟨Ao33,co33,eo33⟩:=Kd.R_slice HO867.out;subst eo33)|((with_reducible refine gate_callee (f:=35) rfl ?_);refine goesL_ (some 17) rfl rfl Tryd.func35 (by kernel_rfl) rfl #[.slice Ao11 t860.length co11,.slice Ao33 y865.length co33] rfl (by (try simp only [List.map_toArray,List.map_cons,List.map_nil]);first|done|rfl) ?_;(with_reducible refine (penumbraref01_Same.calls kj2 _ _ t860 _ _ y865 false _ ?side1 ?side2 ?side3 ?side4 A15.out).mono ?_);(case side1=>exact Cu (Kd.R_reads' HO_864002.out).2.2);(case side2=>exact (Kd.R_reads' HO_864002.out).2.1);(case side3=>exact Cu (Kd.R_reads' HO867.out).2.2);(case side4=>exact (Kd.R_reads' HO867.out).2.1);rintro e w' ⟨rfl,⟨nd,rfl⟩⟩;refine ⟨_,rfl,?_⟩;have hcz34_0 : w31.cell? ⟨gb863,0,none⟩ = some (.bool t856):=(blk_cell BK863.out 0).trans rfl;have hcz34_1 : w31.cell? ⟨gb863,1,none⟩ = some (.slice Ao10 t857.length co10):=(blk_cell BK863.out 1).trans rfl;have hcz34_2 : w31.cell? ⟨gb863,2,none⟩ = some (.slice Ao11 t860.length co11):=(blk_cell BK863.out 2).trans rfl;have hfz34_0:=blk_frozen BK863.out 0;have hfz34_1:=blk_frozen BK863.out 1;have hfz34_2:=blk_frozen BK863.out 2)|((with_reducible refine gate_callee (f:=15) rfl ?_);refine goesL_ (some 22) rfl rfl Tryd.func15 (by kernel_rfl) rfl #[.slice Ao11 t860.length co11] rfl (by (try simp only [List.map_toArray,List.map_cons,List.map_nil]);first|done|rfl) ?_;(with_reducible refine (penumbraref04_Natural.calls kj2 (fun k_=>some k_ = (.slice Ao11 t860.length co11 : Value).ownBlock) _ _ t860 t869 _ ?side1 A24.out).mono ?_);(case side1=>exact Kd.R_V (Kd.R_tight rfl (Kd.R_types (Kd.R_types (HO_864002.out) BK855.out (by decide)) BK863.out (by decide))));rintro e w35 ⟨rfl,hb⟩;refine ⟨_,rfl,?_⟩;have n0_:=Aside0.mk (Kd.R_below (Ru HO_864001.out) hb);have n1_:=Aside0.mk (Kd.R_below (Ru HO_864002.out) hb);have n2_:=Aside0.mk (Kd.R_below (Ru HO867.out) hb);have n3_:=Aside0.mk (blk_below (g:=gb855) (o:=.cells #[.bool a0_0,.slice A0_1 l0_1.length c0_1,.slice A0_2 l0_2.length c0_2] 25 (0,0)) (Bu BK855.out) hb);have n4_:=Aside0.mk (blk_below (g:=gb863) (o:=.cells #[.bool t856,.slice Ao10 t857.length co10,.slice Ao11 t860.length co11] 25 (0,0)) (Bu BK863.out) hb);have n5_:=Aside0.mk (below_step (by repeat (first|with_reducible exact HB.out|apply ba|apply bn|apply b1|refine below_set ?_ GE855.out|refine below_set ?_ GE863.out)) hb);clear HO_864001;clear HO_864002;clear HO867;clear BK855;clear BK863;clear HB;have HO_864001:=n0_;have HO_864002:=n1_;have HO867:=n2_;have BK855:=n3_;have BK863:=n4_;have HB:=n5_;clear n0_ n1_ n2_ n3_ n4_ n5_))
    go_ret
    exact ⟨by first|rfl|(simp [errW_none,errW_some] <;> rfl)|(simp [*,errW_none,errW_some] <;> rfl),by repeat (first|with_reducible exact HB.out|apply ba|apply bn|apply b1|refine below_set ?_ GE855.out|refine below_set ?_ GE863.out)⟩
end Go.Proofs.YtncdiodnbkhacaaDoor.Pq
end
section
namespace Go.Proofs.YtncdiodnbkhacaaDoor.Pq
open Go.RowKit Go.Proofs.YtncdiodnbkhacaaDoorW.PrintWords Go.Proofs.YtncdiodnbkhacaaDoorW.PrintLast Go.Proofs.YtncdiodnbkhacaaDoorW.PrintMore
attribute [local go_sem] max2_int min2_int max_two min_two max_three min_three max_four min_four
set_option linter.unusedVariables false
set_option linter.unusedSimpArgs false
def penumbralaw04_DecimalPrints.T3 : Bool × List (List Nat × List Nat):=(true,[([],[]),([0,0],[0]),([1],[1]),([2,1,1],[1,2]),([1],[1]),([4,3,1],[1,4]),([3,5,1],[1,3,5]),([1,6],[1,6]),([7,5],[7]),([8],[8]),([9,8],[8,9]),([10,8,8],[8,10]),([8],[8]),([12,8],[8,12]),([13,11,8],[8,13]),([11,14,8],[8,11,14]),([8,15],[8,15]),([16,14,0,1,2,3,4,5,6,7,8,9,10,11,12,13,14,15,16],[16])])
def penumbralaw04_DecimalPrints.B3 : List Nat:=[0,1,3,7,3,31,63,127,255,511,1023,2047,511,4607,16383,32767,65535,131071]
theorem penumbralaw04_DecimalPrints.tab3 : rtab .any (opsOf Tryd.f4 3) = penumbralaw04_DecimalPrints.T3:=by kernel_rfl
theorem penumbralaw04_DecimalPrints.bits3 : waitsOk penumbralaw04_DecimalPrints.T3.2 penumbralaw04_DecimalPrints.B3 = true:=by kernel_rfl
set_option maxHeartbeats 8000000 in
set_option maxRecDepth 100000 in
theorem penumbralaw04_DecimalPrints.calls (k : Nat) (a0_0 : Bool) (A0_1 : Option Addr) (c0_1 : Nat) (l0_1 : List Int) (A0_2 : Option Addr) (c0_2 : Nat) (l0_2 : List Int) (r : Bool) (w : World) (hr0_1 : Kd.C (Kd.int .u32) w A0_1 l0_1.length l0_1) (hc0_1 : l0_1.length ≤ c0_1) (hr0_2 : Kd.C (Kd.int .u32) w A0_2 l0_2.length l0_2) (hc0_2 : l0_2.length ≤ c0_2) (h : penumbralaw04_DecimalPrints.f k a0_0 l0_1 l0_2 = some r) :
  Calls Tryd.prog 4 #[.agg #[.bool a0_0,.slice A0_1 l0_1.length c0_1,.slice A0_2 l0_2.length c0_2]] w fun e w'=>e = .returned (.bool r) ∧ Below w.heap.size w w':=by
 have hu25:=Tryd.underlying25
 have HR0_1:=Aside0.mk hr0_1
 have HC0_1:=Aside0.mk hc0_1
 clear hr0_1 hc0_1
 have HR0_2:=Aside0.mk hr0_2
 have HC0_2:=Aside0.mk hc0_2
 clear hr0_2 hc0_2
 have HB:=Aside0.mk (Below.refl w.heap.size w)
 have H : (if (l0_1.length : Int) > 300 then (penumbralaw04_DecimalPrints.j0 k true a0_0 l0_1 l0_2) else (penumbralaw04_DecimalPrints.j0 k (decide ((l0_2.length : Int) > 300)) a0_0 l0_1 l0_2)) = some r:=h
 clear h
 have HC2:=Aside0.mk H
 clear H
 go_enter Tryd.func4,Tryd.ntmps4
 go_upto_region 1 with (first|((with_reducible refine gate_dst (N:=1) rfl ?_);(try (refine gate_guard (by rfl) ?_;dsimp only));refine box_event ?hg (N:=1) ?hd (cs:=#[.bool a0_0,.slice A0_1 l0_1.length c0_1,.slice A0_2 l0_2.length c0_2]) (t:=25) ?hr ?_;(case hd=>rfl);(case hg=>rfl);(case hr=>first|(go_simp;done)|(go_simp;(with_reducible rfl))|(go_simp;rfl)|(go_simp;simp only [hu,Int.emod_sub_emod]));intro gb870 hg w3 hbox hb;have n0_:=Aside0.mk (below_step (Hu HB.out) hb);have n1_:=Aside0.mk (hbox);have n2_:=Aside0.mk ((by rw [hg];exact (below_size (Hu HB.out)) : w.heap.size ≤ gb870));have n3_:=Aside0.mk ((by rw [hg];exact (below_size (Hu HB.out)) : w.heap.size ≤ gb870));clear HB;have HB:=n0_;have BK870:=n1_;have GW870:=n2_;have GE870:=n3_;clear n0_ n1_ n2_ n3_;clear hb hbox hg))
 (try simp only [Act.put,s0,s1,s2])
 go_cut [12] (fun v12 wc=>∃ (kq : Nat) (x12_1 : Bool),v12 = .bool x12_1 ∧ Aside0 (penumbralaw04_DecimalPrints.j0 kq x12_1 a0_0 l0_1 l0_2 = some r) ∧ Aside0 (kq ≤ k) ∧ Aside0 (wc.heap[gb870]? = some (.cells #[.bool a0_0,(.slice A0_1 l0_1.length c0_1),(.slice A0_2 l0_2.length c0_2)] 25 (0,0))) ∧ Aside0 (Below w.heap.size w wc))
 case first =>
  have H:=HC2.out
  clear HC2
  by_cases c4 : (l0_1.length : Int) > 300
  ·rw [if_pos c4] at H
   have c4b0 : decide (300 < (l0_1.length : Int)) = true:=decide_eq_true c4
   have c4b1 : decide (300 < l0_1.length) = true:=decide_eq_true (by omega)
   clear c4
   (first|rw [c4b0]|(simp only [i64_w,i32_w];rw [c4b0])|skip)
   have H':=Aside0.mk H
   clear H
   have hcz5_0 : w3.cell? ⟨gb870,0,none⟩ = some (.bool a0_0):=(blk_cell BK870.out 0).trans rfl
   have hcz5_1 : w3.cell? ⟨gb870,1,none⟩ = some (.slice A0_1 l0_1.length c0_1):=(blk_cell BK870.out 1).trans rfl
   have hcz5_2 : w3.cell? ⟨gb870,2,none⟩ = some (.slice A0_2 l0_2.length c0_2):=(blk_cell BK870.out 2).trans rfl
   have hfz5_0:=blk_frozen BK870.out 0
   have hfz5_1:=blk_frozen BK870.out 1
   have hfz5_2:=blk_frozen BK870.out 2
   go_wp2
   go_meet
   case rel=>exact ⟨_,(true),(by first|rfl|(simp;done)|(simp [*];done)),H',⟨by first|omega|exact Nat.le_refl _⟩,⟨Bu BK870.out⟩,⟨by repeat (first|with_reducible exact HB.out|apply ba|apply bn|apply b1|refine below_set ?_ GE870.out)⟩⟩
  ·rw [if_neg c4] at H
   have c4b0 : decide (300 < (l0_1.length : Int)) = false:=decide_eq_false c4
   have c4b1 : decide (300 < l0_1.length) = false:=decide_eq_false (by omega)
   clear c4
   (first|rw [c4b0]|(simp only [i64_w,i32_w];rw [c4b0])|skip)
   have H':=Aside0.mk H
   clear H
   have hcz6_0 : w3.cell? ⟨gb870,0,none⟩ = some (.bool a0_0):=(blk_cell BK870.out 0).trans rfl
   have hcz6_1 : w3.cell? ⟨gb870,1,none⟩ = some (.slice A0_1 l0_1.length c0_1):=(blk_cell BK870.out 1).trans rfl
   have hcz6_2 : w3.cell? ⟨gb870,2,none⟩ = some (.slice A0_2 l0_2.length c0_2):=(blk_cell BK870.out 2).trans rfl
   have hfz6_0:=blk_frozen BK870.out 0
   have hfz6_1:=blk_frozen BK870.out 1
   have hfz6_2:=blk_frozen BK870.out 2
   go_wp2
   go_meet
   case rel=>exact ⟨_,(decide ((l0_2.length : Int) > 300)),(by first|rfl|(simp;done)|(simp [*];done)),H',⟨by first|omega|exact Nat.le_refl _⟩,⟨Bu BK870.out⟩,⟨by repeat (first|with_reducible exact HB.out|apply ba|apply bn|apply b1|refine below_set ?_ GE870.out)⟩⟩
 case rest =>
  clear HC2
  obtain ⟨kq,x12_1,rfl,HA,HJ1,BK870,HB⟩:=hcut
  cases kq with
 |zero=>exact absurd HA.out (by simp [penumbralaw04_DecimalPrints.j0])
 |succ kj1 =>
   have H:=HA.out
   clear HA
   simp only [penumbralaw04_DecimalPrints.j0] at H
   by_cases c7 : x12_1 = true
   ·subst c7
    rw [if_pos rfl] at H
    replace H:=Option.bind_eq_some_iff.mp H
    obtain ⟨t871,A80,H⟩:=H
    try dsimp only at H
    have A8:=Aside0.mk A80
    clear A80
    obtain rfl:=Option.some.inj H
    go_wp2_with (first|((have gd_:=A8);(with_reducible refine gate_callee (f:=8) rfl ?_);refine goesL_ (some 13) rfl rfl Tryd.func8 (by kernel_rfl) rfl #[] rfl (by (try simp only [List.map_toArray,List.map_cons,List.map_nil]);first|done|rfl) ?_;(with_reducible refine (penumbralaw04_fixed.calls kj1  t871 _ A8.out).mono ?_);rintro e w9 ⟨rfl,hb⟩;refine ⟨_,rfl,?_⟩;have n0_:=Aside0.mk (blk_below (g:=gb870) (o:=.cells #[.bool a0_0,.slice A0_1 l0_1.length c0_1,.slice A0_2 l0_2.length c0_2] 25 (0,0)) (Bu BK870.out) hb);have n1_:=Aside0.mk (below_step (by repeat (first|with_reducible exact HB.out|apply ba|apply bn|apply b1|refine below_set ?_ GE870.out)) hb);clear BK870;clear HB;have BK870:=n0_;have HB:=n1_;clear n0_ n1_;(clear gd_ A8)) )
    go_ret
    exact ⟨by first|rfl|(simp [errW_none,errW_some] <;> rfl)|(simp [*,errW_none,errW_some] <;> rfl),by repeat (first|with_reducible exact HB.out|apply ba|apply bn|apply b1|refine below_set ?_ GE870.out)⟩
   ·replace c7:=Bool.eq_false_iff.mpr c7
    subst c7
    rw [if_neg (show ¬ (false = true) by decide)] at H
    replace H:=Option.bind_eq_some_iff.mp H
    obtain ⟨t872,A100,H⟩:=H
    try dsimp only at H
    have A10:=Aside0.mk A100
    clear A100
    by_cases c11 : t872 = true
    ·subst c11
     rw [if_pos rfl] at H
     replace H:=Option.bind_eq_some_iff.mp H
     obtain ⟨t873,A120,H⟩:=H
     try dsimp only at H
     have A12:=Aside0.mk A120
     clear A120
     replace H:=Option.bind_eq_some_iff.mp H
     obtain ⟨t874,A130,H⟩:=H
     try dsimp only at H
     have A13:=Aside0.mk A130
     clear A130
     by_cases c14 : t873.toList = t874.toList
     ·rw [if_pos c14] at H
      have c14b0 : (t873.toList == t874.toList) = true:=beq_iff_eq.mpr c14
      have c14b1 : (t873.toList != t874.toList) = false:=bne_eq_false_iff_eq.mpr c14
      clear c14
      replace H:=Option.bind_eq_some_iff.mp H
      obtain ⟨t875,A150,H⟩:=H
      try dsimp only at H
      have A15:=Aside0.mk A150
      clear A150
      replace H:=Option.bind_eq_some_iff.mp H
      obtain ⟨t876,A160,H⟩:=H
      try dsimp only at H
      have A16:=Aside0.mk A160
      clear A160
      obtain rfl:=Option.some.inj H
      try go_wp2
      have n0_:=Aside0.mk (blk_drew BK870.out)
      have n1_:=Aside0.mk (b1 HB.out)
      clear BK870
      clear HB
      have BK870:=n0_
      have HB:=n1_
      clear n0_ n1_
      refine start_ (n:=18) (S:=fun w'=>w'.cell? ⟨gb870,0,none⟩ = some (.bool a0_0) ∧ w'.cell? ⟨gb870,1,none⟩ = some (.slice A0_1 l0_1.length c0_1) ∧ w'.cell? ⟨gb870,2,none⟩ = some (.slice A0_2 l0_2.length c0_2)) (ds:=[]) #[false,false,false,false,false,false,false,false,false,false,false,false,false,false,false,false,false,false] (by kernel_rfl) rfl rfl ⟨(blk_cell BK870.out 0).trans rfl,(blk_cell BK870.out 1).trans rfl,(blk_cell BK870.out 2).trans rfl⟩ (fun hHeld=>?_);refine with_tabW penumbralaw04_DecimalPrints.tab3 penumbralaw04_DecimalPrints.bits3 (fun HT_ HW_=>?_)
      generalize wc.drew = w17 at BK870 HB hHeld ⊢
      refine one_ (i:=0) (N:=some 14) #[true,false,false,false,false,false,false,false,false,false,false,false,false,false,false,false,false,false] rfl rfl (one_of HT_.out (by kernel_rfl)) (by decide) (fun K hK=>?_)
      refine goes_ Tryd.func8 (by kernel_rfl) rfl #[] (by rfl) rfl rfl (by (try simp only [List.map_toArray,List.map_cons,List.map_nil]);first|done|rfl) ?_
      with_reducible refine (penumbralaw04_fixed.calls kj1  true _ A10.out).mono ?_
      rintro e w18 ⟨rfl,hb⟩
      refine ⟨_,rfl,?_⟩
      have n0_:=Aside0.mk (blk_below (g:=gb870) (o:=.cells #[.bool a0_0,.slice A0_1 l0_1.length c0_1,.slice A0_2 l0_2.length c0_2] 25 (0,0)) (Bu BK870.out) hb)
      have n1_:=Aside0.mk (below_step (by repeat (first|with_reducible exact HB.out|apply ba|apply bn|apply b1|refine below_set ?_ GE870.out)) hb)
      clear BK870
      clear HB
      have BK870:=n0_
      have HB:=n1_
      clear n0_ n1_
      (try clear hb)
      (try clear hb2)
      (try clear hk)
      (try clear hi)
      refine hK.out _ _ ⟨(blk_cell BK870.out 0).trans rfl,(blk_cell BK870.out 1).trans rfl,(blk_cell BK870.out 2).trans rfl⟩ (fun hHeld=>?_)
      clear hK K
      refine norm_ (a':=?_) ?_ ?_
      rotate_left
      ·show Act.put _ (some 14) _ = _
       simp only [Act.put,s0,s1,s2,i64_w,i32_w]
       rfl
      refine pv (i:=1) (N:=some 15) (v:=?_) (a':=?_) rfl rfl (any_of HT_.out (by kernel_rfl)) (Or.inl ⟨by rfl,?_⟩) ?_ ?_
      rotate_left
      ·intro w'
       go_simp
       with_reducible rfl
      rotate_left
      ·simp only [Act.put,s0,s1,s2,i64_w,i32_w]
       rfl
      refine take_ (i:=2) (N:=some 16) (v:=?_) (a':=?_) #[true,true,true,false,false,false,false,false,false,false,false,false,false,false,false,false,false,false] rfl rfl (take_ofW HT_.out HW_.out (by kernel_rfl)) (fun _ _ _ h=>h) (Or.inl ⟨by rfl,?_⟩) hHeld ?_ ?_
      rotate_left
      ·rintro w' ⟨s0,s1,s2⟩
       go_simp
       with_reducible rfl
      rotate_left
      ·simp only [Act.put,s0,s1,s2,i64_w,i32_w]
       rfl
      refine take_ (i:=4) (N:=some 18) (v:=?_) (a':=?_) #[true,true,true,false,true,false,false,false,false,false,false,false,false,false,false,false,false,false] rfl rfl (take_ofW HT_.out HW_.out (by kernel_rfl)) (fun _ _ _ h=>h) (Or.inl ⟨by rfl,?_⟩) hHeld ?_ ?_
      rotate_left
      ·rintro w' ⟨s0,s1,s2⟩
       go_simp
       with_reducible rfl
      rotate_left
      ·simp only [Act.put,s0,s1,s2,i64_w,i32_w]
       rfl
      refine one_ (i:=3) (N:=some 17) #[true,true,true,true,true,false,false,false,false,false,false,false,false,false,false,false,false,false] rfl rfl (one_of HT_.out (by kernel_rfl)) (by decide) (fun K hK=>?_)
      refine goes_ Tryd.func12 (by kernel_rfl) rfl #[.agg #[.bool a0_0,.slice A0_1 l0_1.length c0_1,.slice A0_2 l0_2.length c0_2]] (by rfl) rfl rfl (by (try simp only [List.map_toArray,List.map_cons,List.map_nil]);first|done|rfl) ?_
      with_reducible refine (decimal_Print.calls kj1 a0_0 _ _ l0_1 _ _ l0_2 t873 _ ?side1 ?side2 ?side3 ?side4 A12.out).mono ?_
      (case side1=>repeat (first|exact (Kd.C_below HR0_1.out HB.out)|(with_reducible refine Kd.C_alloc ?_ _)|(with_reducible refine Kd.C_drewN ?_ _)|(with_reducible refine Kd.C_drew ?_)))
      (case side2=>exact HC0_1.out)
      (case side3=>repeat (first|exact (Kd.C_below HR0_2.out HB.out)|(with_reducible refine Kd.C_alloc ?_ _)|(with_reducible refine Kd.C_drewN ?_ _)|(with_reducible refine Kd.C_drew ?_)))
      (case side4=>exact HC0_2.out)
      rintro e w19 ⟨rfl,hb⟩
      refine ⟨_,rfl,?_⟩
      have n0_:=Aside0.mk (blk_below (g:=gb870) (o:=.cells #[.bool a0_0,.slice A0_1 l0_1.length c0_1,.slice A0_2 l0_2.length c0_2] 25 (0,0)) (Bu BK870.out) hb)
      have n1_:=Aside0.mk (below_step (by repeat (first|with_reducible exact HB.out|apply ba|apply bn|apply b1|refine below_set ?_ GE870.out)) hb)
      clear BK870
      clear HB
      have BK870:=n0_
      have HB:=n1_
      clear n0_ n1_
      (try clear hb)
      (try clear hb2)
      (try clear hk)
      (try clear hi)
      refine hK.out _ _ ⟨(blk_cell BK870.out 0).trans rfl,(blk_cell BK870.out 1).trans rfl,(blk_cell BK870.out 2).trans rfl⟩ (fun hHeld=>?_)
      clear hK K
      refine norm_ (a':=?_) ?_ ?_
      rotate_left
      ·show Act.put _ (some 17) _ = _
       simp only [Act.put,s0,s1,s2,i64_w,i32_w]
       rfl
      refine one_ (i:=5) (N:=some 19) #[true,true,true,true,true,true,false,false,false,false,false,false,false,false,false,false,false,false] rfl rfl (one_of HT_.out (by kernel_rfl)) (by decide) (fun K hK=>?_)
      refine goes_ Tryd.func13 (by kernel_rfl) rfl #[.agg #[.bool a0_0,.slice A0_1 l0_1.length c0_1,.slice A0_2 l0_2.length c0_2]] (by rfl) rfl rfl (by (try simp only [List.map_toArray,List.map_cons,List.map_nil]);first|done|rfl) ?_
      with_reducible refine (penumbraref04_Print.calls kj1 a0_0 _ _ l0_1 _ _ l0_2 t874 _ ?side1 ?side2 ?side3 ?side4 A13.out).mono ?_
      (case side1=>repeat (first|exact (Kd.C_below HR0_1.out HB.out)|(with_reducible refine Kd.C_alloc ?_ _)|(with_reducible refine Kd.C_drewN ?_ _)|(with_reducible refine Kd.C_drew ?_)))
      (case side2=>exact HC0_1.out)
      (case side3=>repeat (first|exact (Kd.C_below HR0_2.out HB.out)|(with_reducible refine Kd.C_alloc ?_ _)|(with_reducible refine Kd.C_drewN ?_ _)|(with_reducible refine Kd.C_drew ?_)))
      (case side4=>exact HC0_2.out)
      rintro e w20 ⟨rfl,hb⟩
      refine ⟨_,rfl,?_⟩
      have n0_:=Aside0.mk (blk_below (g:=gb870) (o:=.cells #[.bool a0_0,.slice A0_1 l0_1.length c0_1,.slice A0_2 l0_2.length c0_2] 25 (0,0)) (Bu BK870.out) hb)
      have n1_:=Aside0.mk (below_step (by repeat (first|with_reducible exact HB.out|apply ba|apply bn|apply b1|refine below_set ?_ GE870.out)) hb)
      clear BK870
      clear HB
      have BK870:=n0_
      have HB:=n1_
      clear n0_ n1_
      (try clear hb)
      (try clear hb2)
      (try clear hk)
      (try clear hi)
      refine hK.out _ _ ⟨(blk_cell BK870.out 0).trans rfl,(blk_cell BK870.out 1).trans rfl,(blk_cell BK870.out 2).trans rfl⟩ (fun hHeld=>?_)
      clear hK K
      refine norm_ (a':=?_) ?_ ?_
      rotate_left
      ·show Act.put _ (some 19) _ = _
       simp only [Act.put,s0,s1,s2,i64_w,i32_w]
       rfl
      refine pv (i:=6) (N:=some 20) (v:=?_) (a':=?_) rfl rfl (any_of HT_.out (by kernel_rfl)) (Or.inl ⟨by rfl,?_⟩) ?_ ?_
      rotate_left
      ·intro w'
       go_simp
       with_reducible rfl
      rotate_left
      ·simp only [Act.put,s0,s1,s2,i64_w,i32_w]
       rfl
      refine pv (i:=7) (N:=some 21) (v:=?_) (a':=?_) rfl rfl (any_of HT_.out (by kernel_rfl)) (Or.inl ⟨by rfl,?_⟩) ?_ ?_
      rotate_left
      ·intro w'
       go_simp
       with_reducible rfl
      rotate_left
      ·simp only [Act.put,s0,s1,s2,i64_w,i32_w]
       rfl
      refine pv (i:=8) (N:=some 22) (v:=?_) (a':=?_) rfl rfl (any_of HT_.out (by kernel_rfl)) (Or.inl ⟨by rfl,?_⟩) ?_ ?_
      rotate_left
      ·intro w'
       go_simp
       with_reducible rfl
      rotate_left
      ·simp only [Act.put,s0,s1,s2,i64_w,i32_w]
       rfl
      refine pv (i:=9) (N:=some 23) (v:=?_) (a':=?_) rfl rfl (any_of HT_.out (by kernel_rfl)) (Or.inl ⟨by rfl,?_⟩) ?_ ?_
      rotate_left
      ·intro w'
       go_simp
       with_reducible rfl
      rotate_left
      ·simp only [Act.put,s0,s1,s2,i64_w,i32_w]
       rfl
      refine pv (i:=12) (N:=some 26) (v:=?_) (a':=?_) rfl rfl (any_of HT_.out (by kernel_rfl)) (Or.inl ⟨by rfl,?_⟩) ?_ ?_
      rotate_left
      ·intro w'
       go_simp
       with_reducible rfl
      rotate_left
      ·simp only [Act.put,s0,s1,s2,i64_w,i32_w]
       rfl
      refine take_ (i:=10) (N:=some 24) (v:=?_) (a':=?_) #[true,true,true,true,true,true,true,true,true,true,true,false,true,false,false,false,false,false] rfl rfl (take_ofW HT_.out HW_.out (by kernel_rfl)) (fun _ _ _ h=>h) (Or.inl ⟨by rfl,?_⟩) hHeld ?_ ?_
      rotate_left
      ·rintro w' ⟨s0,s1,s2⟩
       go_simp
       with_reducible rfl
      rotate_left
      ·simp only [Act.put,s0,s1,s2,i64_w,i32_w]
       rfl
      refine take_ (i:=13) (N:=some 27) (v:=?_) (a':=?_) #[true,true,true,true,true,true,true,true,true,true,true,false,true,true,false,false,false,false] rfl rfl (take_ofW HT_.out HW_.out (by kernel_rfl)) (fun _ _ _ h=>h) (Or.inl ⟨by rfl,?_⟩) hHeld ?_ ?_
      rotate_left
      ·rintro w' ⟨s0,s1,s2⟩
       go_simp
       with_reducible rfl
      rotate_left
      ·simp only [Act.put,s0,s1,s2,i64_w,i32_w]
       rfl
      refine one_ (i:=11) (N:=some 25) #[true,true,true,true,true,true,true,true,true,true,true,true,true,true,false,false,false,false] rfl rfl (one_of HT_.out (by kernel_rfl)) (by decide) (fun K hK=>?_)
      refine goes_ Tryd.func14 (by kernel_rfl) rfl #[.slice A0_1 l0_1.length c0_1] (by rfl) rfl rfl (by (try simp only [List.map_toArray,List.map_cons,List.map_nil]);first|done|rfl) ?_
      with_reducible refine (decimal_Natural.calls kj1 _ _ l0_1 t875 _ ?side1 ?side2 A15.out).mono ?_
      (case side1=>repeat (first|exact (Kd.C_below HR0_1.out HB.out)|(with_reducible refine Kd.C_alloc ?_ _)|(with_reducible refine Kd.C_drewN ?_ _)|(with_reducible refine Kd.C_drew ?_)))
      (case side2=>exact HC0_1.out)
      rintro e w21 ⟨rfl,hb⟩
      refine ⟨_,rfl,?_⟩
      have n0_:=Aside0.mk (blk_below (g:=gb870) (o:=.cells #[.bool a0_0,.slice A0_1 l0_1.length c0_1,.slice A0_2 l0_2.length c0_2] 25 (0,0)) (Bu BK870.out) hb)
      have n1_:=Aside0.mk (below_step (by repeat (first|with_reducible exact HB.out|apply ba|apply bn|apply b1|refine below_set ?_ GE870.out)) hb)
      clear BK870
      clear HB
      have BK870:=n0_
      have HB:=n1_
      clear n0_ n1_
      (try clear hb)
      (try clear hb2)
      (try clear hk)
      (try clear hi)
      refine hK.out _ _ ⟨(blk_cell BK870.out 0).trans rfl,(blk_cell BK870.out 1).trans rfl,(blk_cell BK870.out 2).trans rfl⟩ (fun hHeld=>?_)
      clear hK K
      refine norm_ (a':=?_) ?_ ?_
      rotate_left
      ·show Act.put _ (some 25) _ = _
       simp only [Act.put,s0,s1,s2,i64_w,i32_w]
       rfl
      refine one_ (i:=14) (N:=some 28) #[true,true,true,true,true,true,true,true,true,true,true,true,true,true,true,false,false,false] rfl rfl (one_of HT_.out (by kernel_rfl)) (by decide) (fun K hK=>?_)
      refine goes_ Tryd.func15 (by kernel_rfl) rfl #[.slice A0_1 l0_1.length c0_1] (by rfl) rfl rfl (by (try simp only [List.map_toArray,List.map_cons,List.map_nil]);first|done|rfl) ?_
      with_reducible refine (penumbraref04_Natural.calls kj1 (fun k_=>k_ < w.heap.size) _ _ l0_1 t876 _ ?side1 A16.out).mono ?_
      (case side1=>exact Kd.V_mk HC0_1.out (Kd.F_below (Kd.C_F (Kd.heap_int .u32) HR0_1.out) (by repeat (first|with_reducible exact HB.out|apply ba|apply bn|apply b1|refine below_set ?_ GE870.out))))
      rintro e w22 ⟨rfl,hb⟩
      refine ⟨_,rfl,?_⟩
      have n0_:=Aside0.mk (blk_below (g:=gb870) (o:=.cells #[.bool a0_0,.slice A0_1 l0_1.length c0_1,.slice A0_2 l0_2.length c0_2] 25 (0,0)) (Bu BK870.out) hb)
      have n1_:=Aside0.mk (below_step (by repeat (first|with_reducible exact HB.out|apply ba|apply bn|apply b1|refine below_set ?_ GE870.out)) hb)
      clear BK870
      clear HB
      have BK870:=n0_
      have HB:=n1_
      clear n0_ n1_
      (try clear hb)
      (try clear hb2)
      (try clear hk)
      (try clear hi)
      refine hK.out _ _ ⟨(blk_cell BK870.out 0).trans rfl,(blk_cell BK870.out 1).trans rfl,(blk_cell BK870.out 2).trans rfl⟩ (fun hHeld=>?_)
      clear hK K
      refine norm_ (a':=?_) ?_ ?_
      rotate_left
      ·show Act.put _ (some 28) _ = _
       simp only [Act.put,s0,s1,s2,i64_w,i32_w]
       rfl
      refine pv (i:=15) (N:=some 29) (v:=?_) (a':=?_) rfl rfl (any_of HT_.out (by kernel_rfl)) (Or.inl ⟨by rfl,?_⟩) ?_ ?_
      rotate_left
      ·intro w'
       go_simp
       with_reducible rfl
      rotate_left
      ·simp only [Act.put,s0,s1,s2,i64_w,i32_w]
       rfl
      refine pv (i:=16) (N:=some 30) (v:=?_) (a':=?_) rfl rfl (any_of HT_.out (by kernel_rfl)) (Or.inl ⟨by rfl,?_⟩) ?_ ?_
      rotate_left
      ·intro w'
       go_simp
       with_reducible rfl
      rotate_left
      ·simp only [Act.put,s0,s1,s2,i64_w,i32_w]
       rfl
      refine pv (i:=17) (N:=some 2) (v:=?_) (a':=?_) rfl rfl (any_of HT_.out (by kernel_rfl)) (Or.inl ⟨by rfl,?_⟩) ?_ ?_
      rotate_left
      ·intro w'
       go_simp
       with_reducible rfl
      rotate_left
      ·simp only [Act.put,s0,s1,s2,i64_w,i32_w]
       rfl
      refine done_ (done_of HT_.out (by kernel_rfl)) ?_
      try go_wp2
      go_ret
      exact ⟨by first|rfl|(simp [errW_none,errW_some] <;> rfl)|(simp [*,errW_none,errW_some] <;> rfl),by repeat (first|with_reducible exact HB.out|apply ba|apply bn|apply b1|refine below_set ?_ GE870.out)⟩
     ·rw [if_neg c14] at H
      have c14b0 : (t873.toList == t874.toList) = false:=beq_eq_false_iff_ne.mpr c14
      have c14b1 : (t873.toList != t874.toList) = true:=bne_iff_ne.mpr c14
      obtain rfl:=Option.some.inj H
      try go_wp2
      have n0_:=Aside0.mk (blk_drew BK870.out)
      have n1_:=Aside0.mk (b1 HB.out)
      clear BK870
      clear HB
      have BK870:=n0_
      have HB:=n1_
      clear n0_ n1_
      refine start_ (n:=18) (S:=fun w'=>w'.cell? ⟨gb870,0,none⟩ = some (.bool a0_0) ∧ w'.cell? ⟨gb870,1,none⟩ = some (.slice A0_1 l0_1.length c0_1) ∧ w'.cell? ⟨gb870,2,none⟩ = some (.slice A0_2 l0_2.length c0_2)) (ds:=[]) #[false,false,false,false,false,false,false,false,false,false,false,false,false,false,false,false,false,false] (by kernel_rfl) rfl rfl ⟨(blk_cell BK870.out 0).trans rfl,(blk_cell BK870.out 1).trans rfl,(blk_cell BK870.out 2).trans rfl⟩ (fun hHeld=>?_);refine with_tabW penumbralaw04_DecimalPrints.tab3 penumbralaw04_DecimalPrints.bits3 (fun HT_ HW_=>?_)
      generalize wc.drew = w23 at BK870 HB hHeld ⊢
      refine one_ (i:=0) (N:=some 14) #[true,false,false,false,false,false,false,false,false,false,false,false,false,false,false,false,false,false] rfl rfl (one_of HT_.out (by kernel_rfl)) (by decide) (fun K hK=>?_)
      refine goes_ Tryd.func8 (by kernel_rfl) rfl #[] (by rfl) rfl rfl (by (try simp only [List.map_toArray,List.map_cons,List.map_nil]);first|done|rfl) ?_
      with_reducible refine (penumbralaw04_fixed.calls kj1  true _ A10.out).mono ?_
      rintro e w24 ⟨rfl,hb⟩
      refine ⟨_,rfl,?_⟩
      have n0_:=Aside0.mk (blk_below (g:=gb870) (o:=.cells #[.bool a0_0,.slice A0_1 l0_1.length c0_1,.slice A0_2 l0_2.length c0_2] 25 (0,0)) (Bu BK870.out) hb)
      have n1_:=Aside0.mk (below_step (by repeat (first|with_reducible exact HB.out|apply ba|apply bn|apply b1|refine below_set ?_ GE870.out)) hb)
      clear BK870
      clear HB
      have BK870:=n0_
      have HB:=n1_
      clear n0_ n1_
      (try clear hb)
      (try clear hb2)
      (try clear hk)
      (try clear hi)
      refine hK.out _ _ ⟨(blk_cell BK870.out 0).trans rfl,(blk_cell BK870.out 1).trans rfl,(blk_cell BK870.out 2).trans rfl⟩ (fun hHeld=>?_)
      clear hK K
      refine norm_ (a':=?_) ?_ ?_
      rotate_left
      ·show Act.put _ (some 14) _ = _
       simp only [Act.put,s0,s1,s2,i64_w,i32_w]
       rfl
      refine pv (i:=1) (N:=some 15) (v:=?_) (a':=?_) rfl rfl (any_of HT_.out (by kernel_rfl)) (Or.inl ⟨by rfl,?_⟩) ?_ ?_
      rotate_left
      ·intro w'
       go_simp
       with_reducible rfl
      rotate_left
      ·simp only [Act.put,s0,s1,s2,i64_w,i32_w]
       rfl
      refine take_ (i:=2) (N:=some 16) (v:=?_) (a':=?_) #[true,true,true,false,false,false,false,false,false,false,false,false,false,false,false,false,false,false] rfl rfl (take_ofW HT_.out HW_.out (by kernel_rfl)) (fun _ _ _ h=>h) (Or.inl ⟨by rfl,?_⟩) hHeld ?_ ?_
      rotate_left
      ·rintro w' ⟨s0,s1,s2⟩
       go_simp
       with_reducible rfl
      rotate_left
      ·simp only [Act.put,s0,s1,s2,i64_w,i32_w]
       rfl
      refine take_ (i:=4) (N:=some 18) (v:=?_) (a':=?_) #[true,true,true,false,true,false,false,false,false,false,false,false,false,false,false,false,false,false] rfl rfl (take_ofW HT_.out HW_.out (by kernel_rfl)) (fun _ _ _ h=>h) (Or.inl ⟨by rfl,?_⟩) hHeld ?_ ?_
      rotate_left
      ·rintro w' ⟨s0,s1,s2⟩
       go_simp
       with_reducible rfl
      rotate_left
      ·simp only [Act.put,s0,s1,s2,i64_w,i32_w]
       rfl
      refine one_ (i:=3) (N:=some 17) #[true,true,true,true,true,false,false,false,false,false,false,false,false,false,false,false,false,false] rfl rfl (one_of HT_.out (by kernel_rfl)) (by decide) (fun K hK=>?_)
      refine goes_ Tryd.func12 (by kernel_rfl) rfl #[.agg #[.bool a0_0,.slice A0_1 l0_1.length c0_1,.slice A0_2 l0_2.length c0_2]] (by rfl) rfl rfl (by (try simp only [List.map_toArray,List.map_cons,List.map_nil]);first|done|rfl) ?_
      with_reducible refine (decimal_Print.calls kj1 a0_0 _ _ l0_1 _ _ l0_2 t873 _ ?side1 ?side2 ?side3 ?side4 A12.out).mono ?_
      (case side1=>repeat (first|exact (Kd.C_below HR0_1.out HB.out)|(with_reducible refine Kd.C_alloc ?_ _)|(with_reducible refine Kd.C_drewN ?_ _)|(with_reducible refine Kd.C_drew ?_)))
      (case side2=>exact HC0_1.out)
      (case side3=>repeat (first|exact (Kd.C_below HR0_2.out HB.out)|(with_reducible refine Kd.C_alloc ?_ _)|(with_reducible refine Kd.C_drewN ?_ _)|(with_reducible refine Kd.C_drew ?_)))
      (case side4=>exact HC0_2.out)
      rintro e w25 ⟨rfl,hb⟩
      refine ⟨_,rfl,?_⟩
      have n0_:=Aside0.mk (blk_below (g:=gb870) (o:=.cells #[.bool a0_0,.slice A0_1 l0_1.length c0_1,.slice A0_2 l0_2.length c0_2] 25 (0,0)) (Bu BK870.out) hb)
      have n1_:=Aside0.mk (below_step (by repeat (first|with_reducible exact HB.out|apply ba|apply bn|apply b1|refine below_set ?_ GE870.out)) hb)
      clear BK870
      clear HB
      have BK870:=n0_
      have HB:=n1_
      clear n0_ n1_
      (try clear hb)
      (try clear hb2)
      (try clear hk)
      (try clear hi)
      refine hK.out _ _ ⟨(blk_cell BK870.out 0).trans rfl,(blk_cell BK870.out 1).trans rfl,(blk_cell BK870.out 2).trans rfl⟩ (fun hHeld=>?_)
      clear hK K
      refine norm_ (a':=?_) ?_ ?_
      rotate_left
      ·show Act.put _ (some 17) _ = _
       simp only [Act.put,s0,s1,s2,i64_w,i32_w]
       rfl
      refine one_ (i:=5) (N:=some 19) #[true,true,true,true,true,true,false,false,false,false,false,false,false,false,false,false,false,false] rfl rfl (one_of HT_.out (by kernel_rfl)) (by decide) (fun K hK=>?_)
      refine goes_ Tryd.func13 (by kernel_rfl) rfl #[.agg #[.bool a0_0,.slice A0_1 l0_1.length c0_1,.slice A0_2 l0_2.length c0_2]] (by rfl) rfl rfl (by (try simp only [List.map_toArray,List.map_cons,List.map_nil]);first|done|rfl) ?_
      with_reducible refine (penumbraref04_Print.calls kj1 a0_0 _ _ l0_1 _ _ l0_2 t874 _ ?side1 ?side2 ?side3 ?side4 A13.out).mono ?_
      (case side1=>repeat (first|exact (Kd.C_below HR0_1.out HB.out)|(with_reducible refine Kd.C_alloc ?_ _)|(with_reducible refine Kd.C_drewN ?_ _)|(with_reducible refine Kd.C_drew ?_)))
      (case side2=>exact HC0_1.out)
      (case side3=>repeat (first|exact (Kd.C_below HR0_2.out HB.out)|(with_reducible refine Kd.C_alloc ?_ _)|(with_reducible refine Kd.C_drewN ?_ _)|(with_reducible refine Kd.C_drew ?_)))
      (case side4=>exact HC0_2.out)
      rintro e w26 ⟨rfl,hb⟩
      refine ⟨_,rfl,?_⟩
      have n0_:=Aside0.mk (blk_below (g:=gb870) (o:=.cells #[.bool a0_0,.slice A0_1 l0_1.length c0_1,.slice A0_2 l0_2.length c0_2] 25 (0,0)) (Bu BK870.out) hb)
      have n1_:=Aside0.mk (below_step (by repeat (first|with_reducible exact HB.out|apply ba|apply bn|apply b1|refine below_set ?_ GE870.out)) hb)
      clear BK870
      clear HB
      have BK870:=n0_
      have HB:=n1_
      clear n0_ n1_
      (try clear hb)
      (try clear hb2)
      (try clear hk)
      (try clear hi)
      refine hK.out _ _ ⟨(blk_cell BK870.out 0).trans rfl,(blk_cell BK870.out 1).trans rfl,(blk_cell BK870.out 2).trans rfl⟩ (fun hHeld=>?_)
      clear hK K
      refine norm_ (a':=?_) ?_ ?_
      rotate_left
      ·show Act.put _ (some 19) _ = _
       simp only [Act.put,s0,s1,s2,i64_w,i32_w]
       rfl
      refine pv (i:=6) (N:=some 20) (v:=?_) (a':=?_) rfl rfl (any_of HT_.out (by kernel_rfl)) (Or.inl ⟨by rfl,?_⟩) ?_ ?_
      rotate_left
      ·intro w'
       go_simp
       with_reducible rfl
      rotate_left
      ·simp only [Act.put,s0,s1,s2,i64_w,i32_w]
       rfl
      refine pv (i:=7) (N:=some 21) (v:=?_) (a':=?_) rfl rfl (any_of HT_.out (by kernel_rfl)) (Or.inl ⟨by rfl,?_⟩) ?_ ?_
      rotate_left
      ·intro w'
       go_simp
       with_reducible rfl
      rotate_left
      ·simp only [Act.put,s0,s1,s2,i64_w,i32_w]
       rfl
      refine pv (i:=8) (N:=some 22) (v:=?_) (a':=?_) rfl rfl (any_of HT_.out (by kernel_rfl)) (Or.inl ⟨by rfl,?_⟩) ?_ ?_
      rotate_left
      ·intro w'
       go_simp
       with_reducible rfl
      rotate_left
      ·simp only [Act.put,s0,s1,s2,i64_w,i32_w]
       rfl
      refine pv (i:=9) (N:=some 23) (v:=undef) (a':=?_) rfl rfl (any_of HT_.out (by kernel_rfl)) (Or.inr ⟨by rfl,rfl⟩) ?_ ?_
      rotate_left
      ·simp only [Act.put,s0,s1,s2,i64_w,i32_w]
       rfl
      refine pv (i:=10) (N:=some 24) (v:=undef) (a':=?_) rfl rfl (any_of HT_.out (by kernel_rfl)) (Or.inr ⟨by rfl,rfl⟩) ?_ ?_
      rotate_left
      ·simp only [Act.put,s0,s1,s2,i64_w,i32_w]
       rfl
      refine pv (i:=11) (N:=some 25) (v:=undef) (a':=?_) rfl rfl (any_of HT_.out (by kernel_rfl)) (Or.inr ⟨by rfl,rfl⟩) ?_ ?_
      rotate_left
      ·simp only [Act.put,s0,s1,s2,i64_w,i32_w]
       rfl
      refine pv (i:=12) (N:=some 26) (v:=undef) (a':=?_) rfl rfl (any_of HT_.out (by kernel_rfl)) (Or.inr ⟨by rfl,rfl⟩) ?_ ?_
      rotate_left
      ·simp only [Act.put,s0,s1,s2,i64_w,i32_w]
       rfl
      refine pv (i:=13) (N:=some 27) (v:=undef) (a':=?_) rfl rfl (any_of HT_.out (by kernel_rfl)) (Or.inr ⟨by rfl,rfl⟩) ?_ ?_
      rotate_left
      ·simp only [Act.put,s0,s1,s2,i64_w,i32_w]
       rfl
      refine pv (i:=14) (N:=some 28) (v:=undef) (a':=?_) rfl rfl (any_of HT_.out (by kernel_rfl)) (Or.inr ⟨by rfl,rfl⟩) ?_ ?_
      rotate_left
      ·simp only [Act.put,s0,s1,s2,i64_w,i32_w]
       rfl
      refine pv (i:=15) (N:=some 29) (v:=undef) (a':=?_) rfl rfl (any_of HT_.out (by kernel_rfl)) (Or.inr ⟨by rfl,rfl⟩) ?_ ?_
      rotate_left
      ·simp only [Act.put,s0,s1,s2,i64_w,i32_w]
       rfl
      refine pv (i:=16) (N:=some 30) (v:=?_) (a':=?_) rfl rfl (any_of HT_.out (by kernel_rfl)) (Or.inl ⟨by rfl,?_⟩) ?_ ?_
      rotate_left
      ·intro w'
       go_simp
       with_reducible rfl
      rotate_left
      ·simp only [Act.put,s0,s1,s2,i64_w,i32_w]
       rfl
      refine pv (i:=17) (N:=some 2) (v:=?_) (a':=?_) rfl rfl (any_of HT_.out (by kernel_rfl)) (Or.inl ⟨by rfl,?_⟩) ?_ ?_
      rotate_left
      ·intro w'
       go_simp
       with_reducible rfl
      rotate_left
      ·simp only [Act.put,s0,s1,s2,i64_w,i32_w]
       rfl
      refine done_ (done_of HT_.out (by kernel_rfl)) ?_
      try go_wp2
      go_ret
      exact ⟨by first|rfl|(simp [errW_none,errW_some] <;> rfl)|(simp [*,errW_none,errW_some] <;> rfl),by repeat (first|with_reducible exact HB.out|apply ba|apply bn|apply b1|refine below_set ?_ GE870.out)⟩
    ·replace c11:=Bool.eq_false_iff.mpr c11
     subst c11
     rw [if_neg (show ¬ (false = true) by decide)] at H
     obtain rfl:=Option.some.inj H
     try go_wp2
     have n0_:=Aside0.mk (blk_drew BK870.out)
     have n1_:=Aside0.mk (b1 HB.out)
     clear BK870
     clear HB
     have BK870:=n0_
     have HB:=n1_
     clear n0_ n1_
     refine start_ (n:=18) (S:=fun w'=>True) (ds:=[]) #[false,false,false,false,false,false,false,false,false,false,false,false,false,false,false,false,false,false] (by kernel_rfl) rfl rfl trivial (fun hHeld=>?_);refine with_tabW penumbralaw04_DecimalPrints.tab3 penumbralaw04_DecimalPrints.bits3 (fun HT_ HW_=>?_)
     generalize wc.drew = w27 at BK870 HB hHeld ⊢
     refine one_ (i:=0) (N:=some 14) #[true,false,false,false,false,false,false,false,false,false,false,false,false,false,false,false,false,false] rfl rfl (one_of HT_.out (by kernel_rfl)) (by decide) (fun K hK=>?_)
     refine goes_ Tryd.func8 (by kernel_rfl) rfl #[] (by rfl) rfl rfl (by (try simp only [List.map_toArray,List.map_cons,List.map_nil]);first|done|rfl) ?_
     with_reducible refine (penumbralaw04_fixed.calls kj1  false _ A10.out).mono ?_
     rintro e w28 ⟨rfl,hb⟩
     refine ⟨_,rfl,?_⟩
     have n0_:=Aside0.mk (blk_below (g:=gb870) (o:=.cells #[.bool a0_0,.slice A0_1 l0_1.length c0_1,.slice A0_2 l0_2.length c0_2] 25 (0,0)) (Bu BK870.out) hb)
     have n1_:=Aside0.mk (below_step (by repeat (first|with_reducible exact HB.out|apply ba|apply bn|apply b1|refine below_set ?_ GE870.out)) hb)
     clear BK870
     clear HB
     have BK870:=n0_
     have HB:=n1_
     clear n0_ n1_
     (try clear hb)
     (try clear hb2)
     (try clear hk)
     (try clear hi)
     refine hK.out _ _ trivial (fun hHeld=>?_)
     clear hK K
     refine norm_ (a':=?_) ?_ ?_
     rotate_left
     ·show Act.put _ (some 14) _ = _
      simp only [Act.put,s0,s1,s2,i64_w,i32_w]
      rfl
     refine pv (i:=1) (N:=some 15) (v:=?_) (a':=?_) rfl rfl (any_of HT_.out (by kernel_rfl)) (Or.inl ⟨by rfl,?_⟩) ?_ ?_
     rotate_left
     ·intro w'
      go_simp
      with_reducible rfl
     rotate_left
     ·simp only [Act.put,s0,s1,s2,i64_w,i32_w]
      rfl
     refine pv (i:=2) (N:=some 16) (v:=undef) (a':=?_) rfl rfl (any_of HT_.out (by kernel_rfl)) (Or.inr ⟨by rfl,rfl⟩) ?_ ?_
     rotate_left
     ·simp only [Act.put,s0,s1,s2,i64_w,i32_w]
      rfl
     refine pv (i:=3) (N:=some 17) (v:=undef) (a':=?_) rfl rfl (any_of HT_.out (by kernel_rfl)) (Or.inr ⟨by rfl,rfl⟩) ?_ ?_
     rotate_left
     ·simp only [Act.put,s0,s1,s2,i64_w,i32_w]
      rfl
     refine pv (i:=4) (N:=some 18) (v:=undef) (a':=?_) rfl rfl (any_of HT_.out (by kernel_rfl)) (Or.inr ⟨by rfl,rfl⟩) ?_ ?_
     rotate_left
     ·simp only [Act.put,s0,s1,s2,i64_w,i32_w]
      rfl
     refine pv (i:=5) (N:=some 19) (v:=undef) (a':=?_) rfl rfl (any_of HT_.out (by kernel_rfl)) (Or.inr ⟨by rfl,rfl⟩) ?_ ?_
     rotate_left
     ·simp only [Act.put,s0,s1,s2,i64_w,i32_w]
      rfl
     refine pv (i:=6) (N:=some 20) (v:=undef) (a':=?_) rfl rfl (any_of HT_.out (by kernel_rfl)) (Or.inr ⟨by rfl,rfl⟩) ?_ ?_
     rotate_left
     ·simp only [Act.put,s0,s1,s2,i64_w,i32_w]
      rfl
     refine pv (i:=7) (N:=some 21) (v:=?_) (a':=?_) rfl rfl (any_of HT_.out (by kernel_rfl)) (Or.inl ⟨by rfl,?_⟩) ?_ ?_
     rotate_left
     ·intro w'
      go_simp
      with_reducible rfl
     rotate_left
     ·simp only [Act.put,s0,s1,s2,i64_w,i32_w]
      rfl
     refine pv (i:=8) (N:=some 22) (v:=?_) (a':=?_) rfl rfl (any_of HT_.out (by kernel_rfl)) (Or.inl ⟨by rfl,?_⟩) ?_ ?_
     rotate_left
     ·intro w'
      go_simp
      with_reducible rfl
     rotate_left
     ·simp only [Act.put,s0,s1,s2,i64_w,i32_w]
      rfl
     refine pv (i:=9) (N:=some 23) (v:=undef) (a':=?_) rfl rfl (any_of HT_.out (by kernel_rfl)) (Or.inr ⟨by rfl,rfl⟩) ?_ ?_
     rotate_left
     ·simp only [Act.put,s0,s1,s2,i64_w,i32_w]
      rfl
     refine pv (i:=10) (N:=some 24) (v:=undef) (a':=?_) rfl rfl (any_of HT_.out (by kernel_rfl)) (Or.inr ⟨by rfl,rfl⟩) ?_ ?_
     rotate_left
     ·simp only [Act.put,s0,s1,s2,i64_w,i32_w]
      rfl
     refine pv (i:=11) (N:=some 25) (v:=undef) (a':=?_) rfl rfl (any_of HT_.out (by kernel_rfl)) (Or.inr ⟨by rfl,rfl⟩) ?_ ?_
     rotate_left
     ·simp only [Act.put,s0,s1,s2,i64_w,i32_w]
      rfl
     refine pv (i:=12) (N:=some 26) (v:=undef) (a':=?_) rfl rfl (any_of HT_.out (by kernel_rfl)) (Or.inr ⟨by rfl,rfl⟩) ?_ ?_
     rotate_left
     ·simp only [Act.put,s0,s1,s2,i64_w,i32_w]
      rfl
     refine pv (i:=13) (N:=some 27) (v:=undef) (a':=?_) rfl rfl (any_of HT_.out (by kernel_rfl)) (Or.inr ⟨by rfl,rfl⟩) ?_ ?_
     rotate_left
     ·simp only [Act.put,s0,s1,s2,i64_w,i32_w]
      rfl
     refine pv (i:=14) (N:=some 28) (v:=undef) (a':=?_) rfl rfl (any_of HT_.out (by kernel_rfl)) (Or.inr ⟨by rfl,rfl⟩) ?_ ?_
     rotate_left
     ·simp only [Act.put,s0,s1,s2,i64_w,i32_w]
      rfl
     refine pv (i:=15) (N:=some 29) (v:=undef) (a':=?_) rfl rfl (any_of HT_.out (by kernel_rfl)) (Or.inr ⟨by rfl,rfl⟩) ?_ ?_
     rotate_left
     ·simp only [Act.put,s0,s1,s2,i64_w,i32_w]
      rfl
     refine pv (i:=16) (N:=some 30) (v:=?_) (a':=?_) rfl rfl (any_of HT_.out (by kernel_rfl)) (Or.inl ⟨by rfl,?_⟩) ?_ ?_
     rotate_left
     ·intro w'
      go_simp
      with_reducible rfl
     rotate_left
     ·simp only [Act.put,s0,s1,s2,i64_w,i32_w]
      rfl
     refine pv (i:=17) (N:=some 2) (v:=?_) (a':=?_) rfl rfl (any_of HT_.out (by kernel_rfl)) (Or.inl ⟨by rfl,?_⟩) ?_ ?_
     rotate_left
     ·intro w'
      go_simp
      with_reducible rfl
     rotate_left
     ·simp only [Act.put,s0,s1,s2,i64_w,i32_w]
      rfl
     refine done_ (done_of HT_.out (by kernel_rfl)) ?_
     try go_wp2
     go_ret
     exact ⟨by first|rfl|(simp [errW_none,errW_some] <;> rfl)|(simp [*,errW_none,errW_some] <;> rfl),by repeat (first|with_reducible exact HB.out|apply ba|apply bn|apply b1|refine below_set ?_ GE870.out)⟩
end Go.Proofs.YtncdiodnbkhacaaDoor.Pq
end
section
namespace Go.Proofs.YtncdiodnbkhacaaDoor.N
set_option linter.unusedVariables false
set_option linter.unusedSimpArgs false
open Go.RowKit Go.Proofs.YtncdiodnbkhacaaDoorW.PrintWords
def V : List Int → Int
|[]=>0
|x :: l=>x + 4294967296 * V l
def W (l : List Int) : Prop:=∀ x ∈ l,0 ≤ x ∧ x < 4294967296
def P (n : Nat) : Int:=4294967296 ^ n
theorem P_zero : P 0 = 1:=rfl
theorem P_succ (n : Nat) : P (n + 1) = 4294967296 * P n:=by unfold P;rw [Int.pow_succ,Int.mul_comm]
theorem P_pos (n : Nat) : 0 < P n:=by
 induction n with
|zero=>decide
|succ n ih=>rw [P_succ];omega
theorem P_add (m n : Nat) : P (m + n) = P m * P n:=by unfold P;rw [Int.pow_add]
theorem P_one_le (n : Nat) : 1 ≤ P n:=by have:=P_pos n;omega
theorem P_le {m n : Nat} (h : m ≤ n) : P m ≤ P n:=by
 obtain ⟨d,rfl⟩:=Nat.exists_eq_add_of_le h
 rw [P_add]
 have h1:=P_pos m
 have h2:=P_one_le d
 have h3 : P m * 1 ≤ P m * P d:=Int.mul_le_mul_of_nonneg_left h2 (by omega)
 omega
theorem W_nil : W []:=fun _ h=>by cases h
theorem W_cons {x : Int} {l : List Int} : W (x :: l) ↔ (0 ≤ x ∧ x < 4294967296) ∧ W l:=by
 constructor
 ·exact fun h=>⟨h x (List.mem_cons_self ..),fun y hy=>h y (List.mem_cons_of_mem _ hy)⟩
 ·rintro ⟨h1,h2⟩ y hy
  rcases List.mem_cons.1 hy with rfl|hy
  ·exact h1
  ·exact h2 y hy
theorem W_append {l m : List Int} (h : W l) (k : W m) : W (l ++ m):=fun x hx=>by
 rcases List.mem_append.1 hx with hx|hx
 ·exact h x hx
 ·exact k x hx
theorem W_one {x : Int} (h0 : 0 ≤ x) (h1 : x < 4294967296) : W [x]:=W_cons.2 ⟨⟨h0,h1⟩,W_nil⟩
theorem W_take {l : List Int} (h : W l) (n : Nat) : W (l.take n):=fun x hx=>h x (List.mem_of_mem_take hx)
theorem W_drop {l : List Int} (h : W l) (n : Nat) : W (l.drop n):=fun x hx=>h x (List.mem_of_mem_drop hx)
theorem W_set {l : List Int} (h : W l) (i : Nat) {x : Int} (h0 : 0 ≤ x) (h1 : x < 4294967296) : W (l.set i x):=fun y hy=>by
 rcases List.mem_or_eq_of_mem_set hy with hy|rfl
 ·exact h y hy
 ·exact ⟨h0,h1⟩
theorem W_replicate (n : Nat) : W (List.replicate n 0):=fun x hx=>by
 have:=List.eq_of_mem_replicate hx
 omega
theorem W_rd {l : List Int} (h : W l) (i : Int) : 0 ≤ rd l i ∧ rd l i < 4294967296:=by
 unfold rd
 by_cases hi : i.toNat < l.length
 ·have e : l.getD i.toNat 0 = l[i.toNat]:=by simp [List.getD_eq_getElem?_getD,hi]
  rw [e]
  exact h _ (List.getElem_mem hi)
 ·have e : l.getD i.toNat 0 = 0:=by simp [List.getD_eq_getElem?_getD,List.getElem?_eq_none (Nat.le_of_not_lt hi)]
  omega
theorem V_nil : V [] = 0:=rfl
theorem V_cons (x : Int) (l : List Int) : V (x :: l) = x + 4294967296 * V l:=rfl
theorem V_one (x : Int) : V [x] = x:=by simp [V]
theorem V_nonneg {l : List Int} (h : W l) : 0 ≤ V l:=by
 induction l with
|nil=>exact Int.le_refl _
|cons x l ih =>
  obtain ⟨h1,h2⟩:=W_cons.1 h
  have:=ih h2
  rw [V_cons]
  omega
theorem V_lt {l : List Int} (h : W l) : V l < P l.length:=by
 induction l with
|nil=>decide
|cons x l ih =>
  obtain ⟨h1,h2⟩:=W_cons.1 h
  have:=ih h2
  rw [V_cons,List.length_cons,P_succ]
  omega
theorem V_append (l m : List Int) : V (l ++ m) = V l + P l.length * V m:=by
 induction l with
|nil=>simp [V,P]
|cons x l ih =>
  rw [List.cons_append,V_cons,V_cons,ih,List.length_cons,P_succ]
  grind
theorem V_snoc (l : List Int) (x : Int) : V (l ++ [x]) = V l + P l.length * x:=by rw [V_append,V_one]
theorem V_replicate (n : Nat) : V (List.replicate n 0) = 0:=by
 induction n with
|zero=>rfl
|succ n ih=>rw [List.replicate_succ,V_cons,ih];rfl
theorem take_succ_rd (l : List Int) (i : Nat) (h : i < l.length) : l.take (i + 1) = l.take i ++ [rd l (i : Int)]:=by
 rw [List.take_succ_eq_append_getElem h]
 simp [rd,List.getD_eq_getElem?_getD,h]
theorem V_take_succ (l : List Int) (i : Nat) (h : i < l.length) : V (l.take (i + 1)) = V (l.take i) + P i * rd l (i : Int):=by
 rw [take_succ_rd l i h,V_snoc,List.length_take,Nat.min_eq_left (by omega)]
theorem rd_beyond (l : List Int) (i : Int) (h : l.length ≤ i.toNat) : rd l i = 0:=by
 simp [rd,List.getD_eq_getElem?_getD,List.getElem?_eq_none h]
theorem V_take_succ' (l : List Int) (i : Nat) : V (l.take (i + 1)) = V (l.take i) + P i * rd l (i : Int):=by
 by_cases h : i < l.length
 ·exact V_take_succ l i h
 ·rw [rd_beyond l i (by simpa using h),List.take_of_length_le (by omega),List.take_of_length_le (by omega)]
  simp
theorem V_take_all (l : List Int) (n : Nat) (h : l.length ≤ n) : V (l.take n) = V l:=by rw [List.take_of_length_le h]
theorem V_split (l : List Int) (n : Nat) (h : n ≤ l.length) : V l = V (l.take n) + P n * V (l.drop n):=by
 have h1:=V_append (l.take n) (l.drop n)
 rw [List.take_append_drop,List.length_take,Nat.min_eq_left h] at h1
 exact h1
theorem V_split' (l : List Int) (n : Nat) : V l = V (l.take n) + P n * V (l.drop n):=by
 by_cases h : n ≤ l.length
 ·exact V_split l n h
 ·rw [List.take_of_length_le (by omega),List.drop_of_length_le (by omega),V_nil]
  simp
theorem V_set (l : List Int) (i : Nat) (x : Int) (h : i < l.length) : V (l.set i x) = V l + P i * (x - rd l (i : Int)):=by
 induction l generalizing i with
|nil=>cases h
|cons y l ih =>
  cases i with
 |zero=>simp [V,rd,P];omega
 |succ i =>
   rw [List.set_cons_succ,V_cons,V_cons,ih i (by simpa using h),P_succ]
   have e : rd (y :: l) ((i + 1 : Nat) : Int) = rd l (i : Int):=by simp only [rd,Int.toNat_natCast,List.getD_cons_succ]
   rw [e]
   grind
theorem rd_set_eq (l : List Int) (i : Nat) (x : Int) (h : i < l.length) : rd (l.set i x) (i : Int) = x:=by
 simp [rd,List.getD_eq_getElem?_getD,h]
theorem rd_set_ne (l : List Int) (i : Nat) (x : Int) (j : Int) (h : j.toNat ≠ i) : rd (l.set i x) j = rd l j:=by
 simp only [rd,List.getD_eq_getElem?_getD]
 rw [List.getElem?_set_ne (by omega)]
theorem rd_replicate (n : Nat) (i : Int) : rd (List.replicate n 0) i = 0:=by
 simp only [rd,List.getD_eq_getElem?_getD,List.getElem?_replicate]
 split <;> rfl
def L (n : Int) : List Int:=if h : 0 < n then n % 4294967296 :: L (n / 4294967296) else []
termination_by n.toNat
decreasing_by omega
theorem L_zero : L 0 = []:=by unfold L;rfl
theorem L_pos {n : Int} (h : 0 < n) : L n = n % 4294967296 :: L (n / 4294967296):=by
 conv=>lhs;unfold L
 rw [dif_pos h]
theorem L_neg {n : Int} (h : n ≤ 0) : L n = []:=by
 unfold L
 rw [dif_neg (by omega)]
theorem V_L : ∀ {n : Int},0 ≤ n → V (L n) = n:=by
 have H : ∀ (k : Nat) (n : Int),n.toNat ≤ k → 0 ≤ n → V (L n) = n:=by
  intro k
  induction k with
 |zero=>intro n h h0;rw [show n = 0 by omega,L_zero];rfl
 |succ k ih =>
   intro n h h0
   rcases Int.lt_or_eq_of_le h0 with hp|rfl
   ·rw [L_pos hp,V_cons,ih (n / 4294967296) (by omega) (by omega)]
    omega
   ·rw [L_zero];rfl
 exact fun {n} h=>H n.toNat n (Nat.le_refl _) h
theorem W_L : ∀ (n : Int),W (L n):=by
 have H : ∀ (k : Nat) (n : Int),n.toNat ≤ k → W (L n):=by
  intro k
  induction k with
 |zero=>intro n h;rw [L_neg (by omega)];exact W_nil
 |succ k ih =>
   intro n h
   by_cases hp : 0 < n
   ·rw [L_pos hp]
    exact W_cons.2 ⟨by omega,ih _ (by omega)⟩
   ·rw [L_neg (by omega)];exact W_nil
 exact fun n=>H n.toNat n (Nat.le_refl _)
theorem L_length_le : ∀ (m : Nat) {n : Int},n < P m → (L n).length ≤ m:=by
 intro m
 induction m with
|zero =>
  intro n h
  rw [P_zero] at h
  rw [L_neg (by omega)]
  exact Nat.le_refl _
|succ m ih =>
  intro n h
  rw [P_succ] at h
  by_cases hp : 0 < n
  ·rw [L_pos hp,List.length_cons]
   have:=ih (n:=n / 4294967296) (by omega)
   omega
  ·rw [L_neg (by omega)]
   exact Nat.zero_le _
theorem L_length_lt {m : Nat} {n : Int} (h : P m ≤ n) : m < (L n).length:=by
 rcases Nat.lt_or_ge m (L n).length with hlt|hge
 ·exact hlt
 ·have h0 : 0 ≤ n:=by have:=P_pos m;omega
  have h1:=V_lt (W_L n)
  rw [V_L h0] at h1
  have:=P_le hge
  omega
theorem L_nil_iff {n : Int} (h : 0 ≤ n) : L n = [] ↔ n = 0:=by
 constructor
 ·intro e
  have:=V_L h
  rw [e] at this
  exact this.symm
 ·rintro rfl
  exact L_zero
theorem L_V : ∀ {l : List Int},W l → (∀ h : l ≠ [],l.getLast h ≠ 0) → L (V l) = l:=by
 intro l
 induction l with
|nil=>intro _ _;exact L_zero
|cons x l ih =>
  intro hw hl
  obtain ⟨h1,h2⟩:=W_cons.1 hw
  have hv:=V_nonneg h2
  have hih : L (V l) = l:=ih h2 (fun hne=>by
   have:=hl (by simp)
   rwa [List.getLast_cons hne] at this)
  have hp : 0 < V (x :: l):=by
   rw [V_cons]
   by_cases hne : l = []
   ·subst hne
    have:=hl (by simp)
    simp at this
    simp [V]
    omega
   ·have : V l ≠ 0:=fun e=>hne (by rw [← hih,e,L_zero])
    omega
  rw [L_pos hp,V_cons,show (x + 4294967296 * V l) % 4294967296 = x by omega,show (x + 4294967296 * V l) / 4294967296 = V l by omega,hih]
theorem L_last {n : Int} : ∀ h : L n ≠ [],(L n).getLast h ≠ 0:=by
 have H : ∀ (k : Nat) (n : Int),n.toNat ≤ k → ∀ h : L n ≠ [],(L n).getLast h ≠ 0:=by
  intro k
  induction k with
 |zero=>intro n h hne;exact absurd (L_neg (by omega)) hne
 |succ k ih =>
   intro n h hne
   by_cases hp : 0 < n
   ·have e:=L_pos hp
    by_cases hz : L (n / 4294967296) = []
    ·have hz0:=(L_nil_iff (show 0 ≤ n / 4294967296 by omega)).1 hz
     have : (L n).getLast hne = n % 4294967296:=by
      simp only [e,hz,List.getLast_singleton]
     rw [this]
     omega
    ·have:=ih (n / 4294967296) (by omega) hz
     have e2 : (L n).getLast hne = (L (n / 4294967296)).getLast hz:=by
      simp only [e,List.getLast_cons hz]
     rw [e2]
     exact this
   ·exact absurd (L_neg (by omega)) hne
 exact H n.toNat n (Nat.le_refl _)
theorem V_take_lt {a : List Int} (h : W a) (i : Nat) : V (a.take i) < P i:=by
 have h1:=V_lt (W_take h i)
 have h2 : (a.take i).length ≤ i:=List.length_take_le _ _
 have:=P_le h2
 omega
theorem P_mul_lt {i : Nat} {x y p q : Int} (hp0 : 0 ≤ p) (hp : p < P i) (hq0 : 0 ≤ q) (h : x < y) : p + P i * x < q + P i * y:=by
 have h1 : P i * (x + 1) ≤ P i * y:=Int.mul_le_mul_of_nonneg_left (by omega) (by have:=P_pos i;omega)
 rw [Int.mul_add] at h1
 omega
theorem wrap64_of {x : Int} (h0 : -9223372036854775808 ≤ x) (h1 : x ≤ 9223372036854775807) : wrap64 x = x:=by unfold wrap64;omega
theorem wrap_u64_of {x : Int} (h0 : 0 ≤ x) (h1 : x < 18446744073709551616) : IntKind.u64.wrap x = x:=by
 simp only [IntKind.wrap,IntKind.bits,IntKind.signed]
 simp
 omega
theorem wf_of {l : List Int} (h : ∀ x ∈ l,(Lit.int .u32 x).wf = true) : W l:=fun x hx=>by
 have h1:=h x hx
 simp [Lit.wf] at h1
 have e1 : IntKind.u32.min = 0:=rfl
 have e2 : IntKind.u32.max = 4294967295:=rfl
 omega
attribute [irreducible] P V
end Go.Proofs.YtncdiodnbkhacaaDoor.N
end
section
namespace Go.Proofs.YtncdiodnbkhacaaDoor.N
set_option linter.unusedVariables false
set_option linter.unusedSimpArgs false
open Go.RowKit Go.Proofs.YtncdiodnbkhacaaDoorW.PrintWords Go.Proofs.YtncdiodnbkhacaaDoorW.PrintLast Go.Proofs.YtncdiodnbkhacaaDoor.Pq
theorem Ev_pos {α : Type} {c : Prop} [Decidable c] {f g : Nat → Option α} {r : α} (hc : c) (h : Ev f r) : Ev (fun k=>if c then f k else g k) r:=Ev.congr (fun k=>if_pos hc) h
theorem Ev_neg {α : Type} {c : Prop} [Decidable c] {f g : Nat → Option α} {r : α} (hc : ¬ c) (h : Ev g r) : Ev (fun k=>if c then f k else g k) r:=Ev.congr (fun k=>if_neg hc) h
theorem Ev_some {α β : Type} {o : Option α} {f : Nat → α → Option β} {a : α} {r : β} (h : o = some a) (k : Ev (fun n=>f n a) r) : Ev (fun n=>o.bind (f n)) r:=by
 subst h
 exact k
theorem Ev_now {α : Type} {o : Option α} {r : α} (h : o = some r) : Ev (fun _=>o) r:=⟨0,fun _ _=>h⟩
theorem Ev_eq {α : Type} {f : Nat → Option α} {r s : α} (h : Ev f r) (e : r = s) : Ev f s:=e ▸ h
theorem Ev_up {α : Type} {f : Nat → Option α} {r : α} (h : Ev (fun k=>f (k + 1)) r) : Ev f r:=Ev.step (fun k=>rfl) h
theorem n_take {l : List Int} (hw : W l) : ∀ m,m ≤ l.length → l.take (nat_trim.n l m) = L (V (l.take m))
|0,_=>by
  show l.take 0 = _
  rw [List.take_zero,V_nil,L_zero]
|m + 1,h=>by
  have hv:=V_take_succ l m (by omega)
  show l.take (if l.getD m 0 = 0 then nat_trim.n l m else m + 1) = _
  have hrd : rd l (m : Int) = l.getD m 0:=rfl
  by_cases hz : l.getD m 0 = 0
  ·rw [if_pos hz,n_take hw m (by omega),hv,hrd,hz]
   simp
  ·rw [if_neg hz]
   refine (L_V (W_take hw _) (fun hne=>?_)).symm
   have e:=take_succ_rd l m (by omega)
   have : (l.take (m + 1)).getLast hne = rd l (m : Int):=by
    simp only [e,List.getLast_append,List.getLast_singleton]
    simp
   rw [this,hrd]
   exact hz
theorem trim_f {l : List Int} (hw : W l) : nat_trim.f l = some (L (V l)):=by
 unfold nat_trim.f
 rw [n_take hw l.length (Nat.le_refl _),List.take_length]
theorem L_len_le {l : List Int} (hw : W l) : (L (V l)).length ≤ l.length:=L_length_le _ (V_lt hw)
abbrev Sm (l : List Int) : Prop:=l.length < 35184372087809
theorem Sm_L {l : List Int} (hw : W l) (h : Sm l) : Sm (L (V l)):=Nat.lt_of_le_of_lt (L_len_le hw) h
theorem clone_f {l : List Int} (h : l.length < 35184372088832) : slices_Clone_uint32_uint32.f l = some l:=if_pos h
theorem norm_f {l : List Int} (hw : W l) (h : Sm l) : nat_Norm.f l = some (L (V l)):=by
 have hl:=Sm_L hw h
 unfold nat_Norm.f
 rw [trim_f hw,Option.bind_some,clone_f (by unfold Sm at hl;omega),Option.bind_some]
theorem rnorm_l {l : List Int} (h : l.length < 35184372088832) : ∀ (m : Nat),m ≤ l.length → Ev (fun k=>penumbraref01_Norm.l0 k l (m : Int)) (l.take (nat_trim.n l m))
|0,_=>by
  refine Ev.step (fun k=>rfl) ?_
  refine Ev_neg (by omega) ?_
  refine Ev_some rfl ?_
  refine Ev_pos (by omega) ?_
  refine Ev_pos (by omega) ?_
  refine Ev_pos (by simp) ?_
  exact Ev_now (by simp [nat_trim.n])
|m + 1,hm=>by
  have w1 : wrap64 (((m + 1 : Nat) : Int) - 1) = (m : Int):=by unfold wrap64;omega
  refine Ev.step (fun k=>rfl) ?_
  refine Ev_pos (by omega) ?_
  rw [w1]
  refine Ev_pos (by omega) ?_
  refine Ev_pos (by omega) ?_
  have hrd : rd l (m : Int) = l.getD m 0:=rfl
  by_cases hz : l.getD m 0 = 0
  ·refine Ev_pos (hrd.trans hz) ?_
   refine Ev_eq (rnorm_l h m (by omega)) ?_
   show _ = l.take (if l.getD m 0 = 0 then nat_trim.n l m else m + 1)
   rw [if_pos hz]
  ·refine Ev_neg (fun e=>hz (hrd.symm.trans e)) ?_
   refine Ev_some rfl ?_
   refine Ev_pos (by omega) ?_
   refine Ev_pos (by omega) ?_
   refine Ev_pos (by simp;omega) ?_
   refine Ev_now ?_
   show _ = some (l.take (if l.getD m 0 = 0 then nat_trim.n l m else m + 1))
   rw [if_neg hz]
   simp only [List.nil_append,Int.toNat_natCast]
theorem rnorm_f {l : List Int} (hw : W l) (h : l.length < 35184372088832) : Ev (fun k=>penumbraref01_Norm.f k l) (L (V l)):=by
 refine Ev_eq (rnorm_l h l.length (Nat.le_refl _)) ?_
 rw [n_take hw l.length (Nat.le_refl _),List.take_length]
theorem same_l (a : List Int) (h : a.length < 4611686018427387904) : ∀ (d m : Nat),a.length - m = d → m ≤ a.length → Ev (fun k=>penumbraref01_Same.l0 k a a (m : Int)) true
|0,m,hd,hm=>by
  refine Ev.step (fun k=>rfl) ?_
  refine Ev_neg (by omega) ?_
  exact Ev.now _
|d + 1,m,hd,hm=>by
  have w1 : wrap64 ((m : Int) + 1) = ((m + 1 : Nat) : Int):=by unfold wrap64;omega
  refine Ev.step (fun k=>rfl) ?_
  refine Ev_pos (by omega) ?_
  refine Ev_pos (by omega) ?_
  refine Ev_pos (by omega) ?_
  refine Ev_pos rfl ?_
  rw [w1]
  exact same_l a h d (m + 1) (by omega) (by omega)
theorem same_f {a : List Int} (h : a.length < 4611686018427387904) : Ev (fun k=>penumbraref01_Same.f k a a) true:=by
 refine Ev_pos rfl ?_
 exact same_l a h a.length 0 (by omega) (by omega)
theorem limb_f {a : List Int} (hw : W a) (i : Nat) : penumbraref01_limb.f a (i : Int) = some (rd a (i : Int)):=by
 unfold penumbraref01_limb.f
 have hb:=W_rd hw (i : Int)
 by_cases h : (i : Int) < (a.length : Int)
 ·rw [if_pos h,if_pos (by omega),wrap_u64_of hb.1 (by omega)]
 ·rw [if_neg h,rd_beyond a i (by omega)]
theorem add32_f {a b c : Int} (ha : 0 ≤ a ∧ a < 4294967296) (hb : 0 ≤ b ∧ b < 4294967296) (hc : 0 ≤ c ∧ c ≤ 1) : bits_Add32.f a b c = some ((a + b + c) % 4294967296,(a + b + c) / 4294967296):=by
 unfold bits_Add32.f
 rw [wrap_u64_of ha.1 (by omega),wrap_u64_of hb.1 (by omega),wrap_u64_of hc.1 (by omega),wrap_u64_of (x:=a + b) (by omega) (by omega),wrap_u64_of (x:=a + b + c) (by omega) (by omega)]
 rw [show ((a + b + c) / 4294967296) % 4294967296 = (a + b + c) / 4294967296 by omega]
theorem sub32_f {a b c : Int} (ha : 0 ≤ a ∧ a < 4294967296) (hb : 0 ≤ b ∧ b < 4294967296) (hc : 0 ≤ c ∧ c ≤ 1) : bits_Sub32.f a b c = some ((a - b - c) % 4294967296,bits_Sub32.b a b c):=by
 unfold bits_Sub32.f
 rw [if_pos ⟨ha,hb,hc⟩]
theorem sub32_b (a b c : Int) : (a < b + c → bits_Sub32.b a b c = 1) ∧ (b + c ≤ a → bits_Sub32.b a b c = 0):=by
 unfold bits_Sub32.b
 constructor
 ·intro h;rw [if_pos h]
 ·intro h;rw [if_neg (by omega)]
def cm (x y : Int) : Int:=if x < y then -1 else if y < x then 1 else 0
theorem cmp_step (a b : List Int) (i : Nat) (ha : W a) (hb : W b) : cm (V (a.take (i + 1))) (V (b.take (i + 1))) = if rd a (i : Int) < rd b (i : Int) then -1 else if rd a (i : Int) > rd b (i : Int) then 1 else cm (V (a.take i)) (V (b.take i)):=by
 rw [V_take_succ',V_take_succ']
 have a1:=V_nonneg (W_take ha i)
 have a2:=V_take_lt ha i
 have b1:=V_nonneg (W_take hb i)
 have b2:=V_take_lt hb i
 rcases Int.lt_trichotomy (rd a (i : Int)) (rd b (i : Int)) with h|h|h
 ·rw [if_pos h]
  unfold cm
  rw [if_pos (P_mul_lt a1 a2 b1 h)]
 ·rw [if_neg (by omega),if_neg (by omega),h]
  unfold cm
  generalize P i * rd b (i : Int) = z
  by_cases h1 : V (a.take i) < V (b.take i)
  ·rw [if_pos h1,if_pos (by omega)]
  ·rw [if_neg h1,if_neg (by omega)]
   by_cases h2 : V (b.take i) < V (a.take i)
   ·rw [if_pos h2,if_pos (by omega)]
   ·rw [if_neg h2,if_neg (by omega)]
 ·have:=P_mul_lt b1 b2 a1 h
  rw [if_neg (by omega),if_pos h]
  unfold cm
  rw [if_neg (by omega),if_pos this]
theorem ncmp_l {a b : List Int} (ha : W a) (hb : W b) (hl : a.length = b.length) (hs : a.length < 35184372087809) : ∀ (m : Nat),m ≤ a.length → Ev (fun k=>nat_Cmp.l0 k a b ((m : Int) - 1)) (cm (V (a.take m)) (V (b.take m)))
|0,_=>by
  refine Ev.step (fun k=>rfl) ?_
  refine Ev_neg (by omega) ?_
  exact Ev_now (by simp [cm])
|m + 1,h=>by
  have e : ((m + 1 : Nat) : Int) - 1 = (m : Int):=by omega
  have w1 : wrap64 ((m : Int) - 1) = (m : Int) - 1:=by unfold wrap64;omega
  rw [e,cmp_step a b m ha hb]
  refine Ev.step (fun k=>rfl) ?_
  refine Ev_pos (by omega) ?_
  refine Ev_pos (by omega) ?_
  refine Ev_pos (by omega) ?_
  refine Ev_pos (by omega) ?_
  by_cases h1 : rd a (m : Int) < rd b (m : Int)
  ·rw [if_pos h1]
   refine Ev_pos h1 ?_
   exact Ev.now _
  ·rw [if_neg h1]
   refine Ev_neg h1 ?_
   by_cases h2 : rd a (m : Int) > rd b (m : Int)
   ·rw [if_pos h2]
    refine Ev_pos h2 ?_
    exact Ev.now _
   ·rw [if_neg h2,w1]
    refine Ev_neg h2 ?_
    exact ncmp_l ha hb hl hs m (by omega)
theorem ncmp_f {a b : List Int} (ha : W a) (hb : W b) (sa : Sm a) (sb : Sm b) : Ev (fun k=>nat_Cmp.f k a b) (cm (V a) (V b)):=by
 have hla:=Sm_L ha sa
 have hlb:=Sm_L hb sb
 unfold Sm at hla hlb
 have va:=V_nonneg ha
 have vb:=V_nonneg hb
 have A:=V_lt (W_L (V a))
 have Bv:=V_lt (W_L (V b))
 rw [V_L va] at A
 rw [V_L vb] at Bv
 refine Ev_some (trim_f ha) ?_
 refine Ev_some (trim_f hb) ?_
 rcases Nat.lt_trichotomy (L (V a)).length (L (V b)).length with h|h|h
 ·refine Ev_neg (by omega) ?_
  refine Ev_pos (by omega) ?_
  refine Ev_now ?_
  have : V a < V b:=by
   by_cases h1 : V a < V b
   ·exact h1
   ·have:=L_length_le (L (V a)).length (n:=V b) (by omega)
    omega
  unfold cm
  rw [if_pos this]
 ·refine Ev_pos (by omega) ?_
  have w1 : wrap64 (((L (V a)).length : Int) - 1) = ((L (V a)).length : Int) - 1:=by unfold wrap64;omega
  rw [w1]
  refine Ev_eq (ncmp_l (W_L _) (W_L _) h hla _ (Nat.le_refl _)) ?_
  rw [List.take_length,h,List.take_length,V_L va,V_L vb]
 ·refine Ev_neg (by omega) ?_
  refine Ev_neg (by omega) ?_
  refine Ev_now ?_
  have : V b < V a:=by
   by_cases h1 : V b < V a
   ·exact h1
   ·have:=L_length_le (L (V b)).length (n:=V a) (by omega)
    omega
  unfold cm
  rw [if_neg (by omega),if_pos this]
theorem rcmp_l {a b : List Int} (ha : W a) (hb : W b) : ∀ (m : Nat),m < 70368744177664 → Ev (fun k=>penumbraref01_Cmp.l0 k a b ((m : Int) - 1)) (cm (V (a.take m)) (V (b.take m)))
|0,_=>by
  refine Ev.step (fun k=>rfl) ?_
  refine Ev_neg (by omega) ?_
  exact Ev_now (by simp [cm])
|m + 1,h=>by
  have e : ((m + 1 : Nat) : Int) - 1 = (m : Int):=by omega
  have w1 : wrap64 ((m : Int) - 1) = (m : Int) - 1:=by unfold wrap64;omega
  rw [e,cmp_step a b m ha hb]
  refine Ev.step (fun k=>rfl) ?_
  refine Ev_pos (by omega) ?_
  refine Ev_some (limb_f ha m) ?_
  refine Ev_some (limb_f hb m) ?_
  by_cases h1 : rd a (m : Int) < rd b (m : Int)
  ·rw [if_pos h1]
   refine Ev_pos h1 ?_
   exact Ev.now _
  ·rw [if_neg h1]
   refine Ev_neg h1 ?_
   by_cases h2 : rd a (m : Int) > rd b (m : Int)
   ·rw [if_pos h2]
    refine Ev_pos h2 ?_
    exact Ev.now _
   ·rw [if_neg h2,w1]
    refine Ev_neg h2 ?_
    exact rcmp_l ha hb m (by omega)
theorem rcmp_f {a b : List Int} (ha : W a) (hb : W b) (sa : Sm a) (sb : Sm b) : Ev (fun k=>penumbraref01_Cmp.f k a b) (cm (V a) (V b)):=by
 unfold Sm at sa sb
 have hm : ∃ m : Nat,m < 70368744177664 ∧ a.length ≤ m ∧ b.length ≤ m ∧ wrap64 ((mx (a.length : Int) (b.length : Int)) - 1) = (m : Int) - 1:=by
  refine ⟨max a.length b.length,by omega,by omega,by omega,?_⟩
  have : mx (a.length : Int) (b.length : Int) = ((max a.length b.length : Nat) : Int):=by
   unfold mx
   split <;> omega
  rw [this]
  unfold wrap64
  omega
 obtain ⟨m,h1,h2,h3,e⟩:=hm
 have:=rcmp_l ha hb m h1
 rw [V_take_all a m h2,V_take_all b m h3] at this
 show Ev (fun k=>penumbraref01_Cmp.l0 k a b (wrap64 ((mx (a.length : Int) (b.length : Int)) - 1))) _
 rw [e]
 exact this
theorem nadd_l0 {a b : List Int} (ha : W a) (hb : W b) (hl : b.length ≤ a.length) (sa : Sm a) : ∀ (d i : Nat) (p : List Int) (c : Int),a.length - i = d → i ≤ a.length → W p → p.length = i → 0 ≤ c ∧ c ≤ 1 →
  V p + P i * c = V (a.take i) + V (b.take i) → Ev (fun k=>nat_Add.l0 k b p c a (a.length : Int) (i : Int)) (L (V a + V b)):=by
 intro d
 induction d with
|zero =>
  intro i p c hd hi hp hpl hc hv
  have sa' : a.length < 35184372087809:=sa
  obtain rfl : i = a.length:=by omega
  refine Ev.step (fun k=>rfl) ?_
  refine Ev_neg (by omega) ?_
  refine Ev_pos (by omega) ?_
  refine Ev_some (trim_f (W_append hp (W_one hc.1 (by omega)))) ?_
  refine Ev_now ?_
  rw [V_snoc,hpl,hv,List.take_length,V_take_all b _ hl]
|succ d ih =>
  intro i p c hd hi hp hpl hc hv
  have HV:=Aside0.mk hv
  clear hv
  have sa' : a.length < 35184372087809:=sa
  have w1 : wrap64 ((i : Int) + 1) = ((i + 1 : Nat) : Int):=by unfold wrap64;omega
  have ra:=W_rd ha (i : Int)
  have rb:=W_rd hb (i : Int)
  have key : Aside0 (V (p ++ [(rd a (i : Int) + rd b (i : Int) + c) % 4294967296]) + P (i + 1) * ((rd a (i : Int) + rd b (i : Int) + c) / 4294967296) = V (a.take (i + 1)) + V (b.take (i + 1))):=⟨by
   have hv:=HV.out
   rw [V_snoc,hpl,V_take_succ' a i,V_take_succ' b i,P_succ]
   have:=Int.emod_add_mul_ediv (rd a (i : Int) + rd b (i : Int) + c) 4294967296
   grind⟩
  have hrec:=ih (i + 1) (p ++ [(rd a (i : Int) + rd b (i : Int) + c) % 4294967296]) ((rd a (i : Int) + rd b (i : Int) + c) / 4294967296) (by omega) (by omega) (W_append hp (W_one (by omega) (by omega))) (by simp [hpl]) (by omega) key.out
  refine Ev.step (fun k=>rfl) ?_
  refine Ev_pos (by omega) ?_
  refine Ev_pos (by omega) ?_
  refine Ev_pos (by omega) ?_
  by_cases hib : (i : Int) < (b.length : Int)
  ·refine Ev_pos hib ?_
   refine Ev_some (add32_f ra rb hc) ?_
   refine Ev_pos (by omega) ?_
   rw [w1]
   exact hrec
  ·have hz : rd b (i : Int) = 0:=rd_beyond b _ (by omega)
   rw [hz] at hrec rb
   refine Ev_neg hib ?_
   refine Ev_some (add32_f ra rb hc) ?_
   refine Ev_pos (by omega) ?_
   rw [w1]
   exact hrec
theorem nadd_l100 {a b : List Int} (ha : W a) (hb : W b) (hl : b.length ≤ a.length) (sa : Sm a) : ∀ (d i : Nat) (p : List Int) (c : Int),a.length - i = d → i ≤ a.length → W p → p.length = i → 0 ≤ c ∧ c ≤ 1 →
  V p + P i * c = V (a.take i) + V (b.take i) → Ev (fun k=>nat_Add.l100 k b p c a (a.length : Int) (i : Int)) (L (V a + V b)):=by
 intro d
 induction d with
|zero =>
  intro i p c hd hi hp hpl hc hv
  have sa' : a.length < 35184372087809:=sa
  obtain rfl : i = a.length:=by omega
  refine Ev.step (fun k=>rfl) ?_
  refine Ev_neg (by omega) ?_
  refine Ev_pos (by omega) ?_
  refine Ev_some (trim_f (W_append hp (W_one hc.1 (by omega)))) ?_
  refine Ev_now ?_
  rw [V_snoc,hpl,hv,List.take_length,V_take_all b _ hl]
|succ d ih =>
  intro i p c hd hi hp hpl hc hv
  have HV:=Aside0.mk hv
  clear hv
  have sa' : a.length < 35184372087809:=sa
  have w1 : wrap64 ((i : Int) + 1) = ((i + 1 : Nat) : Int):=by unfold wrap64;omega
  have ra:=W_rd ha (i : Int)
  have rb:=W_rd hb (i : Int)
  have key : Aside0 (V (p ++ [(rd a (i : Int) + rd b (i : Int) + c) % 4294967296]) + P (i + 1) * ((rd a (i : Int) + rd b (i : Int) + c) / 4294967296) = V (a.take (i + 1)) + V (b.take (i + 1))):=⟨by
   have hv:=HV.out
   rw [V_snoc,hpl,V_take_succ' a i,V_take_succ' b i,P_succ]
   have:=Int.emod_add_mul_ediv (rd a (i : Int) + rd b (i : Int) + c) 4294967296
   grind⟩
  have hrec:=ih (i + 1) (p ++ [(rd a (i : Int) + rd b (i : Int) + c) % 4294967296]) ((rd a (i : Int) + rd b (i : Int) + c) / 4294967296) (by omega) (by omega) (W_append hp (W_one (by omega) (by omega))) (by simp [hpl]) (by omega) key.out
  refine Ev.step (fun k=>rfl) ?_
  refine Ev_pos (by omega) ?_
  refine Ev_pos (by omega) ?_
  refine Ev_pos (by omega) ?_
  by_cases hib : (i : Int) < (b.length : Int)
  ·refine Ev_pos hib ?_
   refine Ev_some (add32_f ra rb hc) ?_
   refine Ev_pos (by omega) ?_
   rw [w1]
   exact hrec
  ·have hz : rd b (i : Int) = 0:=rd_beyond b _ (by omega)
   rw [hz] at hrec rb
   refine Ev_neg hib ?_
   refine Ev_some (add32_f ra rb hc) ?_
   refine Ev_pos (by omega) ?_
   rw [w1]
   exact hrec
theorem nadd_f {a b : List Int} (ha : W a) (hb : W b) (sa : Sm a) (sb : Sm b) : Ev (fun k=>nat_Add.f k a b) (L (V a + V b)):=by
 have hla:=Sm_L ha sa
 have hlb:=Sm_L hb sb
 have va:=V_nonneg ha
 have vb:=V_nonneg hb
 have hla':=hla
 have hlb':=hlb
 unfold Sm at hla' hlb'
 refine Ev_some (trim_f ha) ?_
 refine Ev_some (trim_f hb) ?_
 by_cases h : ((L (V a)).length : Int) < ((L (V b)).length : Int)
 ·have w1 : wrap64 (((L (V b)).length : Int) + 1) = ((L (V b)).length : Int) + 1:=by unfold wrap64;omega
  refine Ev_pos h ?_
  rw [w1]
  refine Ev_pos (by omega) ?_
  refine Ev_pos (by omega) ?_
  refine Ev_eq (nadd_l0 (W_L _) (W_L _) (by omega) hlb _ 0 [] 0 rfl (Nat.zero_le _) W_nil rfl (by omega) (by simp [V])) ?_
  rw [V_L va,V_L vb,Int.add_comm]
 ·have w1 : wrap64 (((L (V a)).length : Int) + 1) = ((L (V a)).length : Int) + 1:=by unfold wrap64;omega
  refine Ev_neg h ?_
  rw [w1]
  refine Ev_pos (by omega) ?_
  refine Ev_pos (by omega) ?_
  refine Ev_eq (nadd_l100 (W_L _) (W_L _) (by omega) hla _ 0 [] 0 rfl (Nat.zero_le _) W_nil rfl (by omega) (by simp [V])) ?_
  rw [V_L va,V_L vb]
theorem radd_l {a b : List Int} (ha : W a) (hb : W b) (sa : Sm a) (sb : Sm b) : ∀ (d i : Nat) (p : List Int) (c : Int),max a.length b.length - i = d → i ≤ max a.length b.length → W p → p.length = i → 0 ≤ c ∧ c ≤ 1 →
  V p + P i * c = V (a.take i) + V (b.take i) → Ev (fun k=>penumbraref01_Add.l0 k a b p c (i : Int)) (L (V a + V b)):=by
 intro d
 induction d with
|zero =>
  intro i p c hd hi hp hpl hc hv
  have sa' : a.length < 35184372087809:=sa
  have sb' : b.length < 35184372087809:=sb
  refine Ev.step (fun k=>rfl) ?_
  refine Ev_neg (by omega) ?_
  have hdec : decide ((i : Int) < (b.length : Int)) = false:=decide_eq_false (by omega)
  rw [hdec]
  refine Ev_up ?_
  unfold penumbraref01_Add.j1
  refine Ev_neg (by decide) ?_
  refine Ev_pos (by omega) ?_
  have ec : c % 4294967296 = c:=by omega
  rw [ec]
  refine Ev.bind (rnorm_f (W_append hp (W_one hc.1 (by omega))) (by simp;omega)) ?_
  refine Ev_now ?_
  rw [V_snoc,hpl,hv,V_take_all a _ (by omega),V_take_all b _ (by omega)]
|succ d ih =>
  intro i p c hd hi hp hpl hc hv
  have HV:=Aside0.mk hv
  clear hv
  have sa' : a.length < 35184372087809:=sa
  have sb' : b.length < 35184372087809:=sb
  have w1 : wrap64 ((i : Int) + 1) = ((i + 1 : Nat) : Int):=by unfold wrap64;omega
  have ra:=W_rd ha (i : Int)
  have rb:=W_rd hb (i : Int)
  have key : Aside0 (V (p ++ [(rd a (i : Int) + rd b (i : Int) + c) % 4294967296]) + P (i + 1) * ((rd a (i : Int) + rd b (i : Int) + c) / 4294967296) = V (a.take (i + 1)) + V (b.take (i + 1))):=⟨by
   have hv:=HV.out
   rw [V_snoc,hpl,V_take_succ' a i,V_take_succ' b i,P_succ]
   have:=Int.emod_add_mul_ediv (rd a (i : Int) + rd b (i : Int) + c) 4294967296
   grind⟩
  have hrec:=ih (i + 1) (p ++ [(rd a (i : Int) + rd b (i : Int) + c) % 4294967296]) ((rd a (i : Int) + rd b (i : Int) + c) / 4294967296) (by omega) (by omega) (W_append hp (W_one (by omega) (by omega))) (by simp [hpl]) (by omega) key.out
  have hx : Ev (fun k=>penumbraref01_Add.j1 k a b p c (i : Int) true) (L (V a + V b)):=by
   refine Ev_up ?_
   unfold penumbraref01_Add.j1
   refine Ev_pos rfl ?_
   refine Ev_some (limb_f ha i) ?_
   refine Ev_some (limb_f hb i) ?_
   refine Ev_pos (by omega) ?_
   have w2 : IntKind.u64.wrap (IntKind.u64.wrap (rd a (i : Int) + rd b (i : Int)) + c) = rd a (i : Int) + rd b (i : Int) + c:=by rw [wrap_u64_of (x:=rd a (i : Int) + rd b (i : Int)) (by omega) (by omega),wrap_u64_of (by omega) (by omega)]
   rw [w2,w1,Int.tmod_eq_emod_of_nonneg (by omega),Int.tdiv_eq_ediv_of_nonneg (by omega),wrap_u64_of (by omega) (by omega),Int.emod_emod]
   exact hrec
  refine Ev.step (fun k=>rfl) ?_
  by_cases hia : (i : Int) < (a.length : Int)
  ·refine Ev_pos hia ?_
   exact hx
  ·refine Ev_neg hia ?_
   have hdec : decide ((i : Int) < (b.length : Int)) = true:=decide_eq_true (by omega)
   rw [hdec]
   exact hx
theorem radd_f {a b : List Int} (ha : W a) (hb : W b) (sa : Sm a) (sb : Sm b) : Ev (fun k=>penumbraref01_Add.f k a b) (L (V a + V b)) :=
 radd_l ha hb sa sb _ 0 [] 0 rfl (Nat.zero_le _) W_nil rfl (by omega) (by simp [V])
def subS (x y : Int) : List Int × Bool:=if x < y then ([],false) else (L (x - y),true)
theorem cm_neg {x y : Int} : cm x y < 0 ↔ x < y:=by
 unfold cm
 split
 ·simp [*]
 ·split <;> simp [*]
theorem rsub_l {a b : List Int} (ha : W a) (hb : W b) (sa : Sm a) (hle : V b ≤ V a) : ∀ (d i : Nat) (p : List Int) (c : Int),a.length - i = d → i ≤ a.length → W p → p.length = i → 0 ≤ c ∧ c ≤ 1 →
  V p - P i * c = V (a.take i) - V (b.take i) → Ev (fun k=>penumbraref01_Sub.l0 k a b p c (i : Int)) (L (V a - V b),true):=by
 intro d
 induction d with
|zero =>
  intro i p c hd hi hp hpl hc hv
  have sa' : a.length < 35184372087809:=sa
  obtain rfl : i = a.length:=by omega
  refine Ev.step (fun k=>rfl) ?_
  refine Ev_neg (by omega) ?_
  refine Ev.bind (rnorm_f hp (by omega)) ?_
  refine Ev_now ?_
  rw [List.take_length] at hv
  have h1:=V_lt hp
  rw [hpl] at h1
  have h2:=P_pos a.length
  have h3:=V_nonneg hp
  have h4:=V_split' b a.length
  have h5:=V_nonneg (W_take hb a.length)
  have h6:=V_nonneg (W_drop hb a.length)
  have h7:=V_lt ha
  have h8 : V (b.drop a.length) = 0:=by
   rcases (show V (b.drop a.length) = 0 ∨ 1 ≤ V (b.drop a.length) by omega) with h|h
   ·exact h
   ·have : P a.length * 1 ≤ P a.length * V (b.drop a.length):=Int.mul_le_mul_of_nonneg_left h (by omega)
    omega
  rw [h8] at h4
  have hc0 : c = 0:=by
   rcases (show c = 0 ∨ c = 1 by omega) with h|h
   ·exact h
   ·rw [h] at hv;omega
  rw [hc0] at hv
  rw [show V p = V a - V b by simp at hv h4;omega]
|succ d ih =>
  intro i p c hd hi hp hpl hc hv
  have HV:=Aside0.mk hv
  clear hv
  have sa' : a.length < 35184372087809:=sa
  have w1 : wrap64 ((i : Int) + 1) = ((i + 1 : Nat) : Int):=by unfold wrap64;omega
  have ra:=W_rd ha (i : Int)
  have rb:=W_rd hb (i : Int)
  have hbb:=sub32_b (rd a (i : Int)) (rd b (i : Int)) c
  have hlim : (rd a (i : Int) - rd b (i : Int) - c) % 4294967296 - 4294967296 * bits_Sub32.b (rd a (i : Int)) (rd b (i : Int)) c = rd a (i : Int) - rd b (i : Int) - c:=by
   rcases Int.lt_or_le (rd a (i : Int)) (rd b (i : Int) + c) with h|h
   ·rw [hbb.1 h];omega
   ·rw [hbb.2 h];omega
  have hq : 1 - (4294967296 + rd a (i : Int) - rd b (i : Int) - c) / 4294967296 = bits_Sub32.b (rd a (i : Int)) (rd b (i : Int)) c:=by
   rcases Int.lt_or_le (rd a (i : Int)) (rd b (i : Int) + c) with h|h
   ·rw [hbb.1 h];omega
   ·rw [hbb.2 h];omega
  have key : Aside0 (V (p ++ [(rd a (i : Int) - rd b (i : Int) - c) % 4294967296]) - P (i + 1) * (bits_Sub32.b (rd a (i : Int)) (rd b (i : Int)) c) = V (a.take (i + 1)) - V (b.take (i + 1))):=⟨by
   have hv:=HV.out
   rw [V_snoc,hpl,V_take_succ' a i,V_take_succ' b i,P_succ]
   grind⟩
  have hrec:=ih (i + 1) (p ++ [(rd a (i : Int) - rd b (i : Int) - c) % 4294967296]) (bits_Sub32.b (rd a (i : Int)) (rd b (i : Int)) c) (by omega) (by omega) (W_append hp (W_one (by omega) (by omega))) (by simp [hpl]) (by omega) key.out
  refine Ev.step (fun k=>rfl) ?_
  refine Ev_pos (by omega) ?_
  refine Ev_some (limb_f ha i) ?_
  refine Ev_some (limb_f hb i) ?_
  refine Ev_pos (by omega) ?_
  have w2 : IntKind.u64.wrap (IntKind.u64.wrap (IntKind.u64.wrap (4294967296 + rd a (i : Int)) - rd b (i : Int)) - c) = 4294967296 + rd a (i : Int) - rd b (i : Int) - c:=by
   rw [wrap_u64_of (x:=4294967296 + rd a (i : Int)) (by omega) (by omega),wrap_u64_of (x:=4294967296 + rd a (i : Int) - rd b (i : Int)) (by omega) (by omega),wrap_u64_of (by omega) (by omega)]
  rw [w2,w1,Int.tmod_eq_emod_of_nonneg (by omega),Int.tdiv_eq_ediv_of_nonneg (by omega),wrap_u64_of (x:=(4294967296 + rd a (i : Int) - rd b (i : Int) - c) / 4294967296) (by omega) (by omega),wrap_u64_of (x:=1 - _) (by omega) (by omega),hq,
   show (4294967296 + rd a (i : Int) - rd b (i : Int) - c) % 4294967296 % 4294967296 = (rd a (i : Int) - rd b (i : Int) - c) % 4294967296 by omega]
  exact hrec
theorem rsub_f {a b : List Int} (ha : W a) (hb : W b) (sa : Sm a) (sb : Sm b) : Ev (fun k=>penumbraref01_Sub.f k a b) (subS (V a) (V b)):=by
 refine Ev.bind (rcmp_f ha hb sa sb) ?_
 unfold subS
 by_cases h : V a < V b
 ·rw [if_pos h]
  refine Ev_pos (cm_neg.2 h) ?_
  exact Ev.now _
 ·rw [if_neg h]
  refine Ev_neg (fun e=>h (cm_neg.1 e)) ?_
  exact rsub_l ha hb sa (by omega) _ 0 [] 0 rfl (Nat.zero_le _) W_nil rfl (by omega) (by simp [V])
theorem two_limbs {n : Int} (h0 : 0 ≤ n) (h1 : n < 18446744073709551616) : W [n % 4294967296,(n / 4294967296) % 4294967296] ∧ V [n % 4294967296,(n / 4294967296) % 4294967296] = n :=
 ⟨W_cons.2 ⟨by omega,W_one (by omega) (by omega)⟩,by simp [V];omega⟩
theorem nof_f {n : Int} (h0 : 0 ≤ n) (h1 : n < 18446744073709551616) : nat_Of.f n = some (L n):=by
 obtain ⟨hw,hv⟩:=two_limbs h0 h1
 unfold nat_Of.f
 rw [norm_f hw (by unfold Sm;simp),hv,Option.bind_some]
end Go.Proofs.YtncdiodnbkhacaaDoor.N
end
section
namespace Go.Proofs.YtncdiodnbkhacaaDoor.N
open Go.RowKit Go.Proofs.YtncdiodnbkhacaaDoorW.PrintWords Go.Proofs.YtncdiodnbkhacaaDoorW.PrintLast Go.Proofs.YtncdiodnbkhacaaDoor.Pq
set_option maxRecDepth 100000 in
theorem fixed4_at : penumbralaw04_fixed.f 200 = some true:=by decide +kernel
theorem fixed4 : Ev (fun k=>penumbralaw04_fixed.f k) true:=Ev.of (fun k=>penumbralaw04_fixed.mono k) fixed4_at
end Go.Proofs.YtncdiodnbkhacaaDoor.N
end
section
namespace Go.Proofs.YtncdiodnbkhacaaDoor.N
set_option linter.unusedVariables false
set_option linter.unusedSimpArgs false
open Go.RowKit Go.Proofs.YtncdiodnbkhacaaDoorW.PrintWords Go.Proofs.YtncdiodnbkhacaaDoorW.PrintLast Go.Proofs.YtncdiodnbkhacaaDoor.Pq
def bl (n : Int) : Int:=if 0 < n then (Nat.log2 n.toNat : Int) + 1 else 0
theorem bl_zero : bl 0 = 0:=by decide +kernel
theorem bl_nonneg (n : Int) : 0 ≤ bl n:=by unfold bl;split <;> omega
theorem bl_pos {n : Int} (h : 0 < n) : 0 < bl n:=by unfold bl;rw [if_pos h];omega
theorem bl_half {x : Int} (h : 0 < x) : bl x = bl (x / 2) + 1:=by
 unfold bl
 rw [if_pos h,Nat.log2_def]
 by_cases h2 : x.toNat ≥ 2
 ·rw [if_pos h2,if_pos (by omega),show (x / 2).toNat = x.toNat / 2 by omega]
  omega
 ·rw [if_neg h2,if_neg (by omega)]
  rfl
theorem bl_log {n : Int} (h : 0 < n) : (2 : Int) ^ (n.toNat.log2) ≤ n ∧ n < (2 : Int) ^ (n.toNat.log2 + 1):=by
 have hne : n.toNat ≠ 0:=by omega
 have h1:=Nat.log2_self_le hne
 have h2:=(Nat.log2_lt (k:=n.toNat.log2 + 1) hne).1 (Nat.lt_succ_self _)
 have e : n = (n.toNat : Int):=by omega
 constructor
 ·rw [e];exact_mod_cast h1
 ·rw [e];exact_mod_cast h2
theorem bl_of {n : Int} {m : Nat} (h1 : (2 : Int) ^ m ≤ n) (h2 : n < (2 : Int) ^ (m + 1)) : bl n = (m : Int) + 1:=by
 have hp : (0 : Int) < 2 ^ m:=Int.pow_pos (by decide)
 have hn : 0 < n:=by omega
 obtain ⟨k,rfl⟩ : ∃ k : Nat,n = (k : Int):=⟨n.toNat,by omega⟩
 have g1 : 2 ^ m ≤ k:=by exact_mod_cast h1
 have g2 : k < 2 ^ (m + 1):=by exact_mod_cast h2
 have hk : k ≠ 0:=by omega
 have e1:=(Nat.le_log2 (k:=m) hk).2 g1
 have e2:=(Nat.log2_lt (k:=m + 1) hk).2 g2
 unfold bl
 rw [if_pos hn,Int.toNat_natCast]
 omega
theorem bl_le {m n : Int} (h : m ≤ n) : bl m ≤ bl n:=by
 by_cases hm : 0 < m
 ·unfold bl
  rw [if_pos hm,if_pos (by omega)]
  have hn0 : n.toNat ≠ 0:=by omega
  have h1:=Nat.log2_self_le (n:=m.toNat) (by omega)
  have:=(Nat.le_log2 (k:=m.toNat.log2) hn0).2 (by omega)
  omega
 ·have:=bl_nonneg n
  have e : bl m = 0:=by unfold bl;rw [if_neg hm]
  omega
theorem P_pow (i : Nat) : P i = (2 : Int) ^ (32 * i):=by
 induction i with
|zero=>exact P_zero
|succ i ih=>rw [P_succ,ih,show 32 * (i + 1) = 32 * i + 32 by omega,Int.pow_add];omega
theorem bl_V {l : List Int} (hw : W l) (i : Nat) (hi : l.length = i + 1) (hp : 0 < rd l (i : Int)) : bl (V l) = 32 * (i : Int) + bl (rd l (i : Int)):=by
 have h:=bl_log hp
 have hv:=V_take_succ' l i
 rw [List.take_of_length_le (by omega)] at hv
 have h0:=V_nonneg (W_take hw i)
 have h1:=V_take_lt hw i
 have hP:=P_pos i
 have k1 : P i * (2 : Int) ^ ((rd l (i : Int)).toNat.log2) ≤ P i * rd l (i : Int):=Int.mul_le_mul_of_nonneg_left h.1 (by omega)
 have k2 : P i * (rd l (i : Int) + 1) ≤ P i * (2 : Int) ^ ((rd l (i : Int)).toNat.log2 + 1):=Int.mul_le_mul_of_nonneg_left (by omega) (by omega)
 rw [Int.mul_add] at k2
 have e1 : (2 : Int) ^ (32 * i + (rd l (i : Int)).toNat.log2) = P i * (2 : Int) ^ ((rd l (i : Int)).toNat.log2):=by rw [Int.pow_add,P_pow]
 have e2 : (2 : Int) ^ (32 * i + (rd l (i : Int)).toNat.log2 + 1) = P i * (2 : Int) ^ ((rd l (i : Int)).toNat.log2 + 1):=by rw [Nat.add_assoc,Int.pow_add,P_pow]
 rw [bl_of (m:=32 * i + (rd l (i : Int)).toNat.log2) (by rw [e1];omega) (by rw [e2];omega)]
 unfold bl
 rw [if_pos hp]
 omega
theorem rd_last {n : Int} (h : 0 < n) : ∃ i,(L n).length = i + 1 ∧ 0 < rd (L n) (i : Int):=by
 have hne : L n ≠ []:=fun e=>by
  have:=(L_nil_iff (by omega)).1 e
  omega
 have hl:=List.length_pos_iff.2 hne
 refine ⟨(L n).length - 1,by omega,?_⟩
 have h1:=L_last hne
 have h2:=W_rd (W_L n) (((L n).length - 1 : Nat) : Int)
 have e : rd (L n) (((L n).length - 1 : Nat) : Int) = (L n).getLast hne:=by
  rw [List.getLast_eq_getElem]
  simp only [rd,Int.toNat_natCast,List.getD_eq_getElem?_getD]
  rw [List.getElem?_eq_getElem (by omega),Option.getD_some]
 omega
attribute [irreducible] bl
theorem tab_bl' : ∀ y : Fin 256,bt (⟨#[0,1,2,2,3,3,3,3,4,4,4,4,4,4,4,4,5,5,5,5,5,5,5,5,5,5,5,5,5,5,5,5,6,6,6,6,6,6,6,6,6,6,6,6,6,6,6,6,6,6,6,6,6,6,6,6,6,6,6,6,6,6,6,6,7,7,7,7,7,7,7,7,7,7,7,7,7,7,7,7,7,7,7,7,7,7,7,7,7,7,7,7,7,7,7,7,7,7,7,7,7,7,7,7,7,7,7,7,7,7,7,7,7,7,7,7,7,7,7,7,7,7,7,7,7,7,7,7,8,8,8,8,8,8,8,8,8,8,8,8,8,8,8,8,8,8,8,8,8,8,8,8,8,8,8,8,8,8,8,8,8,8,8,8,8,8,8,8,8,8,8,8,8,8,8,8,8,8,8,8,8,8,8,8,8,8,8,8,8,8,8,8,8,8,8,8,8,8,8,8,8,8,8,8,8,8,8,8,8,8,8,8,8,8,8,8,8,8,8,8,8,8,8,8,8,8,8,8,8,8,8,8,8,8,8,8,8,8,8,8,8,8,8,8,8,8,8,8,8,8,8,8,8,8,8,8]⟩ : ByteArray) (y.val : Int) = bl (y.val : Int):=by decide +kernel
set_option maxRecDepth 20000 in
theorem tab_bl {y : Int} (h0 : 0 ≤ y) (h1 : y < 256) : bt (⟨#[0,1,2,2,3,3,3,3,4,4,4,4,4,4,4,4,5,5,5,5,5,5,5,5,5,5,5,5,5,5,5,5,6,6,6,6,6,6,6,6,6,6,6,6,6,6,6,6,6,6,6,6,6,6,6,6,6,6,6,6,6,6,6,6,7,7,7,7,7,7,7,7,7,7,7,7,7,7,7,7,7,7,7,7,7,7,7,7,7,7,7,7,7,7,7,7,7,7,7,7,7,7,7,7,7,7,7,7,7,7,7,7,7,7,7,7,7,7,7,7,7,7,7,7,7,7,7,7,8,8,8,8,8,8,8,8,8,8,8,8,8,8,8,8,8,8,8,8,8,8,8,8,8,8,8,8,8,8,8,8,8,8,8,8,8,8,8,8,8,8,8,8,8,8,8,8,8,8,8,8,8,8,8,8,8,8,8,8,8,8,8,8,8,8,8,8,8,8,8,8,8,8,8,8,8,8,8,8,8,8,8,8,8,8,8,8,8,8,8,8,8,8,8,8,8,8,8,8,8,8,8,8,8,8,8,8,8,8,8,8,8,8,8,8,8,8,8,8,8,8,8,8,8,8,8,8]⟩ : ByteArray) y = bl y:=by
 have h : bt (⟨#[0,1,2,2,3,3,3,3,4,4,4,4,4,4,4,4,5,5,5,5,5,5,5,5,5,5,5,5,5,5,5,5,6,6,6,6,6,6,6,6,6,6,6,6,6,6,6,6,6,6,6,6,6,6,6,6,6,6,6,6,6,6,6,6,7,7,7,7,7,7,7,7,7,7,7,7,7,7,7,7,7,7,7,7,7,7,7,7,7,7,7,7,7,7,7,7,7,7,7,7,7,7,7,7,7,7,7,7,7,7,7,7,7,7,7,7,7,7,7,7,7,7,7,7,7,7,7,7,8,8,8,8,8,8,8,8,8,8,8,8,8,8,8,8,8,8,8,8,8,8,8,8,8,8,8,8,8,8,8,8,8,8,8,8,8,8,8,8,8,8,8,8,8,8,8,8,8,8,8,8,8,8,8,8,8,8,8,8,8,8,8,8,8,8,8,8,8,8,8,8,8,8,8,8,8,8,8,8,8,8,8,8,8,8,8,8,8,8,8,8,8,8,8,8,8,8,8,8,8,8,8,8,8,8,8,8,8,8,8,8,8,8,8,8,8,8,8,8,8,8,8,8,8,8,8,8]⟩ : ByteArray) (y.toNat : Int) = bl (y.toNat : Int):=tab_bl' ⟨y.toNat,by omega⟩
 rw [show ((y.toNat : Nat) : Int) = y by omega] at h
 exact h
theorem bl_shift8 {x : Int} (h : 256 ≤ x) : bl x = bl (x / 256) + 8:=by
 rw [bl_half (x:=x) (by omega),bl_half (x:=x / 2) (by omega),bl_half (x:=x / 2 / 2) (by omega),bl_half (x:=x / 2 / 2 / 2) (by omega),bl_half (x:=x / 2 / 2 / 2 / 2) (by omega),
  bl_half (x:=x / 2 / 2 / 2 / 2 / 2) (by omega),bl_half (x:=x / 2 / 2 / 2 / 2 / 2 / 2) (by omega),bl_half (x:=x / 2 / 2 / 2 / 2 / 2 / 2 / 2) (by omega),show x / 2 / 2 / 2 / 2 / 2 / 2 / 2 / 2 = x / 256 by omega]
 omega
theorem bl_small {x : Int} (h0 : 0 ≤ x) (h1 : x < 256) : 0 ≤ bl x ∧ bl x ≤ 8:=by
 refine ⟨bl_nonneg x,?_⟩
 have:=bl_le (show x ≤ 255 by omega)
 have e : bl 255 = 8:=by decide +kernel
 omega
set_option maxRecDepth 20000 in
theorem len32_f {x : Int} (h0 : 0 ≤ x) (h1 : x < 4294967296) : bits_Len32.f x = some (bl x):=by
 unfold bits_Len32.f
 by_cases c1 : x ≥ 65536
 ·rw [if_pos c1]
  by_cases c2 : x / 65536 ≥ 256
  ·rw [if_pos c2,if_pos (by omega),if_pos (by omega),show x / 65536 / 256 % 256 = x / 65536 / 256 by omega,tab_bl (by omega) (by omega)]
   have:=bl_small (x:=x / 65536 / 256) (by omega) (by omega)
   rw [bl_shift8 (x:=x) (by omega),bl_shift8 (x:=x / 256) (by omega),bl_shift8 (x:=x / 256 / 256) (by omega),show x / 256 / 256 / 256 = x / 65536 / 256 by omega]
   unfold wrap64
   refine congrArg some ?_
   omega
  ·rw [if_neg c2,if_pos (by omega),if_pos (by omega),show x / 65536 % 256 = x / 65536 by omega,tab_bl (by omega) (by omega)]
   have:=bl_small (x:=x / 65536) (by omega) (by omega)
   rw [bl_shift8 (x:=x) (by omega),bl_shift8 (x:=x / 256) (by omega),show x / 256 / 256 = x / 65536 by omega]
   unfold wrap64
   refine congrArg some ?_
   omega
 ·rw [if_neg c1]
  by_cases c2 : x ≥ 256
  ·rw [if_pos c2,if_pos (by omega),if_pos (by omega),show x / 256 % 256 = x / 256 by omega,tab_bl (by omega) (by omega)]
   have:=bl_small (x:=x / 256) (by omega) (by omega)
   rw [bl_shift8 (x:=x) (by omega)]
   unfold wrap64
   refine congrArg some ?_
   omega
  ·rw [if_neg c2,if_pos (by omega),if_pos (by omega),show x % 256 = x by omega,tab_bl (by omega) (by omega)]
   have:=bl_small (x:=x) (by omega) (by omega)
   unfold wrap64
   refine congrArg some ?_
   omega
theorem bl_32 {x : Int} (h1 : x < 4294967296) : bl x ≤ 32:=by
 have:=bl_le (show x ≤ 4294967295 by omega)
 have e : bl 4294967295 = 32:=by decide +kernel
 omega
theorem bits_arith {n i t : Int} (h : n = i + 1) (hi : 0 ≤ i) (hn : n < 35184372087809) (h0 : 0 ≤ t) (h1 : t ≤ 32) : wrap64 (wrap64 (32 * n) - wrap64 (32 - t)) = 32 * i + t:=by
 unfold wrap64
 omega
theorem nbits_f {a : List Int} (ha : W a) (sa : Sm a) : nat_Bits.f a = some (bl (V a)):=by
 have va:=V_nonneg ha
 have la:=L_len_le ha
 have sa' : a.length < 35184372087809:=sa
 unfold nat_Bits.f
 rw [trim_f ha,Option.bind_some]
 by_cases hz : V a = 0
 ·rw [hz,L_zero,bl_zero]
  exact if_pos rfl
 ·obtain ⟨i,hi,hp⟩:=rd_last (n:=V a) (by omega)
  have w1 : wrap64 (((L (V a)).length : Int) - 1) = (i : Int):=by unfold wrap64;omega
  have hb:=bl_V (W_L (V a)) i hi hp
  rw [V_L va] at hb
  have hr:=W_rd (W_L (V a)) (i : Int)
  have h32:=bl_32 hr.2
  have h32':=bl_nonneg (rd (L (V a)) (i : Int))
  rw [if_neg (by omega),w1,if_pos (by omega),if_pos (by omega)]
  unfold bits_LeadingZeros32.f
  rw [len32_f hr.1 hr.2,Option.bind_some,Option.bind_some,hb]
  exact congrArg some (bits_arith (by omega) (by omega) (by omega) h32' h32)
end Go.Proofs.YtncdiodnbkhacaaDoor.N
end
section
namespace Go.Proofs.YtncdiodnbkhacaaDoor.N
set_option linter.unusedVariables false
set_option linter.unusedSimpArgs false
open Go.RowKit Go.Proofs.YtncdiodnbkhacaaDoorW.PrintWords Go.Proofs.YtncdiodnbkhacaaDoorW.PrintLast Go.Proofs.YtncdiodnbkhacaaDoor.Pq
theorem limb_mul {x y o c : Int} (hx : 0 ≤ x ∧ x < 4294967296) (hy : 0 ≤ y ∧ y < 4294967296) (ho : 0 ≤ o ∧ o < 4294967296) (hc : 0 ≤ c ∧ c < 4294967296) :
  0 ≤ x * y ∧ x * y ≤ 18446744065119617025:=by
 constructor
 ·exact Int.mul_nonneg hx.1 hy.1
 ·have h1 : x * y ≤ 4294967295 * y:=Int.mul_le_mul_of_nonneg_right (by omega) hy.1
  omega
theorem mul_wrap {x y o c : Int} (hx : 0 ≤ x ∧ x < 4294967296) (hy : 0 ≤ y ∧ y < 4294967296) (ho : 0 ≤ o ∧ o < 4294967296) (hc : 0 ≤ c ∧ c < 4294967296) :
  IntKind.u64.wrap (IntKind.u64.wrap (IntKind.u64.wrap (IntKind.u64.wrap x * IntKind.u64.wrap y) + IntKind.u64.wrap o) + c) = x * y + o + c:=by
 have h:=limb_mul hx hy ho hc
 rw [wrap_u64_of (x:=x) (by omega) (by omega),wrap_u64_of (x:=y) (by omega) (by omega),wrap_u64_of (x:=o) (by omega) (by omega),wrap_u64_of (x:=x * y) (by omega) (by omega),wrap_u64_of (x:=x * y + o) (by omega) (by omega),wrap_u64_of (by omega) (by omega)]
theorem mul_wrap' {x y o c : Int} (hx : 0 ≤ x ∧ x < 4294967296) (hy : 0 ≤ y ∧ y < 4294967296) (ho : 0 ≤ o ∧ o < 4294967296) (hc : 0 ≤ c ∧ c < 4294967296) :
  Int.tmod (IntKind.u64.wrap (IntKind.u64.wrap (IntKind.u64.wrap (IntKind.u64.wrap x * IntKind.u64.wrap y) + IntKind.u64.wrap o) + c)) 4294967296 % 4294967296 = (x * y + o + c) % 4294967296 ∧
  IntKind.u64.wrap (Int.tdiv (IntKind.u64.wrap (IntKind.u64.wrap (IntKind.u64.wrap (IntKind.u64.wrap x * IntKind.u64.wrap y) + IntKind.u64.wrap o) + c)) 4294967296) = (x * y + o + c) / 4294967296:=by
 have h:=limb_mul hx hy ho hc
 rw [mul_wrap hx hy ho hc,Int.tmod_eq_emod_of_nonneg (by omega),Int.tdiv_eq_ediv_of_nonneg (by omega),wrap_u64_of (by omega) (by omega),Int.emod_emod]
 exact ⟨rfl,rfl⟩
theorem mul_step {o : List Int} (n : Nat) (h : n < o.length) (x y c : Int) :
  V (o.set n ((x * y + rd o (n : Int) + c) % 4294967296)) + P (n + 1) * ((x * y + rd o (n : Int) + c) / 4294967296) = V o + P n * (x * y + c):=by
 rw [V_set o n _ h,P_succ]
 have:=Int.emod_add_mul_ediv (x * y + rd o (n : Int) + c) 4294967296
 grind
structure MulI (a b o : List Int) (n i : Nat) : Prop where
 w : W o
 len : o.length = n
 val : V o = V (a.take i) * V b
 zero : ∀ j : Nat,i + b.length ≤ j → rd o (j : Int) = 0
structure MulJ (a b o : List Int) (n i j : Nat) (c : Int) : Prop where
 w : W o
 len : o.length = n
 c0 : 0 ≤ c ∧ c < 4294967296
 val : V o + P (i + j) * c = V (a.take i) * V b + P i * (rd a (i : Int) * V (b.take j))
 zero : ∀ m : Nat,i + b.length ≤ m → rd o (m : Int) = 0
theorem MulI.start (a b : List Int) (n : Nat) : MulI a b (List.replicate n 0) n 0 :=
 ⟨W_replicate n,by simp,by simp [V_replicate,V_nil],fun j _=>rd_replicate n j⟩
theorem MulI.inner {a b o : List Int} {n i : Nat} (h : MulI a b o n i) : MulJ a b o n i 0 0 :=
 ⟨h.w,h.len,by omega,by rw [h.val];simp [V_nil],h.zero⟩
theorem MulJ.step {a b o : List Int} {n i j : Nat} {c : Int} (h : MulJ a b o n i j c) (hb : W b) (ha : W a) (hj : j < b.length) (hn : i + b.length < n) :
  MulJ a b (o.set (i + j) ((rd a (i : Int) * rd b (j : Int) + rd o ((i + j : Nat) : Int) + c) % 4294967296)) n i (j + 1) ((rd a (i : Int) * rd b (j : Int) + rd o ((i + j : Nat) : Int) + c) / 4294967296):=by
 have hlt : i + j < o.length:=by rw [h.len];omega
 have ra:=W_rd ha (i : Int)
 have rb:=W_rd hb (j : Int)
 have ro:=W_rd h.w ((i + j : Nat) : Int)
 have hm:=limb_mul ra rb ro h.c0
 have hc:=h.c0
 refine ⟨W_set h.w _ (by omega) (by omega),by rw [List.length_set,h.len],by omega,?_,?_⟩
 ·have e:=mul_step (i + j) hlt (rd a (i : Int)) (rd b (j : Int)) c
  have hv:=h.val
  have ep:=P_add i j
  rw [V_take_succ' b j,show i + (j + 1) = i + j + 1 by omega]
  clear hm hc ro rb ra
  grind
 ·intro m hm
  rw [rd_set_ne _ _ _ _ (by omega)]
  exact h.zero m hm
theorem MulJ.done {a b o : List Int} {n i : Nat} {c : Int} (h : MulJ a b o n i b.length c) (hn : i + b.length < n) : MulI a b (o.set (i + b.length) (c % 4294967296)) n (i + 1):=by
 have hc:=h.c0
 rw [Int.emod_eq_of_lt hc.1 hc.2]
 refine ⟨W_set h.w _ hc.1 hc.2,by rw [List.length_set,h.len],?_,?_⟩
 ·rw [V_set _ _ _ (by rw [h.len];omega),h.zero (i + b.length) (Nat.le_refl _),V_take_succ' a i]
  have hv:=h.val
  rw [List.take_length] at hv
  grind
 ·intro m hm
  rw [rd_set_ne _ _ _ _ (by omega)]
  exact h.zero m (by omega)
theorem rmul_l1 {a b : List Int} (ha : W a) (hb : W b) (hl : a.length + b.length < 35184372088830) {i : Nat} (hi : i < a.length) (R : List Int)
  (hnext : ∀ o,MulI a b o (a.length + b.length + 1) (i + 1) → Ev (fun k=>penumbraref01_Mul.l0 k a b o ((i + 1 : Nat) : Int)) R) :
  ∀ (d j : Nat) (o : List Int) (c : Int),b.length - j = d → j ≤ b.length → MulJ a b o (a.length + b.length + 1) i j c →
   Ev (fun k=>penumbraref01_Mul.l1 k a b o (i : Int) c (j : Int)) R:=by
 intro d
 induction d with
|zero =>
  intro j o c hd hj h
  obtain rfl : j = b.length:=by omega
  have hlen:=h.len
  have w1 : wrap64 ((i : Int) + (b.length : Int)) = ((i + b.length : Nat) : Int):=by unfold wrap64;omega
  have w2 : wrap64 ((i : Int) + 1) = ((i + 1 : Nat) : Int):=by unfold wrap64;omega
  refine Ev_up ?_
  unfold penumbraref01_Mul.l1
  refine Ev_neg (by omega) ?_
  rw [w1,w2,Int.toNat_natCast]
  refine Ev_pos (by omega) ?_
  refine Ev_pos (by omega) ?_
  exact hnext _ (h.done (by omega))
|succ d ih =>
  intro j o c hd hj h
  have hlen:=h.len
  have w1 : wrap64 ((i : Int) + (j : Int)) = ((i + j : Nat) : Int):=by unfold wrap64;omega
  have w2 : wrap64 ((j : Int) + 1) = ((j + 1 : Nat) : Int):=by unfold wrap64;omega
  refine Ev_up ?_
  unfold penumbraref01_Mul.l1
  refine Ev_pos (by omega) ?_
  refine Ev_pos (by omega) ?_
  refine Ev_pos (by omega) ?_
  refine Ev_pos (by omega) ?_
  rw [w1,w2,Int.toNat_natCast]
  refine Ev_pos (by omega) ?_
  refine Ev_pos (by omega) ?_
  have e:=mul_wrap' (W_rd ha (i : Int)) (W_rd hb (j : Int)) (W_rd h.w ((i + j : Nat) : Int)) h.c0
  rw [e.1,e.2]
  exact ih (j + 1) _ _ (by omega) (by omega) (h.step hb ha (by omega) (by omega))
theorem rmul_l0 {a b : List Int} (ha : W a) (hb : W b) (hl : a.length + b.length < 35184372088830) : ∀ (d i : Nat) (o : List Int),a.length - i = d → i ≤ a.length → MulI a b o (a.length + b.length + 1) i →
  Ev (fun k=>penumbraref01_Mul.l0 k a b o (i : Int)) (L (V a * V b)):=by
 intro d
 induction d with
|zero =>
  intro i o hd hi h
  obtain rfl : i = a.length:=by omega
  have hlen:=h.len
  refine Ev_up ?_
  unfold penumbraref01_Mul.l0
  refine Ev_neg (by omega) ?_
  refine Ev.bind (rnorm_f h.w (by omega)) ?_
  refine Ev_now ?_
  rw [h.val,List.take_length]
|succ d ih =>
  intro i o hd hi h
  refine Ev_up ?_
  unfold penumbraref01_Mul.l0
  refine Ev_pos (by omega) ?_
  exact rmul_l1 ha hb hl (by omega) _ (fun o' h'=>ih (i + 1) o' (by omega) (by omega) h') _ 0 o 0 rfl (Nat.zero_le _) h.inner
theorem rmul_f {a b : List Int} (ha : W a) (hb : W b) (hl : a.length + b.length < 35184372088830) : Ev (fun k=>penumbraref01_Mul.f k a b) (L (V a * V b)):=by
 have w0 : wrap64 ((a.length : Int) + (b.length : Int)) = ((a.length + b.length : Nat) : Int):=by unfold wrap64;omega
 have w1 : wrap64 (((a.length + b.length : Nat) : Int) + 1) = ((a.length + b.length + 1 : Nat) : Int):=by unfold wrap64;omega
 unfold penumbraref01_Mul.f
 rw [w0,w1,Int.toNat_natCast]
 refine Ev_pos (by omega) ?_
 refine Ev_pos (by omega) ?_
 exact rmul_l0 ha hb hl _ 0 _ rfl (Nat.zero_le _) (MulI.start _ _ _)
end Go.Proofs.YtncdiodnbkhacaaDoor.N
end
section
namespace Go.Proofs.YtncdiodnbkhacaaDoor.N
set_option linter.unusedVariables false
set_option linter.unusedSimpArgs false
open Go.RowKit Go.Proofs.YtncdiodnbkhacaaDoorW.PrintWords Go.Proofs.YtncdiodnbkhacaaDoorW.PrintLast Go.Proofs.YtncdiodnbkhacaaDoor.Pq
structure Nm (l : List Int) (n : Nat) (x : Int) : Prop where
 w : W l
 v : V l = x
 le : l.length ≤ n
theorem Nm.pos {l : List Int} {n : Nat} {x : Int} (h : Nm l n x) : 0 ≤ x:=h.v ▸ V_nonneg h.w
theorem Nm.lt {l : List Int} {n : Nat} {x : Int} (h : Nm l n x) : x < P n:=by
 have h1:=V_lt h.w
 have h2:=P_le h.le
 have h3:=h.v
 omega
theorem Nm.L {n : Nat} {x : Int} (h0 : 0 ≤ x) (h1 : x < P n) : Nm (L x) n x:=⟨W_L x,V_L h0,L_length_le n h1⟩
theorem Nm.of {l : List Int} {n : Nat} (h : ∀ x ∈ l,(Lit.int .u32 x).wf = true) (hn : l.length ≤ n) : Nm l n (V l):=⟨wf_of h,rfl,hn⟩
theorem Nm.nil : Nm [] 0 0:=⟨W_nil,V_nil,Nat.le_refl _⟩
theorem Nm.one : Nm [1] 1 1:=⟨W_one (by decide) (by decide),V_one 1,Nat.le_refl _⟩
theorem Nm.up {l : List Int} {m n : Nat} {x : Int} (h : Nm l m x) (hmn : m ≤ n) : Nm l n x:=⟨h.w,h.v,Nat.le_trans h.le hmn⟩
theorem Nm.norm {l : List Int} {n : Nat} {x : Int} (h : Nm l n x) : Nm (N.L x) n x:=Nm.L h.pos h.lt
theorem Nm.add {a b : List Int} {m n : Nat} {x y : Int} (h : Nm a m x) (k : Nm b n y) (hm : m < 35184372087809) (hn : n < 35184372087809) : Ev (fun r=>nat_Add.f r a b) (N.L (x + y)):=by
 have h1:=h.le
 have h2:=k.le
 have e:=nadd_f h.w k.w (by unfold Sm;omega) (by unfold Sm;omega)
 rwa [h.v,k.v] at e
theorem Nm.nrm {a : List Int} {m : Nat} {x : Int} (h : Nm a m x) (hm : m < 35184372087809) : nat_Norm.f a = some (N.L x):=by
 have h1:=h.le
 have e:=norm_f h.w (by unfold Sm;omega)
 rwa [h.v] at e
theorem cm_lt {x y : Int} (h : x < y) : cm x y = -1:=if_pos h
end Go.Proofs.YtncdiodnbkhacaaDoor.N
end
section
namespace Go.Proofs.YtncdiodnbkhacaaDoor.N
set_option linter.unusedVariables false
set_option linter.unusedSimpArgs false
open Go Go.RowKit Go.Proofs.YtncdiodnbkhacaaDoorW.PrintWords Go.Proofs.YtncdiodnbkhacaaDoorW.PrintLast Go.Proofs.YtncdiodnbkhacaaDoorW.PrintMore Go.Proofs.YtncdiodnbkhacaaDoor.Pq
def shS (x s : Int) : List Int × Bool:=if s < 0 then ([],false) else if s > 65536 then ([],false) else (L (x * 2 ^ s.toNat),true)
theorem u32_wrap (x : Int) : IntKind.u32.wrap x = x % 4294967296:=by
 simp only [IntKind.wrap,IntKind.bits,IntKind.signed]
 simp
theorem shl_limb {r : Nat} (hr : r < 32) {x c : Int} (hx : 0 ≤ x ∧ x < 4294967296) (hc : 0 ≤ c ∧ c < 2 ^ r) :
  Go.bits .or .u32 (shl .u32 x (r : Int)) c = x * 2 ^ r % 4294967296 + c ∧ shr .u64 (IntKind.u64.wrap x) (32 - (r : Int)) % 4294967296 = x * 2 ^ r / 4294967296 ∧
   0 ≤ x * 2 ^ r % 4294967296 + c ∧ x * 2 ^ r % 4294967296 + c < 4294967296 ∧ 0 ≤ x * 2 ^ r / 4294967296 ∧ x * 2 ^ r / 4294967296 < 2 ^ r:=by
 have hT : (0 : Int) < 2 ^ r:=Int.pow_pos (by decide)
 have hU : (0 : Int) < 2 ^ (32 - r):=Int.pow_pos (by decide)
 have hTU : (2 : Int) ^ r * 2 ^ (32 - r) = 4294967296:=by rw [← Int.pow_add,show r + (32 - r) = 32 by omega];rfl
 have e1 : shl .u32 x (r : Int) = x * 2 ^ r % 4294967296:=by
  unfold shl
  rw [u32_wrap,Int.toNat_natCast,Nat.min_eq_left (show r ≤ IntKind.u32.bits by show r ≤ 32;omega)]
 have e2 : shr .u64 (IntKind.u64.wrap x) (32 - (r : Int)) = x / 2 ^ (32 - r):=by
  unfold shr
  rw [wrap_u64_of hx.1 (by omega),show (32 - (r : Int)).toNat = 32 - r by omega,Nat.min_eq_left (show 32 - r ≤ IntKind.u64.bits by show 32 - r ≤ 64;omega)]
 have key : x * 2 ^ r % 4294967296 % 2 ^ r = 0:=by
  rw [← hTU,Int.emod_emod_of_dvd _ (Int.dvd_mul_right _ _)]
  exact Int.mul_emod_left _ _
 have hTle : (2 : Int) ^ r ≤ 4294967296:=by
  have : (2 : Int) ^ r * 1 ≤ 2 ^ r * 2 ^ (32 - r):=Int.mul_le_mul_of_nonneg_left (by omega) (by omega)
  rw [hTU] at this
  omega
 have jo : ∀ y : Int,0 ≤ y → y % 2 ^ r = 0 → y < 4294967296 → Go.bits .or .u32 y c = y + c:=fun y h0 h1 h2 =>
  bits_join .u32 32 (Nat.le_refl _) (fun n h0 h1=>by rw [u32_wrap];omega) r y c h0 h1 (by omega) hc.1 hc.2 (by omega)
 rw [e1,e2,jo _ (by omega) key (by omega)]
 clear jo e1 e2
 generalize (2 : Int) ^ r = T at *
 generalize (2 : Int) ^ (32 - r) = U at *
 have m1 : x * T % 4294967296 = T * (x % U):=by rw [← hTU,Int.mul_comm x T,Int.mul_emod_mul_of_pos _ _ hT]
 have d1 : x * T / 4294967296 = x / U:=by rw [← hTU,Int.mul_comm x T,Int.mul_ediv_mul_of_pos _ _ hT]
 have xu0:=Int.emod_nonneg x (show U ≠ 0 by omega)
 have xu1:=Int.emod_lt_of_pos x hU
 have xd0 : 0 ≤ x / U:=Int.ediv_nonneg hx.1 (by omega)
 have xd1 : x / U < T:=Int.ediv_lt_of_lt_mul hU (by rw [hTU];exact hx.2)
 have p0 : 0 ≤ T * (x % U):=Int.mul_nonneg (by omega) xu0
 have p1 : T * (x % U + 1) ≤ T * U:=Int.mul_le_mul_of_nonneg_left (by omega) (by omega)
 rw [Int.mul_add,hTU] at p1
 rw [m1,d1]
 clear m1 d1 key
 refine ⟨rfl,?_,by omega,by omega,xd0,xd1⟩
 rw [Int.emod_eq_of_lt xd0 (by omega)]
theorem shl_step {r : Nat} (hr : r < 32) {x c : Int} (hx : 0 ≤ x ∧ x < 4294967296) (hc : 0 ≤ c ∧ c < 2 ^ r) :
  ∃ dg cy,Go.bits .or .u32 (shl .u32 x (r : Int)) c = dg ∧ shr .u64 (IntKind.u64.wrap x) (32 - (r : Int)) % 4294967296 = cy ∧ 0 ≤ dg ∧ dg < 4294967296 ∧ 0 ≤ cy ∧ cy < 2 ^ r ∧ dg + 4294967296 * cy = x * 2 ^ r + c:=by
 obtain ⟨e1,e2,b1,b2,b3,b4⟩:=shl_limb hr hx hc
 have e:=Int.emod_add_mul_ediv (x * 2 ^ r) 4294967296
 refine ⟨_,_,e1,e2,b1,b2,b3,b4,?_⟩
 clear e1 e2 b1 b2 b3 b4 hc hx
 generalize x * 2 ^ r = X at *
 omega
theorem two_pow_le' : ∀ r : Fin 32,(2 : Int) ^ r.val ≤ 4294967296:=by decide +kernel
theorem two_pow_le {r : Nat} (hr : r < 32) : (2 : Int) ^ r ≤ 4294967296:=two_pow_le' ⟨r,hr⟩
theorem nshl_l {t : List Int} (ht : W t) {s : Int} {q r : Nat} {T : Int} (hTB : T ≤ 4294967296) (hr : r < 32) (hs : Aside0 (Int.tmod s 32 = (r : Int))) (hl : q + t.length < 35184372088832)
  (step : ∀ x c : Int,0 ≤ x ∧ x < 4294967296 → 0 ≤ c ∧ c < T → ∃ dg cy,Go.bits .or .u32 (shl .u32 x (r : Int)) c = dg ∧ shr .u64 (IntKind.u64.wrap x) (32 - (r : Int)) % 4294967296 = cy ∧ 0 ≤ dg ∧ dg < 4294967296 ∧ 0 ≤ cy ∧ cy < T ∧ dg + 4294967296 * cy = x * T + c) :
  ∀ (d i : Nat) (o : List Int) (c : Int),t.length - i = d → i ≤ t.length → W o → o.length = q + i → 0 ≤ c ∧ c < T →
   Aside0 (V o + P (q + i) * c = P q * (T * V (t.take i))) → Ev (fun k=>nat_Shl.l0 k s o c t (t.length : Int) (i : Int)) (L (P q * (T * V t)),true):=by
 intro d
 induction d with
|zero =>
  intro i o c hd hi hw ho hc HV
  obtain rfl : i = t.length:=by omega
  refine Ev_up ?_
  unfold nat_Shl.l0
  refine Ev_neg (by omega) ?_
  refine Ev_pos (by omega) ?_
  refine Ev_some (trim_f (W_append hw (W_one hc.1 (by omega)))) ?_
  refine Ev_now ?_
  have hv:=HV.out
  rw [List.take_length] at hv
  rw [V_snoc,ho,hv]
|succ d ih =>
  intro i o c hd hi hw ho hc HV
  have w1 : wrap64 ((i : Int) + 1) = ((i + 1 : Nat) : Int):=by unfold wrap64;omega
  have w2 : wrap64 (32 - (r : Int)) = 32 - (r : Int):=by unfold wrap64;omega
  have rt:=W_rd ht (i : Int)
  obtain ⟨dg,cy,e1,e2,b1,b2,b3,b4,hs0⟩:=step _ c rt hc
  have HS:=Aside0.mk hs0
  clear hs0
  have key : Aside0 (V (o ++ [dg]) + P (q + (i + 1)) * cy = P q * (T * V (t.take (i + 1)))):=⟨by
   have hv:=HV.out
   have hs1:=HS.out
   rw [V_snoc,ho,V_take_succ' t i,show q + (i + 1) = q + i + 1 by omega,P_succ,P_add]
   rw [P_add] at hv
   clear e1 e2 ih
   grind⟩
  have hrec:=ih (i + 1) (o ++ [dg]) cy (by omega) (by omega) (W_append hw (W_one b1 b2)) (by simp [ho];omega) ⟨b3,b4⟩ key
  refine Ev_up ?_
  unfold nat_Shl.l0
  refine Ev_pos (by omega) ?_
  refine Ev_pos (by omega) ?_
  refine Ev_pos (by omega) ?_
  rw [hs.out,w1,w2,e1,e2]
  refine Ev_pos (by omega) ?_
  refine Ev_pos (by omega) ?_
  refine Ev_pos (by omega) ?_
  exact hrec
theorem two_pow_split {s : Int} {q r : Nat} (h : s = 32 * (q : Int) + (r : Int)) : (2 : Int) ^ s.toNat = P q * 2 ^ r:=by
 rw [show s.toNat = 32 * q + r by omega,Int.pow_add,P_pow]
theorem nshl_f {a : List Int} (ha : W a) (sa : a.length < 35184370000000) (s : Int) : Ev (fun k=>nat_Shl.f k a s) (shS (V a) s):=by
 have la:=L_len_le ha
 have va:=V_nonneg ha
 unfold shS
 by_cases h0 : s < 0
 ·rw [if_pos h0]
  refine Ev_pos h0 ?_
  refine Ev_up ?_
  unfold nat_Shl.j0
  refine Ev_pos rfl ?_
  exact Ev.now _
 ·rw [if_neg h0]
  refine Ev_neg h0 ?_
  refine Ev_up ?_
  unfold nat_Shl.j0
  by_cases h1 : s > 65536
  ·rw [if_pos h1,decide_eq_true h1]
   refine Ev_pos rfl ?_
   exact Ev.now _
  ·rw [if_neg h1,decide_eq_false h1]
   refine Ev_neg (by decide) ?_
   have e1 : Int.tdiv s 32 = s / 32:=Int.tdiv_eq_ediv_of_nonneg (by omega)
   have e2 : Aside0 (Int.tmod s 32 = ((s % 32).toNat : Int)):=⟨by rw [Int.tmod_eq_emod_of_nonneg (by omega)];omega⟩
   have w1 : wrap64 (Int.tdiv s 32) = ((s / 32).toNat : Int):=by rw [e1];clear e1;unfold wrap64;omega
   clear e1
   rw [w1,Int.toNat_natCast]
   refine Ev_pos (by omega) ?_
   refine Ev_pos (by omega) ?_
   refine Ev_some (trim_f ha) ?_
   have h:=nshl_l (W_L (V a)) (s:=s) (q:=(s / 32).toNat) (r:=(s % 32).toNat) (two_pow_le (by omega)) (by omega) e2 (by omega) (fun x c hx hc=>shl_step (by omega) hx hc) _ 0 (List.replicate (s / 32).toNat 0) 0 rfl (Nat.zero_le _) (W_replicate _) (by simp) ⟨by omega,Int.pow_pos (by decide)⟩ ⟨by simp [V_replicate,V_nil]⟩
   refine Ev_eq h ?_
   rw [V_L va,two_pow_split (s:=s) (q:=(s / 32).toNat) (r:=(s % 32).toNat) (by omega),Int.mul_comm (V a),Int.mul_assoc]
theorem rdouble_l {x : List Int} (hx : W x) (hl : x.length < 35184372088830) (c0 : Int) : ∀ (d i : Nat) (p : List Int) (c : Int),x.length - i = d → i ≤ x.length → W p → p.length = i → 0 ≤ c ∧ c ≤ 1 →
  V p + P i * c = 2 * V (x.take i) + c0 → Ev (fun k=>penumbraref01_Double.l0 k x p c (i : Int)) (L (2 * V x + c0)):=by
 intro d
 induction d with
|zero =>
  intro i p c hd hi hp hpl hc hv
  obtain rfl : i = x.length:=by omega
  rw [List.take_length] at hv
  refine Ev_up ?_
  unfold penumbraref01_Double.l0
  refine Ev_neg (by omega) ?_
  refine Ev_pos (by omega) ?_
  rw [show c % 4294967296 = c by omega]
  refine Ev.bind (rnorm_f (W_append hp (W_one hc.1 (by omega))) (by simp;omega)) ?_
  refine Ev_now ?_
  rw [V_snoc,hpl,hv]
|succ d ih =>
  intro i p c hd hi hp hpl hc hv
  have HV:=Aside0.mk hv
  clear hv
  have w1 : wrap64 ((i : Int) + 1) = ((i + 1 : Nat) : Int):=by unfold wrap64;omega
  have rx:=W_rd hx (i : Int)
  have key : Aside0 (V (p ++ [(2 * rd x (i : Int) + c) % 4294967296]) + P (i + 1) * ((2 * rd x (i : Int) + c) / 4294967296) = 2 * V (x.take (i + 1)) + c0):=⟨by
   have hv:=HV.out
   have e:=Int.emod_add_mul_ediv (2 * rd x (i : Int) + c) 4294967296
   rw [V_snoc,hpl,V_take_succ' x i,P_succ]
   grind⟩
  have hrec:=ih (i + 1) _ _ (by omega) (by omega) (W_append hp (W_one (by omega) (by omega))) (by simp [hpl]) (by omega) key.out
  refine Ev_up ?_
  unfold penumbraref01_Double.l0
  refine Ev_pos (by omega) ?_
  refine Ev_pos (by omega) ?_
  refine Ev_pos (by omega) ?_
  have w2 : IntKind.u64.wrap (IntKind.u64.wrap (2 * IntKind.u64.wrap (rd x (i : Int))) + c) = 2 * rd x (i : Int) + c:=by
   rw [wrap_u64_of (x:=rd x (i : Int)) (by omega) (by omega),wrap_u64_of (x:=2 * rd x (i : Int)) (by omega) (by omega),wrap_u64_of (by omega) (by omega)]
  rw [w2,w1,Int.tmod_eq_emod_of_nonneg (by omega),Int.tdiv_eq_ediv_of_nonneg (by omega),wrap_u64_of (by omega) (by omega),Int.emod_emod]
  exact hrec
theorem Nm.double {x : List Int} {n : Nat} {v : Int} (h : Nm x n v) (hn : n < 35184372088830) (b : Bool) : Ev (fun k=>penumbraref01_Double.f k x b) (N.L (2 * v + if b then 1 else 0)):=by
 have hle:=h.le
 refine Ev_some rfl ?_
 cases b with
|true =>
  refine Ev_pos rfl ?_
  refine Ev_up ?_
  unfold penumbraref01_Double.j0
  have e:=rdouble_l h.w (by omega) 1 _ 0 [] 1 rfl (Nat.zero_le _) W_nil rfl (by omega) (by simp [V_nil,P_zero])
  rw [h.v] at e
  exact e
|false =>
  refine Ev_neg (by decide) ?_
  refine Ev_up ?_
  unfold penumbraref01_Double.j0
  have e:=rdouble_l h.w (by omega) 0 _ 0 [] 0 rfl (Nat.zero_le _) W_nil rfl (by omega) (by simp [V_nil])
  rw [h.v] at e
  exact e
end Go.Proofs.YtncdiodnbkhacaaDoor.N
end
section
namespace Go.Proofs.YtncdiodnbkhacaaDoor.N
set_option linter.unusedVariables false
set_option linter.unusedSimpArgs false
open Go.RowKit Go.Proofs.YtncdiodnbkhacaaDoorW.PrintWords Go.Proofs.YtncdiodnbkhacaaDoorW.PrintLast Go.Proofs.YtncdiodnbkhacaaDoor.Pq
theorem two_pow_mono {m n : Nat} (h : m ≤ n) : (2 : Int) ^ m ≤ 2 ^ n:=by
 obtain ⟨d,rfl⟩:=Nat.exists_eq_add_of_le h
 rw [Int.pow_add]
 have h1 : (0 : Int) < 2 ^ m:=Int.pow_pos (by decide)
 have h2 : (0 : Int) < 2 ^ d:=Int.pow_pos (by decide)
 have h3 : (2 : Int) ^ m * 1 ≤ 2 ^ m * 2 ^ d:=Int.mul_le_mul_of_nonneg_left (by omega) (by omega)
 omega
theorem shS_ok {x s : Int} (h0 : 0 ≤ s) (h1 : s ≤ 65536) : shS x s = (L (x * 2 ^ s.toNat),true):=by
 unfold shS
 rw [if_neg (by omega),if_neg (by omega)]
theorem Nm.shl {a : List Int} {n : Nat} {x : Int} (h : Nm a n x) (hn : n < 35184360000000) (s : Int) : Ev (fun k=>nat_Shl.f k a s) (shS x s):=by
 have h1:=h.le
 have e:=nshl_f h.w (by omega) s
 rwa [h.v] at e
theorem Nm.bits {a : List Int} {n : Nat} {x : Int} (h : Nm a n x) (hn : n < 35184360000000) : nat_Bits.f a = some (bl x):=by
 have h1:=h.le
 have e:=nbits_f h.w (by unfold Sm;omega)
 rwa [h.v] at e
theorem Nm.rmul {a b : List Int} {m n : Nat} {x y : Int} (h : Nm a m x) (k : Nm b n y) (hm : m + n < 35184372087809) : Ev (fun r=>penumbraref01_Mul.f r a b) (N.L (x * y)):=by
 have h1:=h.le
 have h2:=k.le
 have e:=rmul_f h.w k.w (by omega)
 rwa [h.v,k.v] at e
theorem bl_shift {x : Int} (h : 0 < x) (n : Nat) : bl (x * 2 ^ n) = bl x + (n : Int):=by
 have h1:=bl_log h
 have hT : (0 : Int) < 2 ^ n:=Int.pow_pos (by decide)
 have k1 : (2 : Int) ^ x.toNat.log2 * 2 ^ n ≤ x * 2 ^ n:=Int.mul_le_mul_of_nonneg_right h1.1 (by omega)
 have k2 : x * 2 ^ n < (2 : Int) ^ (x.toNat.log2 + 1) * 2 ^ n:=Int.mul_lt_mul_of_pos_right h1.2 hT
 rw [← Int.pow_add] at k1 k2
 rw [bl_of (m:=x.toNat.log2 + n) k1 (by rw [show x.toNat.log2 + n + 1 = x.toNat.log2 + 1 + n by omega];exact k2)]
 have e : bl x = (x.toNat.log2 : Int) + 1:=bl_of h1.1 h1.2
 omega
theorem Nm.bl_le {l : List Int} {n : Nat} {x : Int} (h : Nm l n x) : bl x ≤ 32 * (n : Int):=by
 by_cases hp : 0 < x
 ·obtain ⟨i,hi,hr⟩:=rd_last hp
  have h1:=bl_V (W_L x) i hi hr
  rw [V_L h.pos] at h1
  have h2:=bl_32 (W_rd (W_L x) (i : Int)).2
  have h3:=h.norm.le
  omega
 ·have:=h.pos
  obtain rfl : x = 0:=by omega
  rw [bl_zero]
  omega
end Go.Proofs.YtncdiodnbkhacaaDoor.N
end
section
namespace Go.Proofs.YtncdiodnbkhacaaDoor.N
set_option linter.unusedVariables false
set_option linter.unusedSimpArgs false
open Go Go.RowKit Go.Proofs.YtncdiodnbkhacaaDoorW.PrintWords Go.Proofs.YtncdiodnbkhacaaDoorW.PrintLast Go.Proofs.YtncdiodnbkhacaaDoorW.PrintMore Go.Proofs.YtncdiodnbkhacaaDoor.Pq
theorem div32_f {a b d : Int} (ha : 0 ≤ a ∧ a < d) (hb : 0 ≤ b ∧ b < 4294967296) (hd : d < 4294967296) : bits_Div32.f a b d = some ((a * 4294967296 + b) / d,(a * 4294967296 + b) % d):=if_pos ⟨ha,hb,hd⟩
theorem small_l {x : List Int} (hx : W x) {dv : Int} (hd : 0 < dv ∧ dv < 4294967296) (hl : x.length < 35184372087809) : ∀ (i : Nat) (o : List Int) (r : Int),i ≤ x.length → W o → o.length = x.length → 0 ≤ r ∧ r < dv →
  (∀ j : Nat,j < i → rd o (j : Int) = 0) → Aside0 (P i * r + dv * V o + V (x.take i) = V x) →
  Ev (fun k=>nat_small.l0 k x dv o r ((i : Int) - 1)) (L (V x / dv),L (V x % dv)):=by
 intro i
 induction i with
|zero =>
  intro o r hi hw ho hr hz HV
  refine Ev_up ?_
  unfold nat_small.l0
  refine Ev_neg (by omega) ?_
  refine Ev_some (trim_f hw) ?_
  refine Ev_some (trim_f (W_one hr.1 (by omega))) ?_
  refine Ev_now ?_
  have hv:=HV.out
  rw [List.take_zero,V_nil,P_zero] at hv
  have h1 : V x / dv = V o:=by
   rw [← hv,show 1 * r + dv * V o + 0 = r + dv * V o by omega,Int.add_mul_ediv_left _ _ (by omega),Int.ediv_eq_zero_of_lt hr.1 hr.2]
   omega
  have h2 : V x % dv = r:=by
   rw [← hv,show 1 * r + dv * V o + 0 = r + dv * V o by omega,Int.add_mul_emod_self_left,Int.emod_eq_of_lt hr.1 hr.2]
  rw [h1,h2,V_one]
|succ i ih =>
  intro o r hi hw ho hr hz HV
  have rx:=W_rd hx (i : Int)
  have w1 : wrap64 (((i + 1 : Nat) : Int) - 1 - 1) = (i : Int) - 1:=by unfold wrap64;omega
  have w0 : ((i + 1 : Nat) : Int) - 1 = (i : Int):=by omega
  have q0 : 0 ≤ (r * 4294967296 + rd x (i : Int)) / dv:=Int.ediv_nonneg (by omega) (by omega)
  have q1 : (r * 4294967296 + rd x (i : Int)) / dv < 4294967296:=Int.ediv_lt_of_lt_mul hd.1 (by omega)
  have r0:=Int.emod_nonneg (r * 4294967296 + rd x (i : Int)) (show dv ≠ 0 by omega)
  have r1:=Int.emod_lt_of_pos (r * 4294967296 + rd x (i : Int)) hd.1
  have key : Aside0 (P i * ((r * 4294967296 + rd x (i : Int)) % dv) + dv * V (o.set i ((r * 4294967296 + rd x (i : Int)) / dv)) + V (x.take i) = V x):=⟨by
   have hv:=HV.out
   have e:=Int.emod_add_mul_ediv (r * 4294967296 + rd x (i : Int)) dv
   rw [V_set o i _ (by omega),hz i (by omega)]
   rw [V_take_succ' x i,P_succ] at hv
   clear ih hz
   grind⟩
  have hrec:=ih (o.set i ((r * 4294967296 + rd x (i : Int)) / dv)) ((r * 4294967296 + rd x (i : Int)) % dv) (by omega) (W_set hw _ q0 q1) (by rw [List.length_set,ho]) ⟨r0,r1⟩
   (fun j hj=>by rw [rd_set_ne _ _ _ _ (by omega)];exact hz j (by omega)) key
  refine Ev_up ?_
  unfold nat_small.l0
  rw [w1,w0]
  refine Ev_pos (by omega) ?_
  refine Ev_pos (by omega) ?_
  refine Ev_pos (by omega) ?_
  refine Ev_some (div32_f hr rx hd.2) ?_
  rw [Int.toNat_natCast]
  refine Ev_pos (by omega) ?_
  exact hrec
theorem small_f {x : List Int} (hx : W x) {dv : Int} (hd : 0 < dv ∧ dv < 4294967296) (hl : x.length < 35184372087809) : Ev (fun k=>nat_small.f k x dv) (L (V x / dv),L (V x % dv)):=by
 have w1 : wrap64 ((x.length : Int) - 1) = (x.length : Int) - 1:=by unfold wrap64;omega
 unfold nat_small.f
 refine Ev_pos (by omega) ?_
 refine Ev_pos (by omega) ?_
 rw [w1,Int.toNat_natCast]
 exact small_l hx hd hl x.length _ 0 (Nat.le_refl _) (W_replicate _) (by simp) ⟨by omega,hd.1⟩ (fun j _=>rd_replicate _ _) ⟨by simp [V_replicate]⟩
theorem V_drop (l : List Int) (i : Nat) : V (l.drop i) = rd l (i : Int) + 4294967296 * V (l.drop (i + 1)):=by
 by_cases h : i < l.length
 ·rw [List.drop_eq_getElem_cons h,V_cons]
  simp [rd,List.getD_eq_getElem?_getD,h]
 ·rw [rd_beyond l i (by simpa using h),List.drop_of_length_le (by omega),List.drop_of_length_le (by omega),V_nil]
  rfl
theorem or64_f {h x : Int} (hh : 0 ≤ h ∧ h < 4294967296) (hx : 0 ≤ x ∧ x < 4294967296) : Go.bits .or .u64 (h * 4294967296) x = h * 4294967296 + x :=
 bits_join .u64 64 (Nat.le_refl _) (fun n h0 h1=>wrap_u64_of h0 h1) 32 _ _ (by omega) (by omega) (by omega) hx.1 hx.2 (by omega)
theorem or64_w {h x : Int} (hh : 0 ≤ h ∧ h < 4294967296) (hx : 0 ≤ x ∧ x < 4294967296) : Go.bits .or .u64 (IntKind.u64.wrap (IntKind.u64.wrap h * 4294967296)) (IntKind.u64.wrap x) = h * 4294967296 + x:=by
 rw [wrap_u64_of hh.1 (by omega),wrap_u64_of (x:=h * 4294967296) (by omega) (by omega),wrap_u64_of hx.1 (by omega),or64_f hh hx]
theorem or64_z {x : Int} (hx : 0 ≤ x ∧ x < 4294967296) : Go.bits .or .u64 0 (IntKind.u64.wrap x) = 0 * 4294967296 + x:=by
 rw [wrap_u64_of hx.1 (by omega)]
 exact or64_f (h:=0) (by omega) hx
theorem shr_limb {T U lo Y hi Z : Int} (hT : 0 < T) (hTU : T * U = 4294967296) (hlo : 0 ≤ lo ∧ lo < 4294967296) (hY : Y = hi + 4294967296 * Z) :
  (lo + 4294967296 * Y) / T = (hi * 4294967296 + lo) / T % 4294967296 + 4294967296 * (Y / T):=by
 have eY:=Int.emod_add_mul_ediv Y T
 have eh:=Int.emod_add_mul_ediv hi T
 have y0:=Int.emod_nonneg Y (show T ≠ 0 by omega)
 have y1:=Int.emod_lt_of_pos Y hT
 have em : hi % T = Y % T:=by
  rw [hY,← hTU,Int.mul_assoc,Int.add_mul_emod_self_left]
 have a1 : (lo + 4294967296 * Y) / T = (lo + 4294967296 * (Y % T)) / T + 4294967296 * (Y / T):=by
  rw [show lo + 4294967296 * Y = lo + 4294967296 * (Y % T) + T * (4294967296 * (Y / T)) by grind,Int.add_mul_ediv_left _ _ (by omega)]
 have a2 : (hi * 4294967296 + lo) / T = (lo + 4294967296 * (Y % T)) / T + 4294967296 * (hi / T):=by
  rw [show hi * 4294967296 + lo = lo + 4294967296 * (Y % T) + T * (4294967296 * (hi / T)) by grind,Int.add_mul_ediv_left _ _ (by omega)]
 have b0 : 0 ≤ (lo + 4294967296 * (Y % T)) / T:=Int.ediv_nonneg (by omega) (by omega)
 have b1 : (lo + 4294967296 * (Y % T)) / T < 4294967296:=Int.ediv_lt_of_lt_mul hT (by omega)
 rw [a1,a2]
 generalize (lo + 4294967296 * (Y % T)) / T = d at *
 generalize hi / T = h2 at *
 omega
theorem shr_w {r : Nat} (hr : r < 32) (x : Int) : shr .u64 x (r : Int) = x / 2 ^ r:=by
 unfold shr
 rw [Int.toNat_natCast,Nat.min_eq_left (show r ≤ IntKind.u64.bits by show r ≤ 64;omega)]
theorem nshr_l {l : List Int} (hl : W l) (hn : l.length < 35184372087809) {r : Nat} (hr : r < 32) : ∀ (d i : Nat) (o : List Int),l.length - i = d → i ≤ l.length → W o → o.length = l.length →
  Aside0 (V (o.take i) + P i * (V (l.drop i) / 2 ^ r) = V l / 2 ^ r) → Ev (fun k=>nat_shr.l0 k l (r : Int) o l (l.length : Int) (i : Int)) (L (V l / 2 ^ r)):=by
 have hT : (0 : Int) < 2 ^ r:=Int.pow_pos (by decide)
 have HTU : Aside0 ((2 : Int) ^ r * 2 ^ (32 - r) = 4294967296):=⟨by rw [← Int.pow_add,show r + (32 - r) = 32 by omega];rfl⟩
 have hT':=Aside0.mk hT
 clear hT
 intro d
 induction d with
|zero =>
  intro i o hd hi hw ho HV
  obtain rfl : i = l.length:=by omega
  refine Ev_up ?_
  unfold nat_shr.l0
  refine Ev_neg (by omega) ?_
  refine Ev_some (trim_f hw) ?_
  refine Ev_now ?_
  have hv:=HV.out
  rw [List.drop_length,V_nil,V_take_all o _ (by omega),Int.zero_ediv,Int.mul_zero,Int.add_zero] at hv
  rw [hv]
|succ d ih =>
  intro i o hd hi hw ho HV
  have w1 : wrap64 ((i : Int) + 1) = ((i + 1 : Nat) : Int):=by unfold wrap64;omega
  have rl:=W_rd hl (i : Int)
  have rh:=W_rd hl ((i + 1 : Nat) : Int)
  have SL:=Aside0.mk (shr_limb hT'.out HTU.out rl (V_drop l (i + 1)))
  have D0:=Aside0.mk (V_drop l i)
  have hq0 : 0 ≤ (rd l ((i + 1 : Nat) : Int) * 4294967296 + rd l (i : Int)) / 2 ^ r % 4294967296:=Int.emod_nonneg _ (by decide)
  have hq1 : (rd l ((i + 1 : Nat) : Int) * 4294967296 + rd l (i : Int)) / 2 ^ r % 4294967296 < 4294967296:=Int.emod_lt_of_pos _ (by decide)
  have hrec:=ih (i + 1) (o.set i ((rd l ((i + 1 : Nat) : Int) * 4294967296 + rd l (i : Int)) / 2 ^ r % 4294967296)) (by omega) (by omega) (W_set hw _ hq0 hq1) (by rw [List.length_set,ho]) ⟨by
   have hv:=HV.out
   rw [D0.out,SL.out] at hv
   rw [V_take_succ' _ i,rd_set_eq _ _ _ (by omega),P_succ,show (o.set i ((rd l ((i + 1 : Nat) : Int) * 4294967296 + rd l (i : Int)) / 2 ^ r % 4294967296)).take i = o.take i by rw [List.take_set_of_le (Nat.le_refl _)]]
   clear ih
   grind⟩
  refine Ev_up ?_
  unfold nat_shr.l0
  rw [w1,Int.toNat_natCast]
  refine Ev_pos (by omega) ?_
  refine Ev_pos (by omega) ?_
  refine Ev_pos (by omega) ?_
  by_cases hh : ((i + 1 : Nat) : Int) < (l.length : Int)
  ·refine Ev_pos hh ?_
   refine Ev_pos (by omega) ?_
   refine Ev_pos (by omega) ?_
   refine Ev_pos (by omega) ?_
   rw [or64_w rh rl,shr_w hr]
   exact hrec
  ·rw [rd_beyond l ((i + 1 : Nat) : Int) (by omega)] at hrec
   refine Ev_neg hh ?_
   refine Ev_pos (by omega) ?_
   refine Ev_pos (by omega) ?_
   rw [or64_z rl,shr_w hr]
   exact hrec
theorem nshr_f {l : List Int} (hl : W l) (hn : l.length < 35184372087809) {r : Nat} (hr : r < 32) : Ev (fun k=>nat_shr.f k l (r : Int)) (L (V l / 2 ^ r)):=by
 unfold nat_shr.f
 refine Ev_pos (by omega) ?_
 refine Ev_pos (by omega) ?_
 rw [Int.toNat_natCast]
 exact nshr_l hl hn hr _ 0 _ rfl (Nat.zero_le _) (W_replicate _) (by simp) ⟨by simp [V_nil,P_zero]⟩
end Go.Proofs.YtncdiodnbkhacaaDoor.N
end
section
namespace Go.Proofs.YtncdiodnbkhacaaDoor.N
set_option linter.unusedVariables false
set_option linter.unusedSimpArgs false
open Go Go.RowKit Go.Proofs.YtncdiodnbkhacaaDoorW.PrintWords Go.Proofs.YtncdiodnbkhacaaDoorW.PrintLast Go.Proofs.YtncdiodnbkhacaaDoorW.PrintMore Go.Proofs.YtncdiodnbkhacaaDoor.Pq
theorem b01 (x y c : Int) : bits_Sub32.b x y c = 0 ∨ bits_Sub32.b x y c = 1:=by
 unfold bits_Sub32.b
 split
 ·exact .inr rfl
 ·exact .inl rfl
theorem sub_limb {x y c : Int} (hx : 0 ≤ x ∧ x < 4294967296) (hy : 0 ≤ y ∧ y < 4294967296) (hc : 0 ≤ c ∧ c ≤ 1) :
  (x - y - c) % 4294967296 = x - y - c + 4294967296 * bits_Sub32.b x y c:=by
 unfold bits_Sub32.b
 split <;> omega
theorem less_at {u v : List Int} (hu : W u) (hv : W v) (j : Nat) {g : Int} (hg : 0 ≤ g ∧ g < 4294967296) : ∀ (i : Nat),i ≤ v.length → j + v.length ≤ u.length →
  ∃ u' c b,nat_less.at u v j g i = some (u',c,b) ∧ W u' ∧ u'.length = u.length ∧ 0 ≤ c ∧ c < 4294967296 ∧ (b = 0 ∨ b = 1) ∧ (∀ m : Nat,j + i ≤ m → rd u' (m : Int) = rd u (m : Int)) ∧
   Aside0 (V u' = V u - P j * (g * V (v.take i)) + P (j + i) * (c + b)):=by
 intro i
 induction i with
|zero =>
  intro _ _
  exact ⟨u,0,0,rfl,hu,rfl,by omega,by omega,.inl rfl,fun _ _=>rfl,⟨by simp [V_nil]⟩⟩
|succ i ih =>
  intro hi hl
  obtain ⟨u',c,b,e,hw,hlen,c0,c1,hb,hrd,HV⟩:=ih (by omega) hl
  have rv:=W_rd hv (i : Int)
  have ru:=W_rd hw ((j + i : Nat) : Int)
  have hm:=limb_mul hg rv (o:=0) (c:=0) (by omega) (by omega)
  have t0 : 0 ≤ (g * rd v (i : Int) + c) % 4294967296:=by omega
  have t1 : (g * rd v (i : Int) + c) % 4294967296 < 4294967296:=by omega
  have hs:=sub_limb ru ⟨t0,t1⟩ (show 0 ≤ b ∧ b ≤ 1 by omega)
  have s0 : 0 ≤ (rd u' ((j + i : Nat) : Int) - (g * rd v (i : Int) + c) % 4294967296 - b) % 4294967296:=by omega
  have s1 : (rd u' ((j + i : Nat) : Int) - (g * rd v (i : Int) + c) % 4294967296 - b) % 4294967296 < 4294967296:=by omega
  refine ⟨u'.set (j + i) ((rd u' ((j + i : Nat) : Int) - (g * rd v (i : Int) + c) % 4294967296 - b) % 4294967296),(g * rd v (i : Int) + c) / 4294967296,bits_Sub32.b (rd u' ((j + i : Nat) : Int)) ((g * rd v (i : Int) + c) % 4294967296) b,?_,W_set hw _ s0 s1,by rw [List.length_set,hlen],by omega,by omega,b01 _ _ _,?_,⟨?_⟩⟩
  ·show (nat_less.at u v j g i).bind _ = _
   rw [e,Option.bind_some]
   dsimp only
   rw [if_pos ⟨⟨hg.1,by omega⟩,rv,c0,hm.1,by omega⟩,sub32_f ru ⟨t0,t1⟩ (by omega),Option.bind_some]
  ·intro m hm'
   rw [rd_set_ne _ _ _ _ (by omega)]
   exact hrd m (by omega)
  ·have hv':=HV.out
   have ed:=Int.emod_add_mul_ediv (g * rd v (i : Int) + c) 4294967296
   rw [V_set _ _ _ (by omega),hv',V_take_succ' v i,show j + (i + 1) = j + i + 1 by omega,P_succ,P_add j i,hs]
   clear ih hs s0 s1 t0 t1 hm
   grind
theorem less_f {u v : List Int} (hu : W u) (hv : W v) (j : Nat) {g : Int} (hg : 0 ≤ g ∧ g < 4294967296) (hl : j + v.length < u.length) :
  ∃ u' b,nat_less.f u j v g = some (decide (b = 1),u') ∧ W u' ∧ u'.length = u.length ∧ (b = 0 ∨ b = 1) ∧ (∀ m : Nat,j + v.length < m → rd u' (m : Int) = rd u (m : Int)) ∧
   Aside0 (V u' = V u - P j * (g * V v) + P (j + v.length + 1) * b):=by
 obtain ⟨u1,c,b,e,hw,hlen,c0,c1,hb,hrd,HV⟩:=less_at hu hv j hg v.length (Nat.le_refl _) (by omega)
 have ru:=W_rd hw ((j + v.length : Nat) : Int)
 have hs:=sub_limb ru ⟨c0,c1⟩ (show 0 ≤ b ∧ b ≤ 1 by omega)
 have ec : c % 4294967296 = c:=by omega
 refine ⟨u1.set (j + v.length) ((rd u1 ((j + v.length : Nat) : Int) - c - b) % 4294967296),bits_Sub32.b (rd u1 ((j + v.length : Nat) : Int)) c b,?_,W_set hw _ (by omega) (by omega),by rw [List.length_set,hlen],b01 _ _ _,?_,⟨?_⟩⟩
 ·unfold nat_less.f
  rw [e,Option.bind_some]
  dsimp only
  rw [if_pos ⟨c0,by omega⟩,ec,sub32_f ru ⟨c0,c1⟩ (by omega),Option.bind_some]
  rcases b01 (rd u1 ((j + v.length : Nat) : Int)) c b with h|h <;> rw [h] <;> rfl
 ·intro m hm
  rw [rd_set_ne _ _ _ _ (by omega)]
  exact hrd m (by omega)
 ·have hv':=HV.out
  rw [List.take_length] at hv'
  rw [V_set _ _ _ (by omega),hv',P_succ,hs]
  grind
theorem back_at {u v : List Int} (hu : W u) (hv : W v) (j : Nat) : ∀ (i : Nat),i ≤ v.length → j + v.length ≤ u.length →
  ∃ u' c,nat_back.at u v j i = some (u',c) ∧ W u' ∧ u'.length = u.length ∧ 0 ≤ c ∧ c ≤ 1 ∧ (∀ m : Nat,j + i ≤ m → rd u' (m : Int) = rd u (m : Int)) ∧
   Aside0 (V u' + P (j + i) * c = V u + P j * V (v.take i)):=by
 intro i
 induction i with
|zero =>
  intro _ _
  exact ⟨u,0,rfl,hu,rfl,by omega,by omega,fun _ _=>rfl,⟨by simp [V_nil]⟩⟩
|succ i ih =>
  intro hi hl
  obtain ⟨u',c,e,hw,hlen,c0,c1,hrd,HV⟩:=ih (by omega) hl
  have rv:=W_rd hv (i : Int)
  have ru:=W_rd hw ((j + i : Nat) : Int)
  refine ⟨u'.set (j + i) ((rd u' ((j + i : Nat) : Int) + rd v (i : Int) + c) % 4294967296),(rd u' ((j + i : Nat) : Int) + rd v (i : Int) + c) / 4294967296,?_,W_set hw _ (by omega) (by omega),by rw [List.length_set,hlen],by omega,by omega,?_,⟨?_⟩⟩
  ·show (nat_back.at u v j i).bind _ = _
   rw [e,Option.bind_some]
   dsimp only
   rw [add32_f ru rv ⟨c0,c1⟩,Option.bind_some]
  ·intro m hm'
   rw [rd_set_ne _ _ _ _ (by omega)]
   exact hrd m (by omega)
  ·have hv':=HV.out
   have ed:=Int.emod_add_mul_ediv (rd u' ((j + i : Nat) : Int) + rd v (i : Int) + c) 4294967296
   rw [V_set _ _ _ (by omega),V_take_succ' v i,show j + (i + 1) = j + i + 1 by omega,P_succ]
   rw [P_add j i] at *
   clear ih
   grind
theorem back_f {u v : List Int} (hu : W u) (hv : W v) (j : Nat) (hl : j + v.length < u.length) :
  ∃ u' b,nat_back.f u j v = some u' ∧ W u' ∧ u'.length = u.length ∧ (b = 0 ∨ b = 1) ∧ (∀ m : Nat,j + v.length < m → rd u' (m : Int) = rd u (m : Int)) ∧
   Aside0 (V u' = V u + P j * V v - P (j + v.length + 1) * b):=by
 obtain ⟨u1,c,e,hw,hlen,c0,c1,hrd,HV⟩:=back_at hu hv j v.length (Nat.le_refl _) (by omega)
 have ru:=W_rd hw ((j + v.length : Nat) : Int)
 refine ⟨u1.set (j + v.length) ((rd u1 ((j + v.length : Nat) : Int) + c) % 4294967296),(rd u1 ((j + v.length : Nat) : Int) + c) / 4294967296,?_,W_set hw _ (by omega) (by omega),by rw [List.length_set,hlen],by omega,?_,⟨?_⟩⟩
 ·unfold nat_back.f
  rw [e,Option.bind_some]
 ·intro m hm
  rw [rd_set_ne _ _ _ _ (by omega)]
  exact hrd m (by omega)
 ·have hv':=HV.out
  have ed:=Int.emod_add_mul_ediv (rd u1 ((j + v.length : Nat) : Int) + c) 4294967296
  rw [List.take_length] at hv'
  rw [V_set _ _ _ (by omega),P_succ]
  grind
end Go.Proofs.YtncdiodnbkhacaaDoor.N
end
