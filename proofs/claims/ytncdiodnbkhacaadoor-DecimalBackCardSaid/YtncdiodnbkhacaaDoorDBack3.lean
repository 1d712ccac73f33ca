import Derived.Test.YtncdiodnbkhacaaDoorDBack2
set_option linter.unusedVariables false
set_option linter.unusedSimpArgs false
section
namespace Go.Proofs.YtncdiodnbkhacaaDoor.Pq
open Go.RowKit Go.Proofs.YtncdiodnbkhacaaDoorW.PrintWords Go.Proofs.YtncdiodnbkhacaaDoorW.PrintLast Go.Proofs.YtncdiodnbkhacaaDoorW.PrintMore
attribute [local go_sem] max2_int min2_int max_two min_two max_three min_three max_four min_four
set_option linter.unusedVariables false
set_option linter.unusedSimpArgs false
theorem rat_Of.mono : ∀ a0 a1 k,LeO (rat_Of.f k a0 a1) (rat_Of.f (k+1) a0 a1):=by
 intro a0 a1 k
 unfold rat_Of.f
 with_reducible repeat' first
  |exact rat_made.mono _ _ _ _
  |exact LeO.refl _
  |exact LeO.none _
  |refine LeO.ite ?_ ?_
  |refine LeO.bind ?_ (fun _=>?_)
set_option maxHeartbeats 8000000 in
set_option maxRecDepth 100000 in
theorem rat_Of.calls (k : Nat) (a0 : Int) (a1 : Int) (r1 : Bool) (r2 : List Int) (r3 : List Int) (w : World) (h : rat_Of.f k a0 a1=some (r1,r2,r3)) :
  Calls Tryd.prog 24 #[.int .i64 a0,.int .i64 a1] w fun e w'=>∃ v1_ v2_ : Value,e=.returned (.agg #[.bool r1,v1_,v2_])∧Kd.R (Kd.int .u32) 35 w' w.heap.size (fun k_=>some k_≠(v2_ : Value).ownBlock) v1_ r2∧Kd.R (Kd.int .u32) 35 w' w.heap.size (fun k_=>some k_≠(v1_ : Value).ownBlock) v2_ r3∧Below w.heap.size w w':=by
 have hu25:=Tryd.underlying25
 have HB:=Aside0.mk (Below.refl w.heap.size w)
 have H : ((rat_size.f a0).bind fun t281=>((rat_size.f a1).bind fun t284=>((rat_made.f k ((decide (a0 < 0)) != (decide (a1 < 0))) t281 t284).bind fun bt287=>(some (bt287.1,bt287.2.1,bt287.2.2)))))=some (r1,r2,r3):=h
 clear h
 replace H:=Option.bind_eq_some_iff.mp H
 obtain ⟨t281,A30,H⟩:=H
 try dsimp only at H
 have A3:=Aside0.mk A30
 clear A30
 replace H:=Option.bind_eq_some_iff.mp H
 obtain ⟨t284,A40,H⟩:=H
 try dsimp only at H
 have A4:=Aside0.mk A40
 clear A40
 replace H:=Option.bind_eq_some_iff.mp H
 obtain ⟨⟨t287,t288,t291⟩,A50,H⟩:=H
 try dsimp only at H
 have A5:=Aside0.mk A50
 clear A50
 simp only [Option.some.injEq,Prod.mk.injEq] at H
 obtain ⟨rfl,rfl,rfl⟩:=H
 go_enter Tryd.func24,Tryd.ntmps24
 go_wp2_with (first|((with_reducible refine gate_dst (N:=4) rfl ?_);refine box_event ?hg (N:=4) ?hd (cs:=#[.bool false,.slice none 0 0,.slice none 0 0]) (t:=25) ?hr ?_;(case hd=>rfl);(case hg=>rfl);(case hr=>first|(go_simp;done)|(go_simp;(with_reducible rfl))|(go_simp;rfl)|(go_simp;simp only [hu,Int.emod_sub_emod]));intro gb280 hg w6 hbox hb;have n0_:=Aside0.mk (below_step (Hu HB.out) hb);have n1_:=Aside0.mk (hbox);have n2_:=Aside0.mk ((by rw [hg];exact (below_size (Hu HB.out)) : w.heap.size≤gb280));have n3_:=Aside0.mk ((by rw [hg];exact (below_size (Hu HB.out)) : w.heap.size≤gb280));clear HB;have HB:=n0_;have BK280:=n1_;have GW280:=n2_;have GE280:=n3_;clear n0_ n1_ n2_ n3_;clear hb hbox hg)|((with_reducible refine gate_callee (f:=50) rfl ?_);refine goesL_ (some 11) rfl rfl Tryd.func50 (by kernel_rfl) rfl #[.int .i64 a0] rfl (by (try simp only [List.map_toArray,List.map_cons,List.map_nil]);first|done|rfl) ?_;(with_reducible refine (rat_size.calls a0 t281 _ A3.out).mono ?_);rintro e w7 ⟨v282,rfl,ho0,hb⟩;refine ⟨_,rfl,?_⟩;have n0_:=Aside0.mk (Kd.R_lower ho0 (below_size (by repeat (first|with_reducible exact HB.out|apply ba|apply bn|apply b1|refine below_set ?_ GE280.out))));have n1_:=Aside0.mk (blk_below (g:=gb280) (o:=.cells #[.bool false,.slice none 0 0,.slice none 0 0] 25 (0,0)) (Bu BK280.out) hb);have n2_:=Aside0.mk (below_step (by repeat (first|with_reducible exact HB.out|apply ba|apply bn|apply b1|refine below_set ?_ GE280.out)) hb);clear BK280;clear HB;have HO283:=n0_;have BK280:=n1_;have HB:=n2_;clear n0_ n1_ n2_)|((with_reducible refine gate_callee (f:=50) rfl ?_);refine goesL_ (some 13) rfl rfl Tryd.func50 (by kernel_rfl) rfl #[.int .i64 a1] rfl (by (try simp only [List.map_toArray,List.map_cons,List.map_nil]);first|done|rfl) ?_;(with_reducible refine (rat_size.calls a1 t284 _ A4.out).mono ?_);rintro e w8 ⟨v285,rfl,ho0,hb⟩;refine ⟨_,rfl,?_⟩;have n0_:=Aside0.mk (Kd.R_elder' (Ru HO283.out) (Kd.R_base ho0) hb);have n1_:=Aside0.mk (Kd.R_lower (Kd.R_new' ho0 (Kd.R_lt (Ru HO283.out))) (below_size (by repeat (first|with_reducible exact HB.out|apply ba|apply bn|apply b1|refine below_set ?_ GE280.out))));have n2_:=Aside0.mk (blk_below (g:=gb280) (o:=.cells #[.bool false,.slice none 0 0,.slice none 0 0] 25 (0,0)) (Bu BK280.out) hb);have n3_:=Aside0.mk (below_step (by repeat (first|with_reducible exact HB.out|apply ba|apply bn|apply b1|refine below_set ?_ GE280.out)) hb);clear HO283;clear BK280;clear HB;have HO283:=n0_;have HO286:=n1_;have BK280:=n2_;have HB:=n3_;clear n0_ n1_ n2_ n3_;obtain ⟨Ao9,co9,eo9⟩:=Kd.R_slice HO283.out;subst eo9;obtain ⟨Ao10,co10,eo10⟩:=Kd.R_slice HO286.out;subst eo10)|((with_reducible refine gate_callee (f:=45) rfl ?_);refine goesL_ (some 14) rfl rfl Tryd.func45 (by kernel_rfl) rfl #[.bool ((decide (a0 < 0)) != (decide (a1 < 0))),.slice Ao9 t281.length co9,.slice Ao10 t284.length co10] rfl (by (try simp only [List.map_toArray,List.map_cons,List.map_nil]);first|done|rfl) ?_;(with_reducible refine (rat_made.calls k ((decide (a0 < 0)) != (decide (a1 < 0))) _ _ t281 _ _ t284 t287 t288 t291 _ ?side1 ?side2 ?side3 ?side4 A5.out).mono ?_);(case side1=>exact Cu (Kd.R_reads' HO283.out).2.2);(case side2=>exact (Kd.R_reads' HO283.out).2.1);(case side3=>exact Cu (Kd.R_reads' HO286.out).2.2);(case side4=>exact (Kd.R_reads' HO286.out).2.1);rintro e w11 ⟨v289,v292,rfl,ho0,ho1,hb⟩;refine ⟨_,rfl,?_⟩;have n0_:=Aside0.mk (Kd.R_mono (Kd.R_told (Kd.R_told (Kd.R_old (Ru HO283.out) hb) (Kd.R_base ho0)) (Kd.R_base ho1)) (fun _ h_=>h_.1));have n1_:=Aside0.mk (Kd.R_mono (Kd.R_told (Kd.R_told (Kd.R_old (Ru HO286.out) hb) (Kd.R_base ho0)) (Kd.R_base ho1)) (fun _ h_=>h_.1));have n2_:=Aside0.mk (Kd.R_lower (Kd.R_new' (Kd.R_new' ho0 (Kd.R_lt (Ru HO283.out))) (Kd.R_lt (Ru HO286.out))) (below_size (by repeat (first|with_reducible exact HB.out|apply ba|apply bn|apply b1|refine below_set ?_ GE280.out))));have n3_:=Aside0.mk (Kd.R_lower (Kd.R_new' (Kd.R_new' ho1 (Kd.R_lt (Ru HO283.out))) (Kd.R_lt (Ru HO286.out))) (below_size (by repeat (first|with_reducible exact HB.out|apply ba|apply bn|apply b1|refine below_set ?_ GE280.out))));have n4_:=Aside0.mk (blk_below (g:=gb280) (o:=.cells #[.bool false,.slice none 0 0,.slice none 0 0] 25 (0,0)) (Bu BK280.out) hb);have n5_:=Aside0.mk (below_step (by repeat (first|with_reducible exact HB.out|apply ba|apply bn|apply b1|refine below_set ?_ GE280.out)) hb);clear HO283;clear HO286;clear BK280;clear HB;have HO283:=n0_;have HO286:=n1_;have HO290:=n2_;have HO293:=n3_;have BK280:=n4_;have HB:=n5_;clear n0_ n1_ n2_ n3_ n4_ n5_;have hcz12_0 : w11.cell? ⟨gb280,0,none⟩=some (.bool false):=(blk_cell BK280.out 0).trans rfl;have hcz12_1 : w11.cell? ⟨gb280,1,none⟩=some (.slice none 0 0):=(blk_cell BK280.out 1).trans rfl;have hcz12_2 : w11.cell? ⟨gb280,2,none⟩=some (.slice none 0 0):=(blk_cell BK280.out 2).trans rfl;have hfz12_0:=blk_frozen BK280.out 0;have hfz12_1:=blk_frozen BK280.out 1;have hfz12_2:=blk_frozen BK280.out 2;obtain ⟨Ao13,co13,eo13⟩:=Kd.R_slice HO290.out;subst eo13;obtain ⟨Ao14,co14,eo14⟩:=Kd.R_slice HO293.out;subst eo14))
 refine bodyPost_ret (results_cell_row rfl _ _ gb280 25 #[.bool t287,.slice Ao13 t288.length co13,.slice Ao14 t291.length co14] (0,0) _ rfl (by (with_reducible repeat (first|refine blk_drewN ?_ _|refine blk_drew ?_|refine blk_alloc ?_ _));refine blk_put (cs:=#[.bool t287,.slice Ao13 t288.length co13,.slice none 0 0]) ?_ 2 _ rfl;(with_reducible repeat (first|refine blk_drewN ?_ _|refine blk_drew ?_|refine blk_alloc ?_ _));refine blk_put (cs:=#[.bool t287,.slice none 0 0,.slice none 0 0]) ?_ 1 _ rfl;(with_reducible repeat (first|refine blk_drewN ?_ _|refine blk_drew ?_|refine blk_alloc ?_ _));refine blk_put (cs:=#[.bool false,.slice none 0 0,.slice none 0 0]) ?_ 0 _ rfl;(with_reducible repeat (first|refine blk_drewN ?_ _|refine blk_drew ?_|refine blk_alloc ?_ _));exact BK280.out) Tryd.underlying25 rfl (by kernel_rfl)) rfl ?_
 exact ⟨_,_,by first|rfl|(simp [errW_none,errW_some] <;> rfl)|(simp [*,errW_none,errW_some] <;> rfl),by (with_reducible repeat (first|apply Ra|apply Rn|apply Rd));exact Kd.R_mono (Kd.R_far (p:=⟨gb280,2,none⟩) (Kd.R_far (p:=⟨gb280,1,none⟩) (Kd.R_far (p:=⟨gb280,0,none⟩) (Kd.R_types HO290.out BK280.out (by decide)) (fun _ hk=>hk.2) (.bool t287)) (fun _ hk=>hk.2) (.slice Ao13 t288.length co13)) (fun _ hk=>hk.2) (.slice Ao14 t291.length co14)) (fun _ hk=>hk.1.1.1),by (with_reducible repeat (first|apply Ra|apply Rn|apply Rd));exact Kd.R_mono (Kd.R_far (p:=⟨gb280,2,none⟩) (Kd.R_far (p:=⟨gb280,1,none⟩) (Kd.R_far (p:=⟨gb280,0,none⟩) (Kd.R_types HO293.out BK280.out (by decide)) (fun _ hk=>hk.2) (.bool t287)) (fun _ hk=>hk.2) (.slice Ao13 t288.length co13)) (fun _ hk=>hk.2) (.slice Ao14 t291.length co14)) (fun _ hk=>hk.1.1.1),by repeat (first|with_reducible exact HB.out|apply ba|apply bn|apply b1|refine below_set ?_ GE280.out)⟩
end Go.Proofs.YtncdiodnbkhacaaDoor.Pq
end
section
namespace Go.Proofs.YtncdiodnbkhacaaDoor.Pq
open Go.RowKit Go.Proofs.YtncdiodnbkhacaaDoorW.PrintWords Go.Proofs.YtncdiodnbkhacaaDoorW.PrintLast Go.Proofs.YtncdiodnbkhacaaDoorW.PrintMore
attribute [local go_sem] max2_int min2_int max_two min_two max_three min_three max_four min_four
set_option linter.unusedVariables false
set_option linter.unusedSimpArgs false
theorem rat_Read.mono : ∀ a0 a1 a2 k,LeO (rat_Read.f k a0 a1 a2) (rat_Read.f (k+1) a0 a1 a2):=by
 intro a0 a1 a2 k
 unfold rat_Read.f
 with_reducible repeat' first
  |exact rat_made.mono _ _ _ _
  |exact LeO.refl _
  |exact LeO.none _
  |refine LeO.ite ?_ ?_
  |refine LeO.bind ?_ (fun _=>?_)
set_option maxHeartbeats 8000000 in
set_option maxRecDepth 100000 in
theorem rat_Read.calls (k : Nat) (a0_0 : Bool) (A0_1 : Option Addr) (c0_1 : Nat) (l0_1 : List Int) (A0_2 : Option Addr) (c0_2 : Nat) (l0_2 : List Int) (r1 : Bool) (r2 : List Int) (r3 : List Int) (w : World) (hr0_1 : Kd.C (Kd.int .u32) w A0_1 l0_1.length l0_1) (hc0_1 : l0_1.length≤c0_1) (hr0_2 : Kd.C (Kd.int .u32) w A0_2 l0_2.length l0_2) (hc0_2 : l0_2.length≤c0_2) (h : rat_Read.f k a0_0 l0_1 l0_2=some (r1,r2,r3)) :
  Calls Tryd.prog 18 #[.agg #[.bool a0_0,.slice A0_1 l0_1.length c0_1,.slice A0_2 l0_2.length c0_2]] w fun e w'=>∃ v1_ v2_ : Value,e=.returned (.agg #[.bool r1,v1_,v2_])∧Kd.R (Kd.int .u32) 35 w' w.heap.size (fun k_=>some k_≠(v2_ : Value).ownBlock) v1_ r2∧Kd.R (Kd.int .u32) 35 w' w.heap.size (fun k_=>some k_≠(v1_ : Value).ownBlock) v2_ r3∧Below w.heap.size w w':=by
 have hu25:=Tryd.underlying25
 have HR0_1:=Aside0.mk hr0_1
 have HC0_1:=Aside0.mk hc0_1
 clear hr0_1 hc0_1
 have HR0_2:=Aside0.mk hr0_2
 have HC0_2:=Aside0.mk hc0_2
 clear hr0_2 hc0_2
 have HB:=Aside0.mk (Below.refl w.heap.size w)
 have H : ((rat_made.f k a0_0 l0_1 l0_2).bind fun bt261=>(some (bt261.1,bt261.2.1,bt261.2.2)))=some (r1,r2,r3):=h
 clear h
 replace H:=Option.bind_eq_some_iff.mp H
 obtain ⟨⟨t261,t262,t265⟩,A20,H⟩:=H
 try dsimp only at H
 have A2:=Aside0.mk A20
 clear A20
 simp only [Option.some.injEq,Prod.mk.injEq] at H
 obtain ⟨rfl,rfl,rfl⟩:=H
 go_enter Tryd.func18,Tryd.ntmps18
 go_wp2_with (first|((with_reducible refine gate_dst (N:=1) rfl ?_);refine box_event ?hg (N:=1) ?hd (cs:=#[.bool a0_0,.slice A0_1 l0_1.length c0_1,.slice A0_2 l0_2.length c0_2]) (t:=25) ?hr ?_;(case hd=>rfl);(case hg=>rfl);(case hr=>first|(go_simp;done)|(go_simp;(with_reducible rfl))|(go_simp;rfl)|(go_simp;simp only [hu,Int.emod_sub_emod]));intro gb259 hg w3 hbox hb;have n0_:=Aside0.mk (below_step (Hu HB.out) hb);have n1_:=Aside0.mk (hbox);have n2_:=Aside0.mk ((by rw [hg];exact (below_size (Hu HB.out)) : w.heap.size≤gb259));have n3_:=Aside0.mk ((by rw [hg];exact (below_size (Hu HB.out)) : w.heap.size≤gb259));clear HB;have HB:=n0_;have BK259:=n1_;have GW259:=n2_;have GE259:=n3_;clear n0_ n1_ n2_ n3_;clear hb hbox hg)|((with_reducible refine gate_dst (N:=2) rfl ?_);refine box_event ?hg (N:=2) ?hd (cs:=#[.bool false,.slice none 0 0,.slice none 0 0]) (t:=25) ?hr ?_;(case hd=>rfl);(case hg=>rfl);(case hr=>first|(go_simp;done)|(go_simp;(with_reducible rfl))|(go_simp;rfl)|(go_simp;simp only [hu,Int.emod_sub_emod]));intro gb260 hg w4 hbox hb;have n0_:=Aside0.mk (blk_below (g:=gb259) (o:=.cells #[.bool a0_0,.slice A0_1 l0_1.length c0_1,.slice A0_2 l0_2.length c0_2] 25 (0,0)) (Bu BK259.out) hb);have n1_:=Aside0.mk (below_step (by repeat (first|with_reducible exact HB.out|apply ba|apply bn|apply b1|refine below_set ?_ GE259.out)) hb);have n2_:=Aside0.mk (hbox);have n3_:=Aside0.mk ((by rw [hg];exact (below_size (by repeat (first|with_reducible exact HB.out|apply ba|apply bn|apply b1|refine below_set ?_ GE259.out))) : w.heap.size≤gb260));have n4_:=Aside0.mk ((by rw [hg];exact (below_size (by repeat (first|with_reducible exact HB.out|apply ba|apply bn|apply b1|refine below_set ?_ GE259.out))) : w.heap.size≤gb260));have n5_:=Aside0.mk ((by rw [hg];exact Nat.ne_of_lt (blk_lt (g:=gb259) (o:=.cells #[.bool a0_0,.slice A0_1 l0_1.length c0_1,.slice A0_2 l0_2.length c0_2] 25 (0,0)) (Bu BK259.out)) : gb259≠gb260));have n6_:=Aside0.mk ((by rw [hg];exact Nat.ne_of_gt (blk_lt (g:=gb259) (o:=.cells #[.bool a0_0,.slice A0_1 l0_1.length c0_1,.slice A0_2 l0_2.length c0_2] 25 (0,0)) (Bu BK259.out)) : gb260≠gb259));clear BK259;clear HB;have BK259:=n0_;have HB:=n1_;have BK260:=n2_;have GW260:=n3_;have GE260:=n4_;have NB259_260:=n5_;have NB260_259:=n6_;clear n0_ n1_ n2_ n3_ n4_ n5_ n6_;clear hb hbox hg;have hnb5:=NB259_260.out;have hnc5:=NB260_259.out;have hcz6_0 : w4.cell? ⟨gb259,0,none⟩=some (.bool a0_0):=(blk_cell BK259.out 0).trans rfl;have hcz6_1 : w4.cell? ⟨gb259,1,none⟩=some (.slice A0_1 l0_1.length c0_1):=(blk_cell BK259.out 1).trans rfl;have hcz6_2 : w4.cell? ⟨gb259,2,none⟩=some (.slice A0_2 l0_2.length c0_2):=(blk_cell BK259.out 2).trans rfl;have hfz6_0:=blk_frozen BK259.out 0;have hfz6_1:=blk_frozen BK259.out 1;have hfz6_2:=blk_frozen BK259.out 2)|((with_reducible refine gate_callee (f:=45) rfl ?_);refine goesL_ (some 9) rfl rfl Tryd.func45 (by kernel_rfl) rfl #[.bool a0_0,.slice A0_1 l0_1.length c0_1,.slice A0_2 l0_2.length c0_2] rfl (by (try simp only [List.map_toArray,List.map_cons,List.map_nil]);first|done|rfl) ?_;(with_reducible refine (rat_made.calls k a0_0 _ _ l0_1 _ _ l0_2 t261 t262 t265 _ ?side1 ?side2 ?side3 ?side4 A2.out).mono ?_);(case side1=>repeat (first|exact (Kd.C_below HR0_1.out HB.out)|(with_reducible refine Kd.C_alloc ?_ _)|(with_reducible refine Kd.C_drewN ?_ _)|(with_reducible refine Kd.C_drew ?_)));(case side2=>exact HC0_1.out);(case side3=>repeat (first|exact (Kd.C_below HR0_2.out HB.out)|(with_reducible refine Kd.C_alloc ?_ _)|(with_reducible refine Kd.C_drewN ?_ _)|(with_reducible refine Kd.C_drew ?_)));(case side4=>exact HC0_2.out);rintro e w7 ⟨v263,v266,rfl,ho0,ho1,hb⟩;refine ⟨_,rfl,?_⟩;have n0_:=Aside0.mk (Kd.R_lower ho0 (below_size (by repeat (first|with_reducible exact HB.out|apply ba|apply bn|apply b1|refine below_set ?_ GE259.out|refine below_set ?_ GE260.out))));have n1_:=Aside0.mk (Kd.R_lower ho1 (below_size (by repeat (first|with_reducible exact HB.out|apply ba|apply bn|apply b1|refine below_set ?_ GE259.out|refine below_set ?_ GE260.out))));have n2_:=Aside0.mk (blk_below (g:=gb259) (o:=.cells #[.bool a0_0,.slice A0_1 l0_1.length c0_1,.slice A0_2 l0_2.length c0_2] 25 (0,0)) (Bu BK259.out) hb);have n3_:=Aside0.mk (blk_below (g:=gb260) (o:=.cells #[.bool false,.slice none 0 0,.slice none 0 0] 25 (0,0)) (Bu BK260.out) hb);have n4_:=Aside0.mk (below_step (by repeat (first|with_reducible exact HB.out|apply ba|apply bn|apply b1|refine below_set ?_ GE259.out|refine below_set ?_ GE260.out)) hb);clear BK259;clear BK260;clear HB;have HO264:=n0_;have HO267:=n1_;have BK259:=n2_;have BK260:=n3_;have HB:=n4_;clear n0_ n1_ n2_ n3_ n4_;have hcz8_0 : w7.cell? ⟨gb260,0,none⟩=some (.bool false):=(blk_cell BK260.out 0).trans rfl;have hcz8_1 : w7.cell? ⟨gb260,1,none⟩=some (.slice none 0 0):=(blk_cell BK260.out 1).trans rfl;have hcz8_2 : w7.cell? ⟨gb260,2,none⟩=some (.slice none 0 0):=(blk_cell BK260.out 2).trans rfl;have hfz8_0:=blk_frozen BK260.out 0;have hfz8_1:=blk_frozen BK260.out 1;have hfz8_2:=blk_frozen BK260.out 2;obtain ⟨Ao9,co9,eo9⟩:=Kd.R_slice HO264.out;subst eo9;obtain ⟨Ao10,co10,eo10⟩:=Kd.R_slice HO267.out;subst eo10))
 refine bodyPost_ret (results_cell_row rfl _ _ gb260 25 #[.bool t261,.slice Ao9 t262.length co9,.slice Ao10 t265.length co10] (0,0) _ rfl (by (with_reducible repeat (first|refine blk_drewN ?_ _|refine blk_drew ?_|refine blk_alloc ?_ _));refine blk_put (cs:=#[.bool t261,.slice Ao9 t262.length co9,.slice none 0 0]) ?_ 2 _ rfl;(with_reducible repeat (first|refine blk_drewN ?_ _|refine blk_drew ?_|refine blk_alloc ?_ _));refine blk_put (cs:=#[.bool t261,.slice none 0 0,.slice none 0 0]) ?_ 1 _ rfl;(with_reducible repeat (first|refine blk_drewN ?_ _|refine blk_drew ?_|refine blk_alloc ?_ _));refine blk_put (cs:=#[.bool false,.slice none 0 0,.slice none 0 0]) ?_ 0 _ rfl;(with_reducible repeat (first|refine blk_drewN ?_ _|refine blk_drew ?_|refine blk_alloc ?_ _));exact BK260.out) Tryd.underlying25 rfl (by kernel_rfl)) rfl ?_
 exact ⟨_,_,by first|rfl|(simp [errW_none,errW_some] <;> rfl)|(simp [*,errW_none,errW_some] <;> rfl),by (with_reducible repeat (first|apply Ra|apply Rn|apply Rd));exact Kd.R_mono (Kd.R_far (p:=⟨gb260,2,none⟩) (Kd.R_far (p:=⟨gb260,1,none⟩) (Kd.R_far (p:=⟨gb260,0,none⟩) (Kd.R_types HO264.out BK260.out (by decide)) (fun _ hk=>hk.2) (.bool t261)) (fun _ hk=>hk.2) (.slice Ao9 t262.length co9)) (fun _ hk=>hk.2) (.slice Ao10 t265.length co10)) (fun _ hk=>hk.1),by (with_reducible repeat (first|apply Ra|apply Rn|apply Rd));exact Kd.R_mono (Kd.R_far (p:=⟨gb260,2,none⟩) (Kd.R_far (p:=⟨gb260,1,none⟩) (Kd.R_far (p:=⟨gb260,0,none⟩) (Kd.R_types HO267.out BK260.out (by decide)) (fun _ hk=>hk.2) (.bool t261)) (fun _ hk=>hk.2) (.slice Ao9 t262.length co9)) (fun _ hk=>hk.2) (.slice Ao10 t265.length co10)) (fun _ hk=>hk.1),by repeat (first|with_reducible exact HB.out|apply ba|apply bn|apply b1|refine below_set ?_ GE259.out|refine below_set ?_ GE260.out)⟩
end Go.Proofs.YtncdiodnbkhacaaDoor.Pq
end
section
namespace Go.Proofs.YtncdiodnbkhacaaDoor.Pq
open Go.RowKit Go.Proofs.YtncdiodnbkhacaaDoorW.PrintWords Go.Proofs.YtncdiodnbkhacaaDoorW.PrintLast Go.Proofs.YtncdiodnbkhacaaDoorW.PrintMore
attribute [local go_sem] max2_int min2_int max_two min_two max_three min_three max_four min_four
set_option linter.unusedVariables false
set_option linter.unusedSimpArgs false
set_option maxHeartbeats 8000000 in
set_option maxRecDepth 100000 in
theorem stringslite_HasPrefix.calls (a0 : ByteArray) (a1 : ByteArray) (r : Bool) (w : World) (h : stringslite_HasPrefix.f a0 a1=some r) :
  Calls Tryd.prog 79 #[.string a0,.string a1] w fun e w'=>e=.returned (.bool r)∧Drawn0 w w':=by
 have H : (if (a0.size : Int) ≥ (a1.size : Int) then (if 0≤(a1.size : Int) then (if (a1.size : Int)≤(a0.size : Int) then (some ((a0.extract 0 ((a1.size : Int) : Int).toNat).toList == a1.toList)) else (none)) else (none)) else (some false))=some r:=h
 clear h
 by_cases c3 : (a0.size : Int) ≥ (a1.size : Int)
 ·rw [if_pos c3] at H
  have c3b0 : decide ((a1.size : Int)≤(a0.size : Int))=true:=decide_eq_true c3
  have c3b1 : decide (a1.size≤a0.size)=true:=decide_eq_true (Int.ofNat_le.mp c3)
  clear c3
  by_cases c4 : 0≤(a1.size : Int)
  case neg =>rw [if_neg c4] at H;exact absurd H (by simp)
  rw [if_pos c4] at H
  have c4b0:=eq_true c4
  have c4b1 : decide (0≤(a1.size : Int))=true:=decide_eq_true c4
  clear c4
  by_cases c5 : (a1.size : Int)≤(a0.size : Int)
  case neg =>rw [if_neg c5] at H;exact absurd H (by simp)
  rw [if_pos c5] at H
  have c5b0:=eq_true c5
  have c5b1 : decide ((a1.size : Int)≤(a0.size : Int))=true:=decide_eq_true c5
  clear c5
  obtain rfl:=Option.some.inj H
  go_enter Tryd.func79,Tryd.ntmps79
  go_wp2
  go_ret
  exact ⟨by first|rfl|(simp;done)|(simp [*];done),by repeat (first|exact Drawn0.refl _|apply Drawn0.step)⟩
 ·rw [if_neg c3] at H
  have c3b0 : decide ((a1.size : Int)≤(a0.size : Int))=false:=decide_eq_false c3
  have c3b1 : decide (a1.size≤a0.size)=false:=decide_eq_false (fun h=>c3 (Int.ofNat_le.mpr h))
  clear c3
  obtain rfl:=Option.some.inj H
  go_enter Tryd.func79,Tryd.ntmps79
  go_wp2
  go_ret
  exact ⟨by first|rfl|(simp;done)|(simp [*];done),by repeat (first|exact Drawn0.refl _|apply Drawn0.step)⟩
end Go.Proofs.YtncdiodnbkhacaaDoor.Pq
end
section
namespace Go.Proofs.YtncdiodnbkhacaaDoor.Pq
open Go.RowKit Go.Proofs.YtncdiodnbkhacaaDoorW.PrintWords Go.Proofs.YtncdiodnbkhacaaDoorW.PrintLast Go.Proofs.YtncdiodnbkhacaaDoorW.PrintMore
attribute [local go_sem] max2_int min2_int max_two min_two max_three min_three max_four min_four
set_option linter.unusedVariables false
set_option linter.unusedSimpArgs false
set_option maxHeartbeats 8000000 in
set_option maxRecDepth 100000 in
theorem stringslite_CutPrefix.calls (a0 : ByteArray) (a1 : ByteArray) (r1 : ByteArray) (r2 : Bool) (w : World) (h : stringslite_CutPrefix.f a0 a1=some (r1,r2)) :
  Calls Tryd.prog 51 #[.string a0,.string a1] w fun e w'=>e=.returned (.tuple #[.string r1,.bool r2])∧Drawn0 w w':=by
 have H : ((stringslite_HasPrefix.f a0 a1).bind fun t294=>(if t294=true then (if 0≤(a1.size : Int) then (if (a1.size : Int)≤(a0.size : Int) then (some (a0.extract ((a1.size : Int) : Int).toNat a0.size,true)) else (none)) else (none)) else (some (a0,false))))=some (r1,r2):=h
 clear h
 replace H:=Option.bind_eq_some_iff.mp H
 obtain ⟨t294,A30,H⟩:=H
 try dsimp only at H
 have A3:=Aside0.mk A30
 clear A30
 by_cases c4 : t294=true
 ·subst c4
  rw [if_pos rfl] at H
  by_cases c5 : 0≤(a1.size : Int)
  case neg =>rw [if_neg c5] at H;exact absurd H (by simp)
  rw [if_pos c5] at H
  have c5b0:=eq_true c5
  have c5b1 : decide (0≤(a1.size : Int))=true:=decide_eq_true c5
  clear c5
  by_cases c6 : (a1.size : Int)≤(a0.size : Int)
  case neg =>rw [if_neg c6] at H;exact absurd H (by simp)
  rw [if_pos c6] at H
  have c6b0:=eq_true c6
  have c6b1 : decide ((a1.size : Int)≤(a0.size : Int))=true:=decide_eq_true c6
  clear c6
  simp only [Option.some.injEq,Prod.mk.injEq] at H
  obtain ⟨rfl,rfl⟩:=H
  go_enter Tryd.func51,Tryd.ntmps51
  go_wp2_with (first|((with_reducible refine gate_callee (f:=79) rfl ?_);refine goesL_ (some 8) rfl rfl Tryd.func79 (by kernel_rfl) rfl #[.string a0,.string a1] rfl (by (try simp only [List.map_toArray,List.map_cons,List.map_nil]);first|done|rfl) ?_;(with_reducible refine (stringslite_HasPrefix.calls a0 a1 true _ A3.out).mono ?_);rintro e w' ⟨rfl,⟨nd,rfl⟩⟩;refine ⟨_,rfl,?_⟩))
  go_ret2
  exact ⟨by first|rfl|(simp;done)|(simp [*];done),by repeat (first|exact Drawn0.refl _|apply Drawn0.step)⟩
 ·replace c4:=Bool.eq_false_iff.mpr c4
  subst c4
  rw [if_neg (show ¬ (false=true) by decide)] at H
  simp only [Option.some.injEq,Prod.mk.injEq] at H
  obtain ⟨rfl,rfl⟩:=H
  go_enter Tryd.func51,Tryd.ntmps51
  go_wp2_with (first|((with_reducible refine gate_callee (f:=79) rfl ?_);refine goesL_ (some 8) rfl rfl Tryd.func79 (by kernel_rfl) rfl #[.string a0,.string a1] rfl (by (try simp only [List.map_toArray,List.map_cons,List.map_nil]);first|done|rfl) ?_;(with_reducible refine (stringslite_HasPrefix.calls a0 a1 false _ A3.out).mono ?_);rintro e w' ⟨rfl,⟨nd,rfl⟩⟩;refine ⟨_,rfl,?_⟩))
  go_ret2
  exact ⟨by first|rfl|(simp;done)|(simp [*];done),by repeat (first|exact Drawn0.refl _|apply Drawn0.step)⟩
end Go.Proofs.YtncdiodnbkhacaaDoor.Pq
end
section
namespace Go.Proofs.YtncdiodnbkhacaaDoor.Pq
open Go.RowKit Go.Proofs.YtncdiodnbkhacaaDoorW.PrintWords Go.Proofs.YtncdiodnbkhacaaDoorW.PrintLast Go.Proofs.YtncdiodnbkhacaaDoorW.PrintMore
attribute [local go_sem] max2_int min2_int max_two min_two max_three min_three max_four min_four
set_option linter.unusedVariables false
set_option linter.unusedSimpArgs false
set_option maxHeartbeats 8000000 in
set_option maxRecDepth 100000 in
theorem strings_CutPrefix.calls (a0 : ByteArray) (a1 : ByteArray) (r1 : ByteArray) (r2 : Bool) (w : World) (h : strings_CutPrefix.f a0 a1=some (r1,r2)) :
  Calls Tryd.prog 25 #[.string a0,.string a1] w fun e w'=>e=.returned (.tuple #[.string r1,.bool r2])∧Drawn0 w w':=by
 have H : ((stringslite_CutPrefix.f a0 a1).bind fun bt295=>(some (bt295.1,bt295.2)))=some (r1,r2):=h
 clear h
 replace H:=Option.bind_eq_some_iff.mp H
 obtain ⟨⟨t295,t296⟩,A30,H⟩:=H
 try dsimp only at H
 have A3:=Aside0.mk A30
 clear A30
 simp only [Option.some.injEq,Prod.mk.injEq] at H
 obtain ⟨rfl,rfl⟩:=H
 go_enter Tryd.func25,Tryd.ntmps25
 go_wp2_with (first|((with_reducible refine gate_callee (f:=51) rfl ?_);refine goesL_ (some 8) rfl rfl Tryd.func51 (by kernel_rfl) rfl #[.string a0,.string a1] rfl (by (try simp only [List.map_toArray,List.map_cons,List.map_nil]);first|done|rfl) ?_;(with_reducible refine (stringslite_CutPrefix.calls a0 a1 t295 t296 _ A3.out).mono ?_);rintro e w' ⟨rfl,⟨nd,rfl⟩⟩;refine ⟨_,rfl,?_⟩))
 go_ret2
 exact ⟨by first|rfl|(simp;done)|(simp [*];done),by repeat (first|exact Drawn0.refl _|apply Drawn0.step)⟩
theorem strings_Repeat.n_eq (l : List UInt8) : ∀ n,strings_Repeat.n l n=Go.Lib.repeatL l n
|0=>rfl
|n+1=>by
  show l++strings_Repeat.n l n=_
  rw [strings_Repeat.n_eq l n]
  rfl
theorem strings_Repeat.calls (a0 : ByteArray) (a1 : Int) (r : ByteArray) (w : World) (h : strings_Repeat.f a0 a1=some r) :
  Calls Tryd.prog 27 #[.string a0,.int .i64 a1] w fun e w'=>e=.returned (.string r)∧Below w.heap.size w w':=by
 unfold strings_Repeat.f at h
 by_cases hc : 0≤a1∧a1≤9223372036854775807∧a0.size * a1.toNat≤140737488355328
 ·rw [if_pos hc] at h
  obtain rfl:=Option.some.inj h
  obtain ⟨n,rfl⟩:=Int.eq_ofNat_of_zero_le hc.1
  rw [Int.toNat_natCast] at hc ⊢
  rw [strings_Repeat.n_eq]
  exact Go.Proofs.Any.strings_Repeat Go.Proofs.Tryd.lays105 Go.Proofs.Tryd.Builder_Extra_105 a0 n w (by omega) hc.2.2
 ·rw [if_neg hc] at h
  cases h
end Go.Proofs.YtncdiodnbkhacaaDoor.Pq
end
section
namespace Go.Proofs.YtncdiodnbkhacaaDoor.Pq
open Go.RowKit Go.Proofs.YtncdiodnbkhacaaDoorW.PrintWords Go.Proofs.YtncdiodnbkhacaaDoorW.PrintLast Go.Proofs.YtncdiodnbkhacaaDoorW.PrintMore
attribute [local go_sem] max2_int min2_int max_two min_two max_three min_three max_four min_four
set_option linter.unusedVariables false
set_option linter.unusedSimpArgs false
theorem decimal_Parse.mono_l : ∀ k,(∀ y0 y1 y2 y3 y4 y5 y6,LeO (decimal_Parse.j1 k y0 y1 y2 y3 y4 y5 y6) (decimal_Parse.j1 (k+1) y0 y1 y2 y3 y4 y5 y6))∧(∀ y0 y1 y2 y3 y4 y5 y6 y7 y8,LeO (decimal_Parse.j0 k y0 y1 y2 y3 y4 y5 y6 y7 y8) (decimal_Parse.j0 (k+1) y0 y1 y2 y3 y4 y5 y6 y7 y8))
|0=>⟨fun _ _ _ _ _ _ _ r h=>by simp [decimal_Parse.j1] at h,fun _ _ _ _ _ _ _ _ _ r h=>by simp [decimal_Parse.j0] at h⟩
|k+1=>by
  obtain ⟨ih0,ih1⟩:=decimal_Parse.mono_l k
  refine ⟨?_,?_⟩
  ·intro y0 y1 y2 y3 y4 y5 y6
   unfold decimal_Parse.j1
   with_reducible repeat' first
  |exact ih0 _ _ _ _ _ _ _
  |exact ih1 _ _ _ _ _ _ _ _ _
  |exact decimal_number.mono _ _
  |exact rat_Of.mono _ _ _
  |exact rat_Read.mono _ _ _ _
  |exact LeO.refl _
  |exact LeO.none _
  |refine LeO.ite ?_ ?_
  |refine LeO.bind ?_ (fun _=>?_)
  ·intro y0 y1 y2 y3 y4 y5 y6 y7 y8
   unfold decimal_Parse.j0
   with_reducible repeat' first
  |exact ih0 _ _ _ _ _ _ _
  |exact ih1 _ _ _ _ _ _ _ _ _
  |exact decimal_number.mono _ _
  |exact rat_Of.mono _ _ _
  |exact rat_Read.mono _ _ _ _
  |exact LeO.refl _
  |exact LeO.none _
  |refine LeO.ite ?_ ?_
  |refine LeO.bind ?_ (fun _=>?_)
theorem decimal_Parse.mono : ∀ a0 k,LeO (decimal_Parse.f k a0) (decimal_Parse.f (k+1) a0):=by
 intro a0 k
 obtain ⟨ih0,ih1⟩:=decimal_Parse.mono_l k
 unfold decimal_Parse.f
 with_reducible repeat' first
  |exact ih0 _ _ _ _ _ _ _
  |exact ih1 _ _ _ _ _ _ _ _ _
  |exact decimal_number.mono _ _
  |exact rat_Of.mono _ _ _
  |exact rat_Read.mono _ _ _ _
  |exact LeO.refl _
  |exact LeO.none _
  |refine LeO.ite ?_ ?_
  |refine LeO.bind ?_ (fun _=>?_)
set_option maxHeartbeats 8000000 in
set_option maxRecDepth 100000 in
theorem decimal_Parse.calls (k : Nat) (a0 : ByteArray) (r1 : Bool) (r2 : List Int) (r3 : List Int) (r4 : Int) (w : World) (h : decimal_Parse.f k a0=some (r1,r2,r3,r4)) :
  Calls Tryd.prog 9 #[.string a0] w fun e w'=>∃ v1_ v2_ : Value,e=.returned (.tuple #[.agg #[.bool r1,v1_,v2_],.int .i64 r4])∧Kd.R (Kd.int .u32) 35 w' w.heap.size (fun k_=>some k_≠(v2_ : Value).ownBlock) v1_ r2∧Kd.R (Kd.int .u32) 35 w' w.heap.size (fun k_=>some k_≠(v1_ : Value).ownBlock) v2_ r3∧Below w.heap.size w w':=by
 have hu25:=Tryd.underlying25
 have HB:=Aside0.mk (Below.refl w.heap.size w)
 have H : ((rat_Of.f k 0 1).bind fun bt375=>(if (a0.size : Int) > 20000 then (some (bt375.1,bt375.2.1,bt375.2.2,41)) else ((strings_CutPrefix.f a0 (⟨#[45]⟩ : ByteArray)).bind fun bt383=>((decimal_digits.f bt383.1).bind fun t385=>(if 0≤t385 then (if t385≤(bt383.1.size : Int) then (if (bt383.1.extract (t385 : Int).toNat bt383.1.size).toList=([] : List UInt8) then (decimal_Parse.j1 k bt383.2 t385 (bt383.1.extract 0 (t385 : Int).toNat) (⟨#[49]⟩ : ByteArray) bt375.1 bt375.2.1 bt375.2.2) else (if 1≤((bt383.1.extract (t385 : Int).toNat bt383.1.size).size : Int) then ((decimal_digits.f ((bt383.1.extract (t385 : Int).toNat bt383.1.size).extract 1 (bt383.1.extract (t385 : Int).toNat bt383.1.size).size)).bind fun t386=>(if t386=0 then (decimal_Parse.j0 k bt383.2 t385 (bt383.1.extract 0 (t385 : Int).toNat) (bt383.1.extract (t385 : Int).toNat bt383.1.size) ((bt383.1.extract (t385 : Int).toNat bt383.1.size).extract 1 (bt383.1.extract (t385 : Int).toNat bt383.1.size).size) true bt375.1 bt375.2.1 bt375.2.2) else (if t386 < (((bt383.1.extract (t385 : Int).toNat bt383.1.size).extract 1 (bt383.1.extract (t385 : Int).toNat bt383.1.size).size).size : Int) then (decimal_Parse.j0 k bt383.2 t385 (bt383.1.extract 0 (t385 : Int).toNat) (bt383.1.extract (t385 : Int).toNat bt383.1.size) ((bt383.1.extract (t385 : Int).toNat bt383.1.size).extract 1 (bt383.1.extract (t385 : Int).toNat bt383.1.size).size) true bt375.1 bt375.2.1 bt375.2.2) else (if 0 < ((bt383.1.extract (t385 : Int).toNat bt383.1.size).size : Int) then (if (bt (bt383.1.extract (t385 : Int).toNat bt383.1.size) 0)=46 then (decimal_Parse.j0 k bt383.2 t385 (bt383.1.extract 0 (t385 : Int).toNat) (bt383.1.extract (t385 : Int).toNat bt383.1.size) ((bt383.1.extract (t385 : Int).toNat bt383.1.size).extract 1 (bt383.1.extract (t385 : Int).toNat bt383.1.size).size) false bt375.1 bt375.2.1 bt375.2.2) else (decimal_Parse.j0 k bt383.2 t385 (bt383.1.extract 0 (t385 : Int).toNat) (bt383.1.extract (t385 : Int).toNat bt383.1.size) ((bt383.1.extract (t385 : Int).toNat bt383.1.size).extract 1 (bt383.1.extract (t385 : Int).toNat bt383.1.size).size) ((bt (bt383.1.extract (t385 : Int).toNat bt383.1.size) 0) != 47) bt375.1 bt375.2.1 bt375.2.2)) else (none))))) else (none))) else (none)) else (none))))))=some (r1,r2,r3,r4):=h
 clear h
 replace H:=Option.bind_eq_some_iff.mp H
 obtain ⟨⟨t375,t376,t379⟩,A20,H⟩:=H
 try dsimp only at H
 have A2:=Aside0.mk A20
 clear A20
 by_cases c3 : (a0.size : Int) > 20000
 ·rw [if_pos c3] at H
  have c3b0 : decide (20000 < (a0.size : Int))=true:=decide_eq_true c3
  have c3b1 : decide (20000 < a0.size)=true:=decide_eq_true (by omega)
  clear c3
  simp only [Option.some.injEq,Prod.mk.injEq] at H
  obtain ⟨rfl,rfl,rfl,rfl⟩:=H
  go_enter Tryd.func9,Tryd.ntmps9
  go_wp2_with (first|((with_reducible refine gate_dst (N:=2) rfl ?_);(try (refine gate_guard (by rfl) ?_;dsimp only));refine box_event ?hg (N:=2) ?hd (cs:=#[.bool false,.slice none 0 0,.slice none 0 0]) (t:=25) ?hr ?_;(case hd=>rfl);(case hg=>rfl);(case hr=>first|(go_simp;done)|(go_simp;(with_reducible rfl))|(go_simp;rfl)|(go_simp;simp only [hu,Int.emod_sub_emod]));intro gb374 hg w4 hbox hb;have n0_:=Aside0.mk (below_step (Hu HB.out) hb);have n1_:=Aside0.mk (hbox);have n2_:=Aside0.mk ((by rw [hg];exact (below_size (Hu HB.out)) : w.heap.size≤gb374));have n3_:=Aside0.mk ((by rw [hg];exact (below_size (Hu HB.out)) : w.heap.size≤gb374));clear HB;have HB:=n0_;have BK374:=n1_;have GW374:=n2_;have GE374:=n3_;clear n0_ n1_ n2_ n3_;clear hb hbox hg)|(go_at_call 24;(with_reducible refine (rat_Of.calls k 0 1 t375 t376 t379 _ A2.out).mono ?_);rintro e w5 ⟨v377,v380,rfl,ho0,ho1,hb⟩;have n0_:=Aside0.mk (Kd.R_lower ho0 (below_size (by repeat (with_reducible first|exact HB.out|apply ba|apply bn|apply b1|refine below_set ?_ GE374.out))));have n1_:=Aside0.mk (Kd.R_lower ho1 (below_size (by repeat (with_reducible first|exact HB.out|apply ba|apply bn|apply b1|refine below_set ?_ GE374.out))));have n2_:=Aside0.mk (blk_below (g:=gb374) (o:=.cells #[.bool false,.slice none 0 0,.slice none 0 0] 25 (0,0)) (Bu BK374.out) hb);have n3_:=Aside0.mk (below_step (by repeat (with_reducible first|exact HB.out|apply ba|apply bn|apply b1|refine below_set ?_ GE374.out)) hb);clear BK374;clear HB;have HO378:=n0_;have HO381:=n1_;have BK374:=n2_;have HB:=n3_;clear n0_ n1_ n2_ n3_)|((with_reducible refine gate_dst (N:=4) rfl ?_);(try (refine gate_guard (by rfl) ?_;dsimp only));refine box_event ?hg (N:=4) ?hd (cs:=#[.bool false,.slice none 0 0,.slice none 0 0]) (t:=25) ?hr ?_;(case hd=>rfl);(case hg=>rfl);(case hr=>first|(go_simp;done)|(go_simp;(with_reducible rfl))|(go_simp;rfl)|(go_simp;simp only [hu,Int.emod_sub_emod]));intro gb382 hg w6 hbox hb;have n0_:=Aside0.mk (Kd.R_below (Ru HO378.out) hb);have n1_:=Aside0.mk (Kd.R_below (Ru HO381.out) hb);have n2_:=Aside0.mk (blk_below (g:=gb374) (o:=.cells #[.bool false,.slice none 0 0,.slice none 0 0] 25 (0,0)) (Bu BK374.out) hb);have n3_:=Aside0.mk (below_step (by repeat (with_reducible first|exact HB.out|apply ba|apply bn|apply b1|refine below_set ?_ GE374.out)) hb);have n4_:=Aside0.mk (hbox);have n5_:=Aside0.mk ((by rw [hg];exact (below_size (by repeat (with_reducible first|exact HB.out|apply ba|apply bn|apply b1|refine below_set ?_ GE374.out))) : w.heap.size≤gb382));have n6_:=Aside0.mk ((by rw [hg];exact (below_size (by repeat (with_reducible first|exact HB.out|apply ba|apply bn|apply b1|refine below_set ?_ GE374.out))) : w.heap.size≤gb382));have n7_:=Aside0.mk ((by rw [hg];exact Nat.ne_of_lt (blk_lt (g:=gb374) (o:=.cells #[.bool false,.slice none 0 0,.slice none 0 0] 25 (0,0)) (Bu BK374.out)) : gb374≠gb382));have n8_:=Aside0.mk ((by rw [hg];exact Nat.ne_of_gt (blk_lt (g:=gb374) (o:=.cells #[.bool false,.slice none 0 0,.slice none 0 0] 25 (0,0)) (Bu BK374.out)) : gb382≠gb374));clear HO378;clear HO381;clear BK374;clear HB;have HO378:=n0_;have HO381:=n1_;have BK374:=n2_;have HB:=n3_;have BK382:=n4_;have GW382:=n5_;have GE382:=n6_;have NB374_382:=n7_;have NB382_374:=n8_;clear n0_ n1_ n2_ n3_ n4_ n5_ n6_ n7_ n8_;clear hb hbox hg;have hnb7:=NB382_374.out;have hnc7:=NB374_382.out;have hcz8_0 : w6.cell? ⟨gb382,0,none⟩=some (.bool false):=(blk_cell BK382.out 0).trans rfl;have hcz8_1 : w6.cell? ⟨gb382,1,none⟩=some (.slice none 0 0):=(blk_cell BK382.out 1).trans rfl;have hcz8_2 : w6.cell? ⟨gb382,2,none⟩=some (.slice none 0 0):=(blk_cell BK382.out 2).trans rfl;have hfz8_0:=blk_frozen BK382.out 0;have hfz8_1:=blk_frozen BK382.out 1;have hfz8_2:=blk_frozen BK382.out 2;obtain ⟨Ao9,co9,eo9⟩:=Kd.R_slice HO378.out;subst eo9;obtain ⟨Ao10,co10,eo10⟩:=Kd.R_slice HO381.out;subst eo10;have hcz11_0 : w6.cell? ⟨gb374,0,none⟩=some (.bool false):=(blk_cell BK374.out 0).trans rfl;have hcz11_1 : w6.cell? ⟨gb374,1,none⟩=some (.slice none 0 0):=(blk_cell BK374.out 1).trans rfl;have hcz11_2 : w6.cell? ⟨gb374,2,none⟩=some (.slice none 0 0):=(blk_cell BK374.out 2).trans rfl;have hfz11_0:=blk_frozen BK374.out 0;have hfz11_1:=blk_frozen BK374.out 1;have hfz11_2:=blk_frozen BK374.out 2))
  refine bodyPost_ret (results_ct rfl _ _ gb374 25 #[.bool t375,.slice Ao9 t376.length co9,.slice Ao10 t379.length co10] (0,0) _ rfl (by (with_reducible repeat (first|refine blk_drewN ?_ _|refine blk_drew ?_|refine blk_alloc ?_ _));refine blk_put (cs:=#[.bool t375,.slice Ao9 t376.length co9,.slice none 0 0]) ?_ 2 _ rfl;(with_reducible repeat (first|refine blk_drewN ?_ _|refine blk_drew ?_|refine blk_alloc ?_ _));refine blk_put (cs:=#[.bool t375,.slice none 0 0,.slice none 0 0]) ?_ 1 _ rfl;(with_reducible repeat (first|refine blk_drewN ?_ _|refine blk_drew ?_|refine blk_alloc ?_ _));refine blk_put (cs:=#[.bool false,.slice none 0 0,.slice none 0 0]) ?_ 0 _ rfl;(with_reducible repeat (first|refine blk_drewN ?_ _|refine blk_drew ?_|refine blk_alloc ?_ _));refine blk_far ?_ NB374_382.out _;(with_reducible repeat (first|refine blk_drewN ?_ _|refine blk_drew ?_|refine blk_alloc ?_ _));refine blk_far ?_ NB374_382.out _;(with_reducible repeat (first|refine blk_drewN ?_ _|refine blk_drew ?_|refine blk_alloc ?_ _));refine blk_far ?_ NB374_382.out _;(with_reducible repeat (first|refine blk_drewN ?_ _|refine blk_drew ?_|refine blk_alloc ?_ _));exact BK374.out) Tryd.underlying25 rfl (by kernel_rfl)) rfl ?_
  exact ⟨_,_,by first|rfl|(simp [errW_none,errW_some] <;> rfl)|(simp [*,errW_none,errW_some] <;> rfl),by (with_reducible repeat (first|apply Ra|apply Rn|apply Rd));exact Kd.R_mono (Kd.R_far (p:=⟨gb374,2,none⟩) (Kd.R_far (p:=⟨gb374,1,none⟩) (Kd.R_far (p:=⟨gb374,0,none⟩) (Kd.R_far (p:=⟨gb382,2,none⟩) (Kd.R_far (p:=⟨gb382,1,none⟩) (Kd.R_far (p:=⟨gb382,0,none⟩) (Kd.R_types (Kd.R_types HO378.out BK382.out (by decide)) BK374.out (by decide)) (fun _ hk=>hk.1.2) (.bool t375)) (fun _ hk=>hk.1.2) (.slice Ao9 t376.length co9)) (fun _ hk=>hk.1.2) (.slice Ao10 t379.length co10)) (fun _ hk=>hk.2) (.bool t375)) (fun _ hk=>hk.2) (.slice Ao9 t376.length co9)) (fun _ hk=>hk.2) (.slice Ao10 t379.length co10)) (fun _ hk=>hk.1.1),by (with_reducible repeat (first|apply Ra|apply Rn|apply Rd));exact Kd.R_mono (Kd.R_far (p:=⟨gb374,2,none⟩) (Kd.R_far (p:=⟨gb374,1,none⟩) (Kd.R_far (p:=⟨gb374,0,none⟩) (Kd.R_far (p:=⟨gb382,2,none⟩) (Kd.R_far (p:=⟨gb382,1,none⟩) (Kd.R_far (p:=⟨gb382,0,none⟩) (Kd.R_types (Kd.R_types HO381.out BK382.out (by decide)) BK374.out (by decide)) (fun _ hk=>hk.1.2) (.bool t375)) (fun _ hk=>hk.1.2) (.slice Ao9 t376.length co9)) (fun _ hk=>hk.1.2) (.slice Ao10 t379.length co10)) (fun _ hk=>hk.2) (.bool t375)) (fun _ hk=>hk.2) (.slice Ao9 t376.length co9)) (fun _ hk=>hk.2) (.slice Ao10 t379.length co10)) (fun _ hk=>hk.1.1),by repeat (with_reducible first|exact HB.out|apply ba|apply bn|apply b1|refine below_set ?_ GE374.out|refine below_set ?_ GE382.out)⟩
 ·rw [if_neg c3] at H
  have c3b0 : decide (20000 < (a0.size : Int))=false:=decide_eq_false c3
  have c3b1 : decide (20000 < a0.size)=false:=decide_eq_false (by omega)
  clear c3
  replace H:=Option.bind_eq_some_iff.mp H
  obtain ⟨⟨t383,t384⟩,A120,H⟩:=H
  try dsimp only at H
  have A12:=Aside0.mk A120
  clear A120
  replace H:=Option.bind_eq_some_iff.mp H
  obtain ⟨t385,A130,H⟩:=H
  try dsimp only at H
  have A13:=Aside0.mk A130
  clear A130
  by_cases c14 : 0≤t385
  case neg =>rw [if_neg c14] at H;exact absurd H (by simp)
  rw [if_pos c14] at H
  have c14b0:=eq_true c14
  have c14b1 : decide (0≤t385)=true:=decide_eq_true c14
  clear c14
  by_cases c15 : t385≤(t383.size : Int)
  case neg =>rw [if_neg c15] at H;exact absurd H (by simp)
  rw [if_pos c15] at H
  have c15b0:=eq_true c15
  have c15b1 : decide (t385≤(t383.size : Int))=true:=decide_eq_true c15
  clear c15
  have c16b0:=eq_true (of_decide_eq_true (by assumption) : 0≤t385)
  have c17b0:=eq_true (of_decide_eq_true (by assumption) : t385≤(t383.size : Int))
  have HC18:=Aside0.mk H
  clear H
  go_enter Tryd.func9,Tryd.ntmps9
  go_upto_if 33 with (first|((with_reducible refine gate_dst (N:=2) rfl ?_);(try (refine gate_guard (by rfl) ?_;dsimp only));refine box_event ?hg (N:=2) ?hd (cs:=#[.bool false,.slice none 0 0,.slice none 0 0]) (t:=25) ?hr ?_;(case hd=>rfl);(case hg=>rfl);(case hr=>first|(go_simp;done)|(go_simp;(with_reducible rfl))|(go_simp;rfl)|(go_simp;simp only [hu,Int.emod_sub_emod]));intro gb374 hg w19 hbox hb;have n0_:=Aside0.mk (below_step (Hu HB.out) hb);have n1_:=Aside0.mk (hbox);have n2_:=Aside0.mk ((by rw [hg];exact (below_size (Hu HB.out)) : w.heap.size≤gb374));have n3_:=Aside0.mk ((by rw [hg];exact (below_size (Hu HB.out)) : w.heap.size≤gb374));clear HB;have HB:=n0_;have BK374:=n1_;have GW374:=n2_;have GE374:=n3_;clear n0_ n1_ n2_ n3_;clear hb hbox hg)|(go_at_call 24;(with_reducible refine (rat_Of.calls k 0 1 t375 t376 t379 _ A2.out).mono ?_);rintro e w20 ⟨v377,v380,rfl,ho0,ho1,hb⟩;have n0_:=Aside0.mk (Kd.R_lower ho0 (below_size (by repeat (with_reducible first|exact HB.out|apply ba|apply bn|apply b1|refine below_set ?_ GE374.out))));have n1_:=Aside0.mk (Kd.R_lower ho1 (below_size (by repeat (with_reducible first|exact HB.out|apply ba|apply bn|apply b1|refine below_set ?_ GE374.out))));have n2_:=Aside0.mk (blk_below (g:=gb374) (o:=.cells #[.bool false,.slice none 0 0,.slice none 0 0] 25 (0,0)) (Bu BK374.out) hb);have n3_:=Aside0.mk (below_step (by repeat (with_reducible first|exact HB.out|apply ba|apply bn|apply b1|refine below_set ?_ GE374.out)) hb);clear BK374;clear HB;have HO378:=n0_;have HO381:=n1_;have BK374:=n2_;have HB:=n3_;clear n0_ n1_ n2_ n3_)|((with_reducible refine gate_dst (N:=4) rfl ?_);(try (refine gate_guard (by rfl) ?_;dsimp only));refine box_event ?hg (N:=4) ?hd (cs:=#[.bool false,.slice none 0 0,.slice none 0 0]) (t:=25) ?hr ?_;(case hd=>rfl);(case hg=>rfl);(case hr=>first|(go_simp;done)|(go_simp;(with_reducible rfl))|(go_simp;rfl)|(go_simp;simp only [hu,Int.emod_sub_emod]));intro gb382 hg w21 hbox hb;have n0_:=Aside0.mk (Kd.R_below (Ru HO378.out) hb);have n1_:=Aside0.mk (Kd.R_below (Ru HO381.out) hb);have n2_:=Aside0.mk (blk_below (g:=gb374) (o:=.cells #[.bool false,.slice none 0 0,.slice none 0 0] 25 (0,0)) (Bu BK374.out) hb);have n3_:=Aside0.mk (below_step (by repeat (with_reducible first|exact HB.out|apply ba|apply bn|apply b1|refine below_set ?_ GE374.out)) hb);have n4_:=Aside0.mk (hbox);have n5_:=Aside0.mk ((by rw [hg];exact (below_size (by repeat (with_reducible first|exact HB.out|apply ba|apply bn|apply b1|refine below_set ?_ GE374.out))) : w.heap.size≤gb382));have n6_:=Aside0.mk ((by rw [hg];exact (below_size (by repeat (with_reducible first|exact HB.out|apply ba|apply bn|apply b1|refine below_set ?_ GE374.out))) : w.heap.size≤gb382));have n7_:=Aside0.mk ((by rw [hg];exact Nat.ne_of_lt (blk_lt (g:=gb374) (o:=.cells #[.bool false,.slice none 0 0,.slice none 0 0] 25 (0,0)) (Bu BK374.out)) : gb374≠gb382));have n8_:=Aside0.mk ((by rw [hg];exact Nat.ne_of_gt (blk_lt (g:=gb374) (o:=.cells #[.bool false,.slice none 0 0,.slice none 0 0] 25 (0,0)) (Bu BK374.out)) : gb382≠gb374));clear HO378;clear HO381;clear BK374;clear HB;have HO378:=n0_;have HO381:=n1_;have BK374:=n2_;have HB:=n3_;have BK382:=n4_;have GW382:=n5_;have GE382:=n6_;have NB374_382:=n7_;have NB382_374:=n8_;clear n0_ n1_ n2_ n3_ n4_ n5_ n6_ n7_ n8_;clear hb hbox hg;have hnb22:=NB382_374.out;have hnc22:=NB374_382.out;have hcz23_0 : w21.cell? ⟨gb382,0,none⟩=some (.bool false):=(blk_cell BK382.out 0).trans rfl;have hcz23_1 : w21.cell? ⟨gb382,1,none⟩=some (.slice none 0 0):=(blk_cell BK382.out 1).trans rfl;have hcz23_2 : w21.cell? ⟨gb382,2,none⟩=some (.slice none 0 0):=(blk_cell BK382.out 2).trans rfl;have hfz23_0:=blk_frozen BK382.out 0;have hfz23_1:=blk_frozen BK382.out 1;have hfz23_2:=blk_frozen BK382.out 2;obtain ⟨Ao24,co24,eo24⟩:=Kd.R_slice HO378.out;subst eo24;obtain ⟨Ao25,co25,eo25⟩:=Kd.R_slice HO381.out;subst eo25)|(go_at_call 25;(with_reducible refine (strings_CutPrefix.calls a0 (⟨#[45]⟩ : ByteArray) t383 t384 _ A12.out).mono ?_);rintro e w' ⟨rfl,⟨nd,rfl⟩⟩;(try first|exact ⟨rfl,_,World.drewN_drewN _ _ _⟩|exact ⟨rfl,_,Eq.trans (World.drewN_drewN _ _ _) (congrArg (World.drewN _) (Nat.add_assoc _ _ _))⟩))|(go_at_call 26;(with_reducible refine (decimal_digits.calls t383 t385 _ A13.out).mono ?_);rintro e w26 ⟨rfl,hb⟩;have n0_:=Aside0.mk (Kd.R_below (by (with_reducible repeat (first|apply Ra|apply Rn|apply Rd));exact (Kd.R_mono (Kd.R_far (p:=⟨gb382,2,none⟩) (Kd.R_far (p:=⟨gb382,1,none⟩) (Kd.R_far (p:=⟨gb382,0,none⟩) (Kd.R_types HO378.out BK382.out (by decide)) (fun _ hk=>hk.2) (.bool t375)) (fun _ hk=>hk.2) (.slice Ao24 t376.length co24)) (fun _ hk=>hk.2) (.slice Ao25 t379.length co25)) (fun _ h_=>h_.1))) hb);have n1_:=Aside0.mk (Kd.R_below (by (with_reducible repeat (first|apply Ra|apply Rn|apply Rd));exact (Kd.R_mono (Kd.R_far (p:=⟨gb382,2,none⟩) (Kd.R_far (p:=⟨gb382,1,none⟩) (Kd.R_far (p:=⟨gb382,0,none⟩) (Kd.R_types HO381.out BK382.out (by decide)) (fun _ hk=>hk.2) (.bool t375)) (fun _ hk=>hk.2) (.slice Ao24 t376.length co24)) (fun _ hk=>hk.2) (.slice Ao25 t379.length co25)) (fun _ h_=>h_.1))) hb);have n2_:=Aside0.mk (blk_below (g:=gb374) (o:=.cells #[.bool false,.slice none 0 0,.slice none 0 0] 25 (0,0)) (by (with_reducible repeat (first|refine blk_drewN ?_ _|refine blk_drew ?_|refine blk_alloc ?_ _));refine blk_far ?_ NB374_382.out _;(with_reducible repeat (first|refine blk_drewN ?_ _|refine blk_drew ?_|refine blk_alloc ?_ _));refine blk_far ?_ NB374_382.out _;(with_reducible repeat (first|refine blk_drewN ?_ _|refine blk_drew ?_|refine blk_alloc ?_ _));refine blk_far ?_ NB374_382.out _;(with_reducible repeat (first|refine blk_drewN ?_ _|refine blk_drew ?_|refine blk_alloc ?_ _));exact BK374.out) hb);have n3_:=Aside0.mk (blk_below (g:=gb382) (o:=.cells #[.bool t375,.slice Ao24 t376.length co24,.slice Ao25 t379.length co25] 25 (0,0)) (by (with_reducible repeat (first|refine blk_drewN ?_ _|refine blk_drew ?_|refine blk_alloc ?_ _));refine blk_put (cs:=#[.bool t375,.slice Ao24 t376.length co24,.slice none 0 0]) ?_ 2 _ rfl;(with_reducible repeat (first|refine blk_drewN ?_ _|refine blk_drew ?_|refine blk_alloc ?_ _));refine blk_put (cs:=#[.bool t375,.slice none 0 0,.slice none 0 0]) ?_ 1 _ rfl;(with_reducible repeat (first|refine blk_drewN ?_ _|refine blk_drew ?_|refine blk_alloc ?_ _));refine blk_put (cs:=#[.bool false,.slice none 0 0,.slice none 0 0]) ?_ 0 _ rfl;(with_reducible repeat (first|refine blk_drewN ?_ _|refine blk_drew ?_|refine blk_alloc ?_ _));exact BK382.out) hb);have n4_:=Aside0.mk (below_step (by repeat (with_reducible first|exact HB.out|apply ba|apply bn|apply b1|refine below_set ?_ GE374.out|refine below_set ?_ GE382.out)) hb);clear HO378;clear HO381;clear BK374;clear BK382;clear HB;have HO378:=n0_;have HO381:=n1_;have BK374:=n2_;have BK382:=n3_;have HB:=n4_;clear n0_ n1_ n2_ n3_ n4_))
  repeat (go_quiet (first|((with_reducible refine gate_dst (N:=2) rfl ?_);(try (refine gate_guard (by rfl) ?_;dsimp only));refine box_event ?hg (N:=2) ?hd (cs:=#[.bool false,.slice none 0 0,.slice none 0 0]) (t:=25) ?hr ?_;(case hd=>rfl);(case hg=>rfl);(case hr=>first|(go_simp;done)|(go_simp;(with_reducible rfl))|(go_simp;rfl)|(go_simp;have hu_ : ∀ x : Int,IntKind.u32.wrap x=HMod.hMod x (4294967296 : Int):=(fun x=>by simp only [IntKind.wrap,IntKind.bits,IntKind.signed];simp);simp only [hu_,Int.emod_sub_emod]));intro gb374 hg w19 hbox hb;have n0_:=Aside0.mk (below_step (by repeat (with_reducible first|exact HB.out|apply ba|apply bn|apply b1)) hb);have n1_:=Aside0.mk (hbox);have n2_:=Aside0.mk ((by rw [hg];exact (below_size (by repeat (with_reducible first|exact HB.out|apply ba|apply bn|apply b1))) : w.heap.size≤gb374));have n3_:=Aside0.mk ((by rw [hg];exact (below_size (by repeat (with_reducible first|exact HB.out|apply ba|apply bn|apply b1))) : w.heap.size≤gb374));clear HB;have HB:=n0_;have BK374:=n1_;have GW374:=n2_;have GE374:=n3_;clear n0_ n1_ n2_ n3_;clear hb hbox hg)|(go_at_call 24;(with_reducible refine (rat_Of.calls k 0 1 t375 t376 t379 _ A2.out).mono ?_);rintro e w20 ⟨v377,v380,rfl,ho0,ho1,hb⟩;have n0_:=Aside0.mk (Kd.R_lower ho0 (below_size (by repeat (with_reducible first|exact HB.out|apply ba|apply bn|apply b1|refine below_set ?_ GE374.out))));have n1_:=Aside0.mk (Kd.R_lower ho1 (below_size (by repeat (with_reducible first|exact HB.out|apply ba|apply bn|apply b1|refine below_set ?_ GE374.out))));have n2_:=Aside0.mk (blk_below (g:=gb374) (o:=.cells #[.bool false,.slice none 0 0,.slice none 0 0] 25 (0,0)) (by (with_reducible repeat (first|refine blk_drewN ?_ _|refine blk_drew ?_|refine blk_alloc ?_ _));exact BK374.out) hb);have n3_:=Aside0.mk (below_step (by repeat (with_reducible first|exact HB.out|apply ba|apply bn|apply b1|refine below_set ?_ GE374.out)) hb);clear BK374;clear HB;have HO378:=n0_;have HO381:=n1_;have BK374:=n2_;have HB:=n3_;clear n0_ n1_ n2_ n3_)|((with_reducible refine gate_dst (N:=4) rfl ?_);(try (refine gate_guard (by rfl) ?_;dsimp only));refine box_event ?hg (N:=4) ?hd (cs:=#[.bool false,.slice none 0 0,.slice none 0 0]) (t:=25) ?hr ?_;(case hd=>rfl);(case hg=>rfl);(case hr=>first|(go_simp;done)|(go_simp;(with_reducible rfl))|(go_simp;rfl)|(go_simp;have hu_ : ∀ x : Int,IntKind.u32.wrap x=HMod.hMod x (4294967296 : Int):=(fun x=>by simp only [IntKind.wrap,IntKind.bits,IntKind.signed];simp);simp only [hu_,Int.emod_sub_emod]));intro gb382 hg w21 hbox hb;have n0_:=Aside0.mk (Kd.R_below (by (with_reducible repeat (first|apply Ra|apply Rn|apply Rd));exact HO378.out) hb);have n1_:=Aside0.mk (Kd.R_below (by (with_reducible repeat (first|apply Ra|apply Rn|apply Rd));exact HO381.out) hb);have n2_:=Aside0.mk (blk_below (g:=gb374) (o:=.cells #[.bool false,.slice none 0 0,.slice none 0 0] 25 (0,0)) (by (with_reducible repeat (first|refine blk_drewN ?_ _|refine blk_drew ?_|refine blk_alloc ?_ _));exact BK374.out) hb);have n3_:=Aside0.mk (below_step (by repeat (with_reducible first|exact HB.out|apply ba|apply bn|apply b1|refine below_set ?_ GE374.out)) hb);have n4_:=Aside0.mk (hbox);have n5_:=Aside0.mk ((by rw [hg];exact (below_size (by repeat (with_reducible first|exact HB.out|apply ba|apply bn|apply b1|refine below_set ?_ GE374.out))) : w.heap.size≤gb382));have n6_:=Aside0.mk ((by rw [hg];exact (below_size (by repeat (with_reducible first|exact HB.out|apply ba|apply bn|apply b1|refine below_set ?_ GE374.out))) : w.heap.size≤gb382));have n7_:=Aside0.mk ((by rw [hg];exact Nat.ne_of_lt (blk_lt (g:=gb374) (o:=.cells #[.bool false,.slice none 0 0,.slice none 0 0] 25 (0,0)) (by (with_reducible repeat (first|refine blk_drewN ?_ _|refine blk_drew ?_|refine blk_alloc ?_ _));exact BK374.out)) : gb374≠gb382));have n8_:=Aside0.mk ((by rw [hg];exact Nat.ne_of_gt (blk_lt (g:=gb374) (o:=.cells #[.bool false,.slice none 0 0,.slice none 0 0] 25 (0,0)) (by (with_reducible repeat (first|refine blk_drewN ?_ _|refine blk_drew ?_|refine blk_alloc ?_ _));exact BK374.out)) : gb382≠gb374));clear HO378;clear HO381;clear BK374;clear HB;have HO378:=n0_;have HO381:=n1_;have BK374:=n2_;have HB:=n3_;have BK382:=n4_;have GW382:=n5_;have GE382:=n6_;have NB374_382:=n7_;have NB382_374:=n8_;clear n0_ n1_ n2_ n3_ n4_ n5_ n6_ n7_ n8_;clear hb hbox hg;have hnb22:=NB382_374.out;have hnc22:=NB374_382.out;have hcz23_0 : w21.cell? ⟨gb382,0,none⟩=some (.bool false):=(blk_cell BK382.out 0).trans rfl;have hcz23_1 : w21.cell? ⟨gb382,1,none⟩=some (.slice none 0 0):=(blk_cell BK382.out 1).trans rfl;have hcz23_2 : w21.cell? ⟨gb382,2,none⟩=some (.slice none 0 0):=(blk_cell BK382.out 2).trans rfl;have hfz23_0:=blk_frozen BK382.out 0;have hfz23_1:=blk_frozen BK382.out 1;have hfz23_2:=blk_frozen BK382.out 2;obtain ⟨Ao24,co24,eo24⟩:=Kd.R_slice HO378.out;subst eo24;obtain ⟨Ao25,co25,eo25⟩:=Kd.R_slice HO381.out;subst eo25)|(go_at_call 25;(with_reducible refine (strings_CutPrefix.calls a0 (⟨#[45]⟩ : ByteArray) t383 t384 _ A12.out).mono ?_);rintro e w' ⟨rfl,⟨nd,rfl⟩⟩;(try first|exact ⟨rfl,_,World.drewN_drewN _ _ _⟩|exact ⟨rfl,_,Eq.trans (World.drewN_drewN _ _ _) (congrArg (World.drewN _) (Nat.add_assoc _ _ _))⟩))|(go_at_call 26;(with_reducible refine (decimal_digits.calls t383 t385 _ A13.out).mono ?_);rintro e w26 ⟨rfl,hb⟩;have n0_:=Aside0.mk (Kd.R_below (by (with_reducible repeat (first|apply Ra|apply Rn|apply Rd));exact (Kd.R_mono (Kd.R_far (p:=⟨gb382,2,none⟩) (Kd.R_far (p:=⟨gb382,1,none⟩) (Kd.R_far (p:=⟨gb382,0,none⟩) (Kd.R_types HO378.out BK382.out (by decide)) (fun _ hk=>hk.2) (.bool t375)) (fun _ hk=>hk.2) (.slice Ao24 t376.length co24)) (fun _ hk=>hk.2) (.slice Ao25 t379.length co25)) (fun _ h_=>h_.1))) hb);have n1_:=Aside0.mk (Kd.R_below (by (with_reducible repeat (first|apply Ra|apply Rn|apply Rd));exact (Kd.R_mono (Kd.R_far (p:=⟨gb382,2,none⟩) (Kd.R_far (p:=⟨gb382,1,none⟩) (Kd.R_far (p:=⟨gb382,0,none⟩) (Kd.R_types HO381.out BK382.out (by decide)) (fun _ hk=>hk.2) (.bool t375)) (fun _ hk=>hk.2) (.slice Ao24 t376.length co24)) (fun _ hk=>hk.2) (.slice Ao25 t379.length co25)) (fun _ h_=>h_.1))) hb);have n2_:=Aside0.mk (blk_below (g:=gb374) (o:=.cells #[.bool false,.slice none 0 0,.slice none 0 0] 25 (0,0)) (by (with_reducible repeat (first|refine blk_drewN ?_ _|refine blk_drew ?_|refine blk_alloc ?_ _));refine blk_far ?_ NB374_382.out _;(with_reducible repeat (first|refine blk_drewN ?_ _|refine blk_drew ?_|refine blk_alloc ?_ _));refine blk_far ?_ NB374_382.out _;(with_reducible repeat (first|refine blk_drewN ?_ _|refine blk_drew ?_|refine blk_alloc ?_ _));refine blk_far ?_ NB374_382.out _;(with_reducible repeat (first|refine blk_drewN ?_ _|refine blk_drew ?_|refine blk_alloc ?_ _));exact BK374.out) hb);have n3_:=Aside0.mk (blk_below (g:=gb382) (o:=.cells #[.bool t375,.slice Ao24 t376.length co24,.slice Ao25 t379.length co25] 25 (0,0)) (by (with_reducible repeat (first|refine blk_drewN ?_ _|refine blk_drew ?_|refine blk_alloc ?_ _));refine blk_put (cs:=#[.bool t375,.slice Ao24 t376.length co24,.slice none 0 0]) ?_ 2 _ rfl;(with_reducible repeat (first|refine blk_drewN ?_ _|refine blk_drew ?_|refine blk_alloc ?_ _));refine blk_put (cs:=#[.bool t375,.slice none 0 0,.slice none 0 0]) ?_ 1 _ rfl;(with_reducible repeat (first|refine blk_drewN ?_ _|refine blk_drew ?_|refine blk_alloc ?_ _));refine blk_put (cs:=#[.bool false,.slice none 0 0,.slice none 0 0]) ?_ 0 _ rfl;(with_reducible repeat (first|refine blk_drewN ?_ _|refine blk_drew ?_|refine blk_alloc ?_ _));exact BK382.out) hb);have n4_:=Aside0.mk (below_step (by repeat (with_reducible first|exact HB.out|apply ba|apply bn|apply b1|refine below_set ?_ GE374.out|refine below_set ?_ GE382.out)) hb);clear HO378;clear HO381;clear BK374;clear BK382;clear HB;have HO378:=n0_;have HO381:=n1_;have BK374:=n2_;have BK382:=n3_;have HB:=n4_;clear n0_ n1_ n2_ n3_ n4_));go_upto_if 33 with (first|((with_reducible refine gate_dst (N:=2) rfl ?_);(try (refine gate_guard (by rfl) ?_;dsimp only));refine box_event ?hg (N:=2) ?hd (cs:=#[.bool false,.slice none 0 0,.slice none 0 0]) (t:=25) ?hr ?_;(case hd=>rfl);(case hg=>rfl);(case hr=>first|(go_simp;done)|(go_simp;(with_reducible rfl))|(go_simp;rfl)|(go_simp;have hu_ : ∀ x : Int,IntKind.u32.wrap x=HMod.hMod x (4294967296 : Int):=(fun x=>by simp only [IntKind.wrap,IntKind.bits,IntKind.signed];simp);simp only [hu_,Int.emod_sub_emod]));intro gb374 hg w19 hbox hb;have n0_:=Aside0.mk (below_step (by repeat (with_reducible first|exact HB.out|apply ba|apply bn|apply b1)) hb);have n1_:=Aside0.mk (hbox);have n2_:=Aside0.mk ((by rw [hg];exact (below_size (by repeat (with_reducible first|exact HB.out|apply ba|apply bn|apply b1))) : w.heap.size≤gb374));have n3_:=Aside0.mk ((by rw [hg];exact (below_size (by repeat (with_reducible first|exact HB.out|apply ba|apply bn|apply b1))) : w.heap.size≤gb374));clear HB;have HB:=n0_;have BK374:=n1_;have GW374:=n2_;have GE374:=n3_;clear n0_ n1_ n2_ n3_;clear hb hbox hg)|(go_at_call 24;(with_reducible refine (rat_Of.calls k 0 1 t375 t376 t379 _ A2.out).mono ?_);rintro e w20 ⟨v377,v380,rfl,ho0,ho1,hb⟩;have n0_:=Aside0.mk (Kd.R_lower ho0 (below_size (by repeat (with_reducible first|exact HB.out|apply ba|apply bn|apply b1|refine below_set ?_ GE374.out))));have n1_:=Aside0.mk (Kd.R_lower ho1 (below_size (by repeat (with_reducible first|exact HB.out|apply ba|apply bn|apply b1|refine below_set ?_ GE374.out))));have n2_:=Aside0.mk (blk_below (g:=gb374) (o:=.cells #[.bool false,.slice none 0 0,.slice none 0 0] 25 (0,0)) (by (with_reducible repeat (first|refine blk_drewN ?_ _|refine blk_drew ?_|refine blk_alloc ?_ _));exact BK374.out) hb);have n3_:=Aside0.mk (below_step (by repeat (with_reducible first|exact HB.out|apply ba|apply bn|apply b1|refine below_set ?_ GE374.out)) hb);clear BK374;clear HB;have HO378:=n0_;have HO381:=n1_;have BK374:=n2_;have HB:=n3_;clear n0_ n1_ n2_ n3_)|((with_reducible refine gate_dst (N:=4) rfl ?_);(try (refine gate_guard (by rfl) ?_;dsimp only));refine box_event ?hg (N:=4) ?hd (cs:=#[.bool false,.slice none 0 0,.slice none 0 0]) (t:=25) ?hr ?_;(case hd=>rfl);(case hg=>rfl);(case hr=>first|(go_simp;done)|(go_simp;(with_reducible rfl))|(go_simp;rfl)|(go_simp;have hu_ : ∀ x : Int,IntKind.u32.wrap x=HMod.hMod x (4294967296 : Int):=(fun x=>by simp only [IntKind.wrap,IntKind.bits,IntKind.signed];simp);simp only [hu_,Int.emod_sub_emod]));intro gb382 hg w21 hbox hb;have n0_:=Aside0.mk (Kd.R_below (by (with_reducible repeat (first|apply Ra|apply Rn|apply Rd));exact HO378.out) hb);have n1_:=Aside0.mk (Kd.R_below (by (with_reducible repeat (first|apply Ra|apply Rn|apply Rd));exact HO381.out) hb);have n2_:=Aside0.mk (blk_below (g:=gb374) (o:=.cells #[.bool false,.slice none 0 0,.slice none 0 0] 25 (0,0)) (by (with_reducible repeat (first|refine blk_drewN ?_ _|refine blk_drew ?_|refine blk_alloc ?_ _));exact BK374.out) hb);have n3_:=Aside0.mk (below_step (by repeat (with_reducible first|exact HB.out|apply ba|apply bn|apply b1|refine below_set ?_ GE374.out)) hb);have n4_:=Aside0.mk (hbox);have n5_:=Aside0.mk ((by rw [hg];exact (below_size (by repeat (with_reducible first|exact HB.out|apply ba|apply bn|apply b1|refine below_set ?_ GE374.out))) : w.heap.size≤gb382));have n6_:=Aside0.mk ((by rw [hg];exact (below_size (by repeat (with_reducible first|exact HB.out|apply ba|apply bn|apply b1|refine below_set ?_ GE374.out))) : w.heap.size≤gb382));have n7_:=Aside0.mk ((by rw [hg];exact Nat.ne_of_lt (blk_lt (g:=gb374) (o:=.cells #[.bool false,.slice none 0 0,.slice none 0 0] 25 (0,0)) (by (with_reducible repeat (first|refine blk_drewN ?_ _|refine blk_drew ?_|refine blk_alloc ?_ _));exact BK374.out)) : gb374≠gb382));have n8_:=Aside0.mk ((by rw [hg];exact Nat.ne_of_gt (blk_lt (g:=gb374) (o:=.cells #[.bool false,.slice none 0 0,.slice none 0 0] 25 (0,0)) (by (with_reducible repeat (first|refine blk_drewN ?_ _|refine blk_drew ?_|refine blk_alloc ?_ _));exact BK374.out)) : gb382≠gb374));clear HO378;clear HO381;clear BK374;clear HB;have HO378:=n0_;have HO381:=n1_;have BK374:=n2_;have HB:=n3_;have BK382:=n4_;have GW382:=n5_;have GE382:=n6_;have NB374_382:=n7_;have NB382_374:=n8_;clear n0_ n1_ n2_ n3_ n4_ n5_ n6_ n7_ n8_;clear hb hbox hg;have hnb22:=NB382_374.out;have hnc22:=NB374_382.out;have hcz23_0 : w21.cell? ⟨gb382,0,none⟩=some (.bool false):=(blk_cell BK382.out 0).trans rfl;have hcz23_1 : w21.cell? ⟨gb382,1,none⟩=some (.slice none 0 0):=(blk_cell BK382.out 1).trans rfl;have hcz23_2 : w21.cell? ⟨gb382,2,none⟩=some (.slice none 0 0):=(blk_cell BK382.out 2).trans rfl;have hfz23_0:=blk_frozen BK382.out 0;have hfz23_1:=blk_frozen BK382.out 1;have hfz23_2:=blk_frozen BK382.out 2;obtain ⟨Ao24,co24,eo24⟩:=Kd.R_slice HO378.out;subst eo24;obtain ⟨Ao25,co25,eo25⟩:=Kd.R_slice HO381.out;subst eo25)|(go_at_call 25;(with_reducible refine (strings_CutPrefix.calls a0 (⟨#[45]⟩ : ByteArray) t383 t384 _ A12.out).mono ?_);rintro e w' ⟨rfl,⟨nd,rfl⟩⟩;(try first|exact ⟨rfl,_,World.drewN_drewN _ _ _⟩|exact ⟨rfl,_,Eq.trans (World.drewN_drewN _ _ _) (congrArg (World.drewN _) (Nat.add_assoc _ _ _))⟩))|(go_at_call 26;(with_reducible refine (decimal_digits.calls t383 t385 _ A13.out).mono ?_);rintro e w26 ⟨rfl,hb⟩;have n0_:=Aside0.mk (Kd.R_below (by (with_reducible repeat (first|apply Ra|apply Rn|apply Rd));exact (Kd.R_mono (Kd.R_far (p:=⟨gb382,2,none⟩) (Kd.R_far (p:=⟨gb382,1,none⟩) (Kd.R_far (p:=⟨gb382,0,none⟩) (Kd.R_types HO378.out BK382.out (by decide)) (fun _ hk=>hk.2) (.bool t375)) (fun _ hk=>hk.2) (.slice Ao24 t376.length co24)) (fun _ hk=>hk.2) (.slice Ao25 t379.length co25)) (fun _ h_=>h_.1))) hb);have n1_:=Aside0.mk (Kd.R_below (by (with_reducible repeat (first|apply Ra|apply Rn|apply Rd));exact (Kd.R_mono (Kd.R_far (p:=⟨gb382,2,none⟩) (Kd.R_far (p:=⟨gb382,1,none⟩) (Kd.R_far (p:=⟨gb382,0,none⟩) (Kd.R_types HO381.out BK382.out (by decide)) (fun _ hk=>hk.2) (.bool t375)) (fun _ hk=>hk.2) (.slice Ao24 t376.length co24)) (fun _ hk=>hk.2) (.slice Ao25 t379.length co25)) (fun _ h_=>h_.1))) hb);have n2_:=Aside0.mk (blk_below (g:=gb374) (o:=.cells #[.bool false,.slice none 0 0,.slice none 0 0] 25 (0,0)) (by (with_reducible repeat (first|refine blk_drewN ?_ _|refine blk_drew ?_|refine blk_alloc ?_ _));refine blk_far ?_ NB374_382.out _;(with_reducible repeat (first|refine blk_drewN ?_ _|refine blk_drew ?_|refine blk_alloc ?_ _));refine blk_far ?_ NB374_382.out _;(with_reducible repeat (first|refine blk_drewN ?_ _|refine blk_drew ?_|refine blk_alloc ?_ _));refine blk_far ?_ NB374_382.out _;(with_reducible repeat (first|refine blk_drewN ?_ _|refine blk_drew ?_|refine blk_alloc ?_ _));exact BK374.out) hb);have n3_:=Aside0.mk (blk_below (g:=gb382) (o:=.cells #[.bool t375,.slice Ao24 t376.length co24,.slice Ao25 t379.length co25] 25 (0,0)) (by (with_reducible repeat (first|refine blk_drewN ?_ _|refine blk_drew ?_|refine blk_alloc ?_ _));refine blk_put (cs:=#[.bool t375,.slice Ao24 t376.length co24,.slice none 0 0]) ?_ 2 _ rfl;(with_reducible repeat (first|refine blk_drewN ?_ _|refine blk_drew ?_|refine blk_alloc ?_ _));refine blk_put (cs:=#[.bool t375,.slice none 0 0,.slice none 0 0]) ?_ 1 _ rfl;(with_reducible repeat (first|refine blk_drewN ?_ _|refine blk_drew ?_|refine blk_alloc ?_ _));refine blk_put (cs:=#[.bool false,.slice none 0 0,.slice none 0 0]) ?_ 0 _ rfl;(with_reducible repeat (first|refine blk_drewN ?_ _|refine blk_drew ?_|refine blk_alloc ?_ _));exact BK382.out) hb);have n4_:=Aside0.mk (below_step (by repeat (with_reducible first|exact HB.out|apply ba|apply bn|apply b1|refine below_set ?_ GE374.out|refine below_set ?_ GE382.out)) hb);clear HO378;clear HO381;clear BK374;clear BK382;clear HB;have HO378:=n0_;have HO381:=n1_;have BK374:=n2_;have BK382:=n3_;have HB:=n4_;clear n0_ n1_ n2_ n3_ n4_)))
  (try simp only [Act.put,s0,s1,s2])
  generalize hrest33 : t383.extract (t385 : Int).toNat t383.size=rest33 at HC18 ⊢
  generalize hfirst33 : t383.extract 0 (t385 : Int).toNat=first33 at HC18 ⊢
  go_cut [8,10] (fun v8 v10 wc=>∃ (kq : Nat) (x8_17 : ByteArray) (x10_17 : ByteArray) (x375000_17 : Bool),v8=.string x8_17∧v10=.string x10_17∧Aside0 (decimal_Parse.j1 kq t384 t385 x8_17 x10_17 t375 t376 t379=some (r1,r2,r3,r4))∧Aside0 (kq≤k)∧Aside0 (Kd.R (Kd.int .u32) 35 wc w.heap.size (fun k_=>some k_≠((.slice Ao25 t379.length co25) : Value).ownBlock) (.slice Ao24 t376.length co24) t376)∧Aside0 (Kd.R (Kd.int .u32) 35 wc w.heap.size (fun k_=>some k_≠((.slice Ao24 t376.length co24) : Value).ownBlock) (.slice Ao25 t379.length co25) t379)∧Aside0 (wc.heap[gb374]? = some (.cells #[.bool x375000_17,(.slice none 0 0),(.slice none 0 0)] 25 (0,0)))∧Aside0 (wc.heap[gb382]? = some (.cells #[.bool t375,(.slice Ao24 t376.length co24),(.slice Ao25 t379.length co25)] 25 (0,0)))∧Aside0 (Below w.heap.size w wc))
  case first =>
   have H:=HC18.out
   clear HC18
   by_cases c27 : rest33.toList=([] : List UInt8)
   ·rw [if_pos c27] at H
    have c27b0 : (rest33.toList == ([] : List UInt8))=true:=beq_iff_eq.mpr c27
    have c27b1 : (rest33.toList != ([] : List UInt8))=false:=bne_eq_false_iff_eq.mpr c27
    clear c27
    have c27b2 : rest33.toList.isEmpty=true:=by have h_:=c27b0;revert h_;cases rest33.toList <;> simp
    (first|rw [c27b0]|rw [c27b2]|(simp only [i64_w,i32_w];rw [c27b0])|skip)
    have H':=Aside0.mk H
    clear H
    go_wp2
    go_meet
    case rel=>exact ⟨_,first33,((⟨#[49]⟩ : ByteArray)),(false),(by first|rfl|(simp;done)|(simp [*];done)),(by first|rfl|(simp;done)|(simp [*];done)),H',⟨by first|omega|exact Nat.le_refl _⟩,⟨Ru HO378.out⟩,⟨Ru HO381.out⟩,⟨Bu BK374.out⟩,⟨Bu BK382.out⟩,⟨by repeat (with_reducible first|exact HB.out|apply ba|apply bn|apply b1|refine below_set ?_ GE374.out|refine below_set ?_ GE382.out)⟩⟩
   ·rw [if_neg c27] at H
    have c27b0 : (rest33.toList == ([] : List UInt8))=false:=beq_eq_false_iff_ne.mpr c27
    have c27b1 : (rest33.toList != ([] : List UInt8))=true:=bne_iff_ne.mpr c27
    have c27b2 : rest33.toList.isEmpty=false:=by have h_:=c27b0;revert h_;cases rest33.toList <;> simp
    (first|rw [c27b0]|rw [c27b2]|(simp only [i64_w,i32_w];rw [c27b0])|skip)
    by_cases c28 : 1≤(rest33.size : Int)
    case neg =>rw [if_neg c28] at H;exact absurd H (by simp)
    rw [if_pos c28] at H
    have c28b0:=eq_true c28
    have c28b1 : decide (1≤(rest33.size : Int))=true:=decide_eq_true c28
    clear c28
    replace H:=Option.bind_eq_some_iff.mp H
    obtain ⟨t386,A290,H⟩:=H
    try dsimp only at H
    have A29:=Aside0.mk A290
    clear A290
    have HC30:=Aside0.mk H
    clear H
    go_upto_region 11 with (first|(go_at_call 26;(with_reducible refine (decimal_digits.calls (rest33.extract 1 rest33.size) t386 _ A29.out).mono ?_);rintro e w31 ⟨rfl,hb⟩;have n0_:=Aside0.mk (Kd.R_below (Ru HO378.out) hb);have n1_:=Aside0.mk (Kd.R_below (Ru HO381.out) hb);have n2_:=Aside0.mk (blk_below (g:=gb374) (o:=.cells #[.bool false,.slice none 0 0,.slice none 0 0] 25 (0,0)) (Bu BK374.out) hb);have n3_:=Aside0.mk (blk_below (g:=gb382) (o:=.cells #[.bool t375,.slice Ao24 t376.length co24,.slice Ao25 t379.length co25] 25 (0,0)) (Bu BK382.out) hb);have n4_:=Aside0.mk (below_step (by repeat (with_reducible first|exact HB.out|apply ba|apply bn|apply b1|refine below_set ?_ GE374.out|refine below_set ?_ GE382.out)) hb);clear HO378;clear HO381;clear BK374;clear BK382;clear HB;have HO378:=n0_;have HO381:=n1_;have BK374:=n2_;have BK382:=n3_;have HB:=n4_;clear n0_ n1_ n2_ n3_ n4_))
    (try simp only [Act.put,s0,s1,s2])
    generalize hsec33 : rest33.extract 1 rest33.size=sec33 at HC30 ⊢
    go_cut [55] (fun v55 wc=>∃ (kq : Nat) (x55_29 : Bool),v55=.bool x55_29∧Aside0 (decimal_Parse.j0 kq t384 t385 first33 rest33 sec33 x55_29 t375 t376 t379=some (r1,r2,r3,r4))∧Aside0 (kq≤k)∧Aside0 (Kd.R (Kd.int .u32) 35 wc w.heap.size (fun k_=>some k_≠((.slice Ao25 t379.length co25) : Value).ownBlock) (.slice Ao24 t376.length co24) t376)∧Aside0 (Kd.R (Kd.int .u32) 35 wc w.heap.size (fun k_=>some k_≠((.slice Ao24 t376.length co24) : Value).ownBlock) (.slice Ao25 t379.length co25) t379)∧Aside0 (wc.heap[gb374]? = some (.cells #[.bool false,(.slice none 0 0),(.slice none 0 0)] 25 (0,0)))∧Aside0 (wc.heap[gb382]? = some (.cells #[.bool t375,(.slice Ao24 t376.length co24),(.slice Ao25 t379.length co25)] 25 (0,0)))∧Aside0 (Below w.heap.size w wc))
    case first =>
     have H:=HC30.out
     clear HC30
     by_cases c32 : t386=0
     ·rw [if_pos c32] at H
      have c32b0 : (t386 == 0)=true:=beq_iff_eq.mpr c32
      have c32b1 : (t386 != 0)=false:=bne_eq_false_iff_eq.mpr c32
      clear c32
      (first|rw [c32b0]|(simp only [i64_w,i32_w];rw [c32b0])|skip)
      have H':=Aside0.mk H
      clear H
      go_wp2
      go_meet
      case rel=>exact ⟨_,(true),(by first|rfl|(simp;done)|(simp [*];done)),H',⟨by first|omega|exact Nat.le_refl _⟩,⟨Ru HO378.out⟩,⟨Ru HO381.out⟩,⟨Bu BK374.out⟩,⟨Bu BK382.out⟩,⟨by repeat (with_reducible first|exact HB.out|apply ba|apply bn|apply b1|refine below_set ?_ GE374.out|refine below_set ?_ GE382.out)⟩⟩
     ·rw [if_neg c32] at H
      have c32b0 : (t386 == 0)=false:=beq_eq_false_iff_ne.mpr c32
      have c32b1 : (t386 != 0)=true:=bne_iff_ne.mpr c32
      (first|rw [c32b0]|(simp only [i64_w,i32_w];rw [c32b0])|skip)
      by_cases c33 : t386 < (sec33.size : Int)
      ·rw [if_pos c33] at H
       have c33b0 : decide (t386 < (sec33.size : Int))=true:=decide_eq_true c33
       clear c33
       have H':=Aside0.mk H
       clear H
       go_wp2
       go_meet
       case rel=>exact ⟨_,(true),(by first|rfl|(simp;done)|(simp [*];done)),H',⟨by first|omega|exact Nat.le_refl _⟩,⟨Ru HO378.out⟩,⟨Ru HO381.out⟩,⟨Bu BK374.out⟩,⟨Bu BK382.out⟩,⟨by repeat (with_reducible first|exact HB.out|apply ba|apply bn|apply b1|refine below_set ?_ GE374.out|refine below_set ?_ GE382.out)⟩⟩
      ·rw [if_neg c33] at H
       have c33b0 : decide (t386 < (sec33.size : Int))=false:=decide_eq_false c33
       clear c33
       by_cases c34 : 0 < (rest33.size : Int)
       case neg =>rw [if_neg c34] at H;exact absurd H (by simp)
       rw [if_pos c34] at H
       have c34b0 : decide (0 < (rest33.size : Int))=true:=decide_eq_true c34
       have c34b1 : decide (0 < rest33.size)=true:=decide_eq_true (by omega)
       clear c34
       by_cases c36 : (bt rest33 0)=46
       ·rw [if_pos c36] at H
        have c36b0 : ((bt rest33 0) == 46)=true:=beq_iff_eq.mpr c36
        have c36b1 : ((bt rest33 0) != 46)=false:=bne_eq_false_iff_eq.mpr c36
        clear c36
        have H':=Aside0.mk H
        clear H
        have p35 : 0≤(0 : Int):=(by omega)
        have q35 : 0 < rest33.size:=(by have : (0 : Int) < (rest33.size : Int):=of_decide_eq_true (by assumption);omega)
        have hx35 : ∀ h : 0 < rest33.size,((rest33[0]'h).toNat : Int)=bt rest33 0:=bt_at rest33 0
        clear p35
        have qi35 : (0 < (rest33.size : Int))=True:=eq_true (of_decide_eq_true (by assumption))
        replace q35:=eq_true q35
        go_wp2
        go_meet
        case rel=>exact ⟨_,(false),(by first|rfl|(simp;done)|(simp [*];done)),H',⟨by first|omega|exact Nat.le_refl _⟩,⟨Ru HO378.out⟩,⟨Ru HO381.out⟩,⟨Bu BK374.out⟩,⟨Bu BK382.out⟩,⟨by repeat (with_reducible first|exact HB.out|apply ba|apply bn|apply b1|refine below_set ?_ GE374.out|refine below_set ?_ GE382.out)⟩⟩
       ·rw [if_neg c36] at H
        have c36b0 : ((bt rest33 0) == 46)=false:=beq_eq_false_iff_ne.mpr c36
        have c36b1 : ((bt rest33 0) != 46)=true:=bne_iff_ne.mpr c36
        have H':=Aside0.mk H
        clear H
        have p35 : 0≤(0 : Int):=(by omega)
        have q35 : 0 < rest33.size:=(by have : (0 : Int) < (rest33.size : Int):=of_decide_eq_true (by assumption);omega)
        have hx35 : ∀ h : 0 < rest33.size,((rest33[0]'h).toNat : Int)=bt rest33 0:=bt_at rest33 0
        clear p35
        have qi35 : (0 < (rest33.size : Int))=True:=eq_true (of_decide_eq_true (by assumption))
        replace q35:=eq_true q35
        have p37 : 0≤(0 : Int):=(by omega)
        have q37 : 0 < rest33.size:=(by have : (0 : Int) < (rest33.size : Int):=of_decide_eq_true (by assumption);omega)
        have hx37 : ∀ h : 0 < rest33.size,((rest33[0]'h).toNat : Int)=bt rest33 0:=bt_at rest33 0
        clear p37
        have qi37 : (0 < (rest33.size : Int))=True:=eq_true (of_decide_eq_true (by assumption))
        replace q37:=eq_true q37
        go_wp2
        go_meet
        case rel=>exact ⟨_,(((bt rest33 0) != 47)),(by first|rfl|(simp;done)|(simp [*];done)),H',⟨by first|omega|exact Nat.le_refl _⟩,⟨Ru HO378.out⟩,⟨Ru HO381.out⟩,⟨Bu BK374.out⟩,⟨Bu BK382.out⟩,⟨by repeat (with_reducible first|exact HB.out|apply ba|apply bn|apply b1|refine below_set ?_ GE374.out|refine below_set ?_ GE382.out)⟩⟩
    case rest =>
     clear HC30
     obtain ⟨kq,x55_29,rfl,HA,HJ29,HO_383001,HO_383002,BK374,BK382,HB⟩:=hcut
     cases kq with
    |zero=>exact absurd HA.out (by simp [decimal_Parse.j0])
    |succ kj29 =>
      have H:=HA.out
      clear HA
      simp only [decimal_Parse.j0] at H
      by_cases c38 : x55_29=true
      ·subst c38
       rw [if_pos rfl] at H
       simp only [Option.some.injEq,Prod.mk.injEq] at H
       obtain ⟨rfl,rfl,rfl,rfl⟩:=H
       have hnb39:=NB382_374.out
       have hnc39:=NB374_382.out
       have hcz40_0 : wc.cell? ⟨gb382,0,none⟩=some (.bool t375):=(blk_cell BK382.out 0).trans rfl
       have hcz40_1 : wc.cell? ⟨gb382,1,none⟩=some (.slice Ao24 t376.length co24):=(blk_cell BK382.out 1).trans rfl
       have hcz40_2 : wc.cell? ⟨gb382,2,none⟩=some (.slice Ao25 t379.length co25):=(blk_cell BK382.out 2).trans rfl
       have hfz40_0:=blk_frozen BK382.out 0
       have hfz40_1:=blk_frozen BK382.out 1
       have hfz40_2:=blk_frozen BK382.out 2
       have hcz41_0 : wc.cell? ⟨gb374,0,none⟩=some (.bool false):=(blk_cell BK374.out 0).trans rfl
       have hcz41_1 : wc.cell? ⟨gb374,1,none⟩=some (.slice none 0 0):=(blk_cell BK374.out 1).trans rfl
       have hcz41_2 : wc.cell? ⟨gb374,2,none⟩=some (.slice none 0 0):=(blk_cell BK374.out 2).trans rfl
       have hfz41_0:=blk_frozen BK374.out 0
       have hfz41_1:=blk_frozen BK374.out 1
       have hfz41_2:=blk_frozen BK374.out 2
       go_wp2
       refine bodyPost_ret (results_ct rfl _ _ gb374 25 #[.bool t375,.slice Ao24 t376.length co24,.slice Ao25 t379.length co25] (0,0) _ rfl (by (with_reducible repeat (first|refine blk_drewN ?_ _|refine blk_drew ?_|refine blk_alloc ?_ _));refine blk_put (cs:=#[.bool t375,.slice Ao24 t376.length co24,.slice none 0 0]) ?_ 2 _ rfl;(with_reducible repeat (first|refine blk_drewN ?_ _|refine blk_drew ?_|refine blk_alloc ?_ _));refine blk_put (cs:=#[.bool t375,.slice none 0 0,.slice none 0 0]) ?_ 1 _ rfl;(with_reducible repeat (first|refine blk_drewN ?_ _|refine blk_drew ?_|refine blk_alloc ?_ _));refine blk_put (cs:=#[.bool false,.slice none 0 0,.slice none 0 0]) ?_ 0 _ rfl;(with_reducible repeat (first|refine blk_drewN ?_ _|refine blk_drew ?_|refine blk_alloc ?_ _));exact BK374.out) Tryd.underlying25 rfl (by kernel_rfl)) rfl ?_
       exact ⟨_,_,by first|rfl|(simp [errW_none,errW_some] <;> rfl)|(simp [*,errW_none,errW_some] <;> rfl),by (with_reducible repeat (first|apply Ra|apply Rn|apply Rd));exact Kd.R_mono (Kd.R_far (p:=⟨gb374,2,none⟩) (Kd.R_far (p:=⟨gb374,1,none⟩) (Kd.R_far (p:=⟨gb374,0,none⟩) (Kd.R_types HO_383001.out BK374.out (by decide)) (fun _ hk=>hk.2) (.bool t375)) (fun _ hk=>hk.2) (.slice Ao24 t376.length co24)) (fun _ hk=>hk.2) (.slice Ao25 t379.length co25)) (fun _ hk=>hk.1),by (with_reducible repeat (first|apply Ra|apply Rn|apply Rd));exact Kd.R_mono (Kd.R_far (p:=⟨gb374,2,none⟩) (Kd.R_far (p:=⟨gb374,1,none⟩) (Kd.R_far (p:=⟨gb374,0,none⟩) (Kd.R_types HO_383002.out BK374.out (by decide)) (fun _ hk=>hk.2) (.bool t375)) (fun _ hk=>hk.2) (.slice Ao24 t376.length co24)) (fun _ hk=>hk.2) (.slice Ao25 t379.length co25)) (fun _ hk=>hk.1),by repeat (with_reducible first|exact HB.out|apply ba|apply bn|apply b1|refine below_set ?_ GE374.out|refine below_set ?_ GE382.out)⟩
      ·replace c38:=Bool.eq_false_iff.mpr c38
       subst c38
       rw [if_neg (show ¬ (false=true) by decide)] at H
       by_cases c42 : 0 < (rest33.size : Int)
       case neg =>rw [if_neg c42] at H;exact absurd H (by simp)
       rw [if_pos c42] at H
       have c42b0 : decide (0 < (rest33.size : Int))=true:=decide_eq_true c42
       have c42b1 : decide (0 < rest33.size)=true:=decide_eq_true (by omega)
       clear c42
       by_cases c44 : (bt rest33 0)=46
       ·rw [if_pos c44] at H
        have c44b0 : ((bt rest33 0) == 46)=true:=beq_iff_eq.mpr c44
        have c44b1 : ((bt rest33 0) != 46)=false:=bne_eq_false_iff_eq.mpr c44
        clear c44
        by_cases c45 : first33.size+sec33.size≤9223372036854775807
        case neg =>rw [if_neg c45] at H;exact absurd H (by simp)
        rw [if_pos c45] at H
        have c45b0:=eq_true c45
        have c45b1 : decide (first33.size+sec33.size≤9223372036854775807)=true:=decide_eq_true c45
        try have c45b2 : (9223372036854775807 < first33.size+sec33.size)=False:=eq_false (Nat.not_lt.2 c45)
        replace H:=Option.bind_eq_some_iff.mp H
        obtain ⟨t387,A460,H⟩:=H
        try dsimp only at H
        have A46:=Aside0.mk A460
        clear A460
        by_cases c47 : 1+t387.size≤9223372036854775807
        case neg =>rw [if_neg c47] at H;exact absurd H (by simp)
        rw [if_pos c47] at H
        have c47b0:=eq_true c47
        have c47b1 : decide (1+t387.size≤9223372036854775807)=true:=decide_eq_true c47
        try have c47b2 : (9223372036854775807 < 1+t387.size)=False:=eq_false (Nat.not_lt.2 c47)
        have H':=Aside0.mk H
        clear H
        have p43 : 0≤(0 : Int):=(by omega)
        have q43 : 0 < rest33.size:=(by have : (0 : Int) < (rest33.size : Int):=of_decide_eq_true (by assumption);omega)
        have hx43 : ∀ h : 0 < rest33.size,((rest33[0]'h).toNat : Int)=bt rest33 0:=bt_at rest33 0
        clear p43
        have qi43 : (0 < (rest33.size : Int))=True:=eq_true (of_decide_eq_true (by assumption))
        replace q43:=eq_true q43
        go_wp2_with (first|(go_at_call 27;(with_reducible refine (strings_Repeat.calls (⟨#[48]⟩ : ByteArray) (sec33.size : Int) t387 _ A46.out).mono ?_);rintro e w48 ⟨rfl,hb⟩;have n0_:=Aside0.mk (Kd.R_below (Ru HO_383001.out) hb);have n1_:=Aside0.mk (Kd.R_below (Ru HO_383002.out) hb);have n2_:=Aside0.mk (blk_below (g:=gb374) (o:=.cells #[.bool false,.slice none 0 0,.slice none 0 0] 25 (0,0)) (Bu BK374.out) hb);have n3_:=Aside0.mk (blk_below (g:=gb382) (o:=.cells #[.bool t375,.slice Ao24 t376.length co24,.slice Ao25 t379.length co25] 25 (0,0)) (Bu BK382.out) hb);have n4_:=Aside0.mk (below_step (by repeat (with_reducible first|exact HB.out|apply ba|apply bn|apply b1|refine below_set ?_ GE374.out|refine below_set ?_ GE382.out)) hb);clear HO_383001;clear HO_383002;clear BK374;clear BK382;clear HB;have HO_383001:=n0_;have HO_383002:=n1_;have BK374:=n2_;have BK382:=n3_;have HB:=n4_;clear n0_ n1_ n2_ n3_ n4_))
        go_meet
        case rel=>exact ⟨_,(first33++sec33),((⟨#[49]⟩ : ByteArray)++t387),(false),(by first|rfl|(simp;done)|(simp [*];done)),(by first|rfl|(simp;done)|(simp [*];done)),H',⟨by have:=HJ29.out;first|omega|exact Nat.le_refl _⟩,⟨Ru HO_383001.out⟩,⟨Ru HO_383002.out⟩,⟨Bu BK374.out⟩,⟨Bu BK382.out⟩,⟨by repeat (with_reducible first|exact HB.out|apply ba|apply bn|apply b1|refine below_set ?_ GE374.out|refine below_set ?_ GE382.out)⟩⟩
       ·rw [if_neg c44] at H
        have c44b0 : ((bt rest33 0) == 46)=false:=beq_eq_false_iff_ne.mpr c44
        have c44b1 : ((bt rest33 0) != 46)=true:=bne_iff_ne.mpr c44
        have H':=Aside0.mk H
        clear H
        have p43 : 0≤(0 : Int):=(by omega)
        have q43 : 0 < rest33.size:=(by have : (0 : Int) < (rest33.size : Int):=of_decide_eq_true (by assumption);omega)
        have hx43 : ∀ h : 0 < rest33.size,((rest33[0]'h).toNat : Int)=bt rest33 0:=bt_at rest33 0
        clear p43
        have qi43 : (0 < (rest33.size : Int))=True:=eq_true (of_decide_eq_true (by assumption))
        replace q43:=eq_true q43
        go_wp2
        go_meet
        case rel=>exact ⟨_,(first33),(sec33),(false),(by first|rfl|(simp;done)|(simp [*];done)),(by first|rfl|(simp;done)|(simp [*];done)),H',⟨by have:=HJ29.out;first|omega|exact Nat.le_refl _⟩,⟨Ru HO_383001.out⟩,⟨Ru HO_383002.out⟩,⟨Bu BK374.out⟩,⟨Bu BK382.out⟩,⟨by repeat (with_reducible first|exact HB.out|apply ba|apply bn|apply b1|refine below_set ?_ GE374.out|refine below_set ?_ GE382.out)⟩⟩
  case rest =>
   clear HC18
   obtain ⟨kq,x8_17,x10_17,x375000_17,rfl,rfl,HA,HJ17,HO_383001,HO_383002,BK374,BK382,HB⟩:=hcut
   cases kq with
  |zero=>exact absurd HA.out (by simp [decimal_Parse.j1])
  |succ kj17 =>
    have H:=HA.out
    clear HA
    simp only [decimal_Parse.j1] at H
    by_cases c49 : t385=0
    ·rw [if_pos c49] at H
     have c49b0 : (t385 == 0)=true:=beq_iff_eq.mpr c49
     have c49b1 : (t385 != 0)=false:=bne_eq_false_iff_eq.mpr c49
     clear c49
     simp only [Option.some.injEq,Prod.mk.injEq] at H
     obtain ⟨rfl,rfl,rfl,rfl⟩:=H
     have hnb50:=NB382_374.out
     have hnc50:=NB374_382.out
     have hcz51_0 : wc.cell? ⟨gb382,0,none⟩=some (.bool t375):=(blk_cell BK382.out 0).trans rfl
     have hcz51_1 : wc.cell? ⟨gb382,1,none⟩=some (.slice Ao24 t376.length co24):=(blk_cell BK382.out 1).trans rfl
     have hcz51_2 : wc.cell? ⟨gb382,2,none⟩=some (.slice Ao25 t379.length co25):=(blk_cell BK382.out 2).trans rfl
     have hfz51_0:=blk_frozen BK382.out 0
     have hfz51_1:=blk_frozen BK382.out 1
     have hfz51_2:=blk_frozen BK382.out 2
     have hcz52_0 : wc.cell? ⟨gb374,0,none⟩=some (.bool x375000_17):=(blk_cell BK374.out 0).trans rfl
     have hcz52_1 : wc.cell? ⟨gb374,1,none⟩=some (.slice none 0 0):=(blk_cell BK374.out 1).trans rfl
     have hcz52_2 : wc.cell? ⟨gb374,2,none⟩=some (.slice none 0 0):=(blk_cell BK374.out 2).trans rfl
     have hfz52_0:=blk_frozen BK374.out 0
     have hfz52_1:=blk_frozen BK374.out 1
     have hfz52_2:=blk_frozen BK374.out 2
     go_wp2
     refine bodyPost_ret (results_ct rfl _ _ gb374 25 #[.bool t375,.slice Ao24 t376.length co24,.slice Ao25 t379.length co25] (0,0) _ rfl (by (with_reducible repeat (first|refine blk_drewN ?_ _|refine blk_drew ?_|refine blk_alloc ?_ _));refine blk_put (cs:=#[.bool t375,.slice Ao24 t376.length co24,.slice none 0 0]) ?_ 2 _ rfl;(with_reducible repeat (first|refine blk_drewN ?_ _|refine blk_drew ?_|refine blk_alloc ?_ _));refine blk_put (cs:=#[.bool t375,.slice none 0 0,.slice none 0 0]) ?_ 1 _ rfl;(with_reducible repeat (first|refine blk_drewN ?_ _|refine blk_drew ?_|refine blk_alloc ?_ _));refine blk_put (cs:=#[.bool x375000_17,.slice none 0 0,.slice none 0 0]) ?_ 0 _ rfl;(with_reducible repeat (first|refine blk_drewN ?_ _|refine blk_drew ?_|refine blk_alloc ?_ _));exact BK374.out) Tryd.underlying25 rfl (by kernel_rfl)) rfl ?_
     exact ⟨_,_,by first|rfl|(simp [errW_none,errW_some] <;> rfl)|(simp [*,errW_none,errW_some] <;> rfl),by (with_reducible repeat (first|apply Ra|apply Rn|apply Rd));exact Kd.R_mono (Kd.R_far (p:=⟨gb374,2,none⟩) (Kd.R_far (p:=⟨gb374,1,none⟩) (Kd.R_far (p:=⟨gb374,0,none⟩) (Kd.R_types HO_383001.out BK374.out (by decide)) (fun _ hk=>hk.2) (.bool t375)) (fun _ hk=>hk.2) (.slice Ao24 t376.length co24)) (fun _ hk=>hk.2) (.slice Ao25 t379.length co25)) (fun _ hk=>hk.1),by (with_reducible repeat (first|apply Ra|apply Rn|apply Rd));exact Kd.R_mono (Kd.R_far (p:=⟨gb374,2,none⟩) (Kd.R_far (p:=⟨gb374,1,none⟩) (Kd.R_far (p:=⟨gb374,0,none⟩) (Kd.R_types HO_383002.out BK374.out (by decide)) (fun _ hk=>hk.2) (.bool t375)) (fun _ hk=>hk.2) (.slice Ao24 t376.length co24)) (fun _ hk=>hk.2) (.slice Ao25 t379.length co25)) (fun _ hk=>hk.1),by repeat (with_reducible first|exact HB.out|apply ba|apply bn|apply b1|refine below_set ?_ GE374.out|refine below_set ?_ GE382.out)⟩
    ·rw [if_neg c49] at H
     have c49b0 : (t385 == 0)=false:=beq_eq_false_iff_ne.mpr c49
     have c49b1 : (t385 != 0)=true:=bne_iff_ne.mpr c49
     replace H:=Option.bind_eq_some_iff.mp H
     obtain ⟨t388,A530,H⟩:=H
     try dsimp only at H
     have A53:=Aside0.mk A530
     clear A530
     by_cases c54 : (t388.length : Int)=0
     ·rw [if_pos c54] at H
      have c54b0 : ((t388.length : Int) == 0)=true:=beq_iff_eq.mpr c54
      have c54b1 : ((t388.length : Int) != 0)=false:=bne_eq_false_iff_eq.mpr c54
      clear c54
      simp only [Option.some.injEq,Prod.mk.injEq] at H
      obtain ⟨rfl,rfl,rfl,rfl⟩:=H
      go_wp2_with (first|(go_at_call 28;(with_reducible refine (decimal_number.calls kj17 x10_17 t388 _ A53.out).mono ?_);rintro e w55 ⟨v389,rfl,ho0,hb⟩;have n0_:=Aside0.mk (Kd.R_elder' (Ru HO_383001.out) (Kd.R_base ho0) hb);have n1_:=Aside0.mk (Kd.R_elder' (Ru HO_383002.out) (Kd.R_base ho0) hb);have n2_:=Aside0.mk (Kd.R_lower (Kd.R_new' (Kd.R_new' ho0 (Kd.R_lt (Ru HO_383001.out))) (Kd.R_lt (Ru HO_383002.out))) (below_size (by repeat (with_reducible first|exact HB.out|apply ba|apply bn|apply b1|refine below_set ?_ GE374.out|refine below_set ?_ GE382.out))));have n3_:=Aside0.mk (blk_below (g:=gb374) (o:=.cells #[.bool x375000_17,.slice none 0 0,.slice none 0 0] 25 (0,0)) (Bu BK374.out) hb);have n4_:=Aside0.mk (blk_below (g:=gb382) (o:=.cells #[.bool t375,.slice Ao24 t376.length co24,.slice Ao25 t379.length co25] 25 (0,0)) (Bu BK382.out) hb);have n5_:=Aside0.mk (below_step (by repeat (with_reducible first|exact HB.out|apply ba|apply bn|apply b1|refine below_set ?_ GE374.out|refine below_set ?_ GE382.out)) hb);clear HO_383001;clear HO_383002;clear BK374;clear BK382;clear HB;have HO_383001:=n0_;have HO_383002:=n1_;have HO390:=n2_;have BK374:=n3_;have BK382:=n4_;have HB:=n5_;clear n0_ n1_ n2_ n3_ n4_ n5_;obtain ⟨Ao56,co56,eo56⟩:=Kd.R_slice HO390.out;subst eo56;have hnb57:=NB382_374.out;have hnc57:=NB374_382.out;have hcz58_0 : w55.cell? ⟨gb382,0,none⟩=some (.bool t375):=(blk_cell BK382.out 0).trans rfl;have hcz58_1 : w55.cell? ⟨gb382,1,none⟩=some (.slice Ao24 t376.length co24):=(blk_cell BK382.out 1).trans rfl;have hcz58_2 : w55.cell? ⟨gb382,2,none⟩=some (.slice Ao25 t379.length co25):=(blk_cell BK382.out 2).trans rfl;have hfz58_0:=blk_frozen BK382.out 0;have hfz58_1:=blk_frozen BK382.out 1;have hfz58_2:=blk_frozen BK382.out 2;have hcz59_0 : w55.cell? ⟨gb374,0,none⟩=some (.bool x375000_17):=(blk_cell BK374.out 0).trans rfl;have hcz59_1 : w55.cell? ⟨gb374,1,none⟩=some (.slice none 0 0):=(blk_cell BK374.out 1).trans rfl;have hcz59_2 : w55.cell? ⟨gb374,2,none⟩=some (.slice none 0 0):=(blk_cell BK374.out 2).trans rfl;have hfz59_0:=blk_frozen BK374.out 0;have hfz59_1:=blk_frozen BK374.out 1;have hfz59_2:=blk_frozen BK374.out 2))
      refine bodyPost_ret (results_ct rfl _ _ gb374 25 #[.bool t375,.slice Ao24 t376.length co24,.slice Ao25 t379.length co25] (0,0) _ rfl (by (with_reducible repeat (first|refine blk_drewN ?_ _|refine blk_drew ?_|refine blk_alloc ?_ _));refine blk_put (cs:=#[.bool t375,.slice Ao24 t376.length co24,.slice none 0 0]) ?_ 2 _ rfl;(with_reducible repeat (first|refine blk_drewN ?_ _|refine blk_drew ?_|refine blk_alloc ?_ _));refine blk_put (cs:=#[.bool t375,.slice none 0 0,.slice none 0 0]) ?_ 1 _ rfl;(with_reducible repeat (first|refine blk_drewN ?_ _|refine blk_drew ?_|refine blk_alloc ?_ _));refine blk_put (cs:=#[.bool x375000_17,.slice none 0 0,.slice none 0 0]) ?_ 0 _ rfl;(with_reducible repeat (first|refine blk_drewN ?_ _|refine blk_drew ?_|refine blk_alloc ?_ _));exact BK374.out) Tryd.underlying25 rfl (by kernel_rfl)) rfl ?_
      exact ⟨_,_,by first|rfl|(simp [errW_none,errW_some] <;> rfl)|(simp [*,errW_none,errW_some] <;> rfl),by (with_reducible repeat (first|apply Ra|apply Rn|apply Rd));exact Kd.R_mono (Kd.R_far (p:=⟨gb374,2,none⟩) (Kd.R_far (p:=⟨gb374,1,none⟩) (Kd.R_far (p:=⟨gb374,0,none⟩) (Kd.R_types HO_383001.out BK374.out (by decide)) (fun _ hk=>hk.2) (.bool t375)) (fun _ hk=>hk.2) (.slice Ao24 t376.length co24)) (fun _ hk=>hk.2) (.slice Ao25 t379.length co25)) (fun _ hk=>hk.1.1),by (with_reducible repeat (first|apply Ra|apply Rn|apply Rd));exact Kd.R_mono (Kd.R_far (p:=⟨gb374,2,none⟩) (Kd.R_far (p:=⟨gb374,1,none⟩) (Kd.R_far (p:=⟨gb374,0,none⟩) (Kd.R_types HO_383002.out BK374.out (by decide)) (fun _ hk=>hk.2) (.bool t375)) (fun _ hk=>hk.2) (.slice Ao24 t376.length co24)) (fun _ hk=>hk.2) (.slice Ao25 t379.length co25)) (fun _ hk=>hk.1.1),by repeat (with_reducible first|exact HB.out|apply ba|apply bn|apply b1|refine below_set ?_ GE374.out|refine below_set ?_ GE382.out)⟩
     ·rw [if_neg c54] at H
      have c54b0 : ((t388.length : Int) == 0)=false:=beq_eq_false_iff_ne.mpr c54
      have c54b1 : ((t388.length : Int) != 0)=true:=bne_iff_ne.mpr c54
      have c54b2 : ¬ (t388=[]):=fun h_=>c54 (by rw [h_];rfl)
      replace H:=Option.bind_eq_some_iff.mp H
      obtain ⟨t391,A600,H⟩:=H
      try dsimp only at H
      have A60:=Aside0.mk A600
      clear A600
      replace H:=Option.bind_eq_some_iff.mp H
      obtain ⟨⟨t394,t395,t398⟩,A610,H⟩:=H
      try dsimp only at H
      have A61:=Aside0.mk A610
      clear A610
      simp only [Option.some.injEq,Prod.mk.injEq] at H
      obtain ⟨rfl,rfl,rfl,rfl⟩:=H
      go_wp2_with (first|(go_at_call 28;(with_reducible refine (decimal_number.calls kj17 x10_17 t388 _ A53.out).mono ?_);rintro e w62 ⟨v389,rfl,ho0,hb⟩;have n0_:=Aside0.mk (Kd.R_elder' (Ru HO_383001.out) (Kd.R_base ho0) hb);have n1_:=Aside0.mk (Kd.R_elder' (Ru HO_383002.out) (Kd.R_base ho0) hb);have n2_:=Aside0.mk (Kd.R_lower (Kd.R_new' (Kd.R_new' ho0 (Kd.R_lt (Ru HO_383001.out))) (Kd.R_lt (Ru HO_383002.out))) (below_size (by repeat (with_reducible first|exact HB.out|apply ba|apply bn|apply b1|refine below_set ?_ GE374.out|refine below_set ?_ GE382.out))));have n3_:=Aside0.mk (blk_below (g:=gb374) (o:=.cells #[.bool x375000_17,.slice none 0 0,.slice none 0 0] 25 (0,0)) (Bu BK374.out) hb);have n4_:=Aside0.mk (blk_below (g:=gb382) (o:=.cells #[.bool t375,.slice Ao24 t376.length co24,.slice Ao25 t379.length co25] 25 (0,0)) (Bu BK382.out) hb);have n5_:=Aside0.mk (below_step (by repeat (with_reducible first|exact HB.out|apply ba|apply bn|apply b1|refine below_set ?_ GE374.out|refine below_set ?_ GE382.out)) hb);clear HO_383001;clear HO_383002;clear BK374;clear BK382;clear HB;have HO_383001:=n0_;have HO_383002:=n1_;have HO390:=n2_;have BK374:=n3_;have BK382:=n4_;have HB:=n5_;clear n0_ n1_ n2_ n3_ n4_ n5_;obtain ⟨Ao63,co63,eo63⟩:=Kd.R_slice HO390.out;subst eo63)|(go_at_call 28;(with_reducible refine (decimal_number.calls kj17 x8_17 t391 _ A60.out).mono ?_);rintro e w64 ⟨v392,rfl,ho0,hb⟩;have n0_:=Aside0.mk (Kd.R_elder' (Ru HO_383001.out) (Kd.R_base ho0) hb);have n1_:=Aside0.mk (Kd.R_elder' (Ru HO_383002.out) (Kd.R_base ho0) hb);have n2_:=Aside0.mk (Kd.R_elder' (Ru HO390.out) (Kd.R_base ho0) hb);have n3_:=Aside0.mk (Kd.R_lower (Kd.R_new' (Kd.R_new' (Kd.R_new' ho0 (Kd.R_lt (Ru HO_383001.out))) (Kd.R_lt (Ru HO_383002.out))) (Kd.R_lt (Ru HO390.out))) (below_size (by repeat (with_reducible first|exact HB.out|apply ba|apply bn|apply b1|refine below_set ?_ GE374.out|refine below_set ?_ GE382.out))));have n4_:=Aside0.mk (blk_below (g:=gb374) (o:=.cells #[.bool x375000_17,.slice none 0 0,.slice none 0 0] 25 (0,0)) (Bu BK374.out) hb);have n5_:=Aside0.mk (blk_below (g:=gb382) (o:=.cells #[.bool t375,.slice Ao24 t376.length co24,.slice Ao25 t379.length co25] 25 (0,0)) (Bu BK382.out) hb);have n6_:=Aside0.mk (below_step (by repeat (with_reducible first|exact HB.out|apply ba|apply bn|apply b1|refine below_set ?_ GE374.out|refine below_set ?_ GE382.out)) hb);clear HO_383001;clear HO_383002;clear HO390;clear BK374;clear BK382;clear HB;have HO_383001:=n0_;have HO_383002:=n1_;have HO390:=n2_;have HO393:=n3_;have BK374:=n4_;have BK382:=n5_;have HB:=n6_;clear n0_ n1_ n2_ n3_ n4_ n5_ n6_;obtain ⟨Ao65,co65,eo65⟩:=Kd.R_slice HO393.out;subst eo65)|(go_at_call 18;(with_reducible refine (rat_Read.calls kj17 t384 _ _ t391 _ _ t388 t394 t395 t398 _ ?side1 ?side2 ?side3 ?side4 A61.out).mono ?_);(case side1=>exact Cu (Kd.R_reads' HO393.out).2.2);(case side2=>exact (Kd.R_reads' HO393.out).2.1);(case side3=>exact Cu (Kd.R_reads' HO390.out).2.2);(case side4=>exact (Kd.R_reads' HO390.out).2.1);rintro e w66 ⟨v396,v399,rfl,ho0,ho1,hb⟩;have n0_:=Aside0.mk (Kd.R_mono (Kd.R_told (Kd.R_told (Kd.R_old (Ru HO_383001.out) hb) (Kd.R_base ho0)) (Kd.R_base ho1)) (fun _ h_=>h_.1));have n1_:=Aside0.mk (Kd.R_mono (Kd.R_told (Kd.R_told (Kd.R_old (Ru HO_383002.out) hb) (Kd.R_base ho0)) (Kd.R_base ho1)) (fun _ h_=>h_.1));have n2_:=Aside0.mk (Kd.R_mono (Kd.R_told (Kd.R_told (Kd.R_old (Ru HO390.out) hb) (Kd.R_base ho0)) (Kd.R_base ho1)) (fun _ h_=>h_.1));have n3_:=Aside0.mk (Kd.R_mono (Kd.R_told (Kd.R_told (Kd.R_old (Ru HO393.out) hb) (Kd.R_base ho0)) (Kd.R_base ho1)) (fun _ h_=>h_.1));have n4_:=Aside0.mk (Kd.R_lower (Kd.R_new' (Kd.R_new' (Kd.R_new' (Kd.R_new' ho0 (Kd.R_lt (Ru HO_383001.out))) (Kd.R_lt (Ru HO_383002.out))) (Kd.R_lt (Ru HO390.out))) (Kd.R_lt (Ru HO393.out))) (below_size (by repeat (with_reducible first|exact HB.out|apply ba|apply bn|apply b1|refine below_set ?_ GE374.out|refine below_set ?_ GE382.out))));have n5_:=Aside0.mk (Kd.R_lower (Kd.R_new' (Kd.R_new' (Kd.R_new' (Kd.R_new' ho1 (Kd.R_lt (Ru HO_383001.out))) (Kd.R_lt (Ru HO_383002.out))) (Kd.R_lt (Ru HO390.out))) (Kd.R_lt (Ru HO393.out))) (below_size (by repeat (with_reducible first|exact HB.out|apply ba|apply bn|apply b1|refine below_set ?_ GE374.out|refine below_set ?_ GE382.out))));have n6_:=Aside0.mk (blk_below (g:=gb374) (o:=.cells #[.bool x375000_17,.slice none 0 0,.slice none 0 0] 25 (0,0)) (Bu BK374.out) hb);have n7_:=Aside0.mk (blk_below (g:=gb382) (o:=.cells #[.bool t375,.slice Ao24 t376.length co24,.slice Ao25 t379.length co25] 25 (0,0)) (Bu BK382.out) hb);have n8_:=Aside0.mk (below_step (by repeat (with_reducible first|exact HB.out|apply ba|apply bn|apply b1|refine below_set ?_ GE374.out|refine below_set ?_ GE382.out)) hb);clear HO_383001;clear HO_383002;clear HO390;clear HO393;clear BK374;clear BK382;clear HB;have HO_383001:=n0_;have HO_383002:=n1_;have HO390:=n2_;have HO393:=n3_;have HO397:=n4_;have HO400:=n5_;have BK374:=n6_;have BK382:=n7_;have HB:=n8_;clear n0_ n1_ n2_ n3_ n4_ n5_ n6_ n7_ n8_;have hnb67:=NB374_382.out;have hnc67:=NB382_374.out;have hcz68_0 : w66.cell? ⟨gb374,0,none⟩=some (.bool x375000_17):=(blk_cell BK374.out 0).trans rfl;have hcz68_1 : w66.cell? ⟨gb374,1,none⟩=some (.slice none 0 0):=(blk_cell BK374.out 1).trans rfl;have hcz68_2 : w66.cell? ⟨gb374,2,none⟩=some (.slice none 0 0):=(blk_cell BK374.out 2).trans rfl;have hfz68_0:=blk_frozen BK374.out 0;have hfz68_1:=blk_frozen BK374.out 1;have hfz68_2:=blk_frozen BK374.out 2;obtain ⟨Ao69,co69,eo69⟩:=Kd.R_slice HO397.out;subst eo69;obtain ⟨Ao70,co70,eo70⟩:=Kd.R_slice HO400.out;subst eo70))
      refine bodyPost_ret (results_ct rfl _ _ gb374 25 #[.bool t394,.slice Ao69 t395.length co69,.slice Ao70 t398.length co70] (0,0) _ rfl (by (with_reducible repeat (first|refine blk_drewN ?_ _|refine blk_drew ?_|refine blk_alloc ?_ _));refine blk_put (cs:=#[.bool t394,.slice Ao69 t395.length co69,.slice none 0 0]) ?_ 2 _ rfl;(with_reducible repeat (first|refine blk_drewN ?_ _|refine blk_drew ?_|refine blk_alloc ?_ _));refine blk_put (cs:=#[.bool t394,.slice none 0 0,.slice none 0 0]) ?_ 1 _ rfl;(with_reducible repeat (first|refine blk_drewN ?_ _|refine blk_drew ?_|refine blk_alloc ?_ _));refine blk_put (cs:=#[.bool x375000_17,.slice none 0 0,.slice none 0 0]) ?_ 0 _ rfl;(with_reducible repeat (first|refine blk_drewN ?_ _|refine blk_drew ?_|refine blk_alloc ?_ _));exact BK374.out) Tryd.underlying25 rfl (by kernel_rfl)) rfl ?_
      exact ⟨_,_,by first|rfl|(simp [errW_none,errW_some] <;> rfl)|(simp [*,errW_none,errW_some] <;> rfl),by (with_reducible repeat (first|apply Ra|apply Rn|apply Rd));exact Kd.R_mono (Kd.R_far (p:=⟨gb374,2,none⟩) (Kd.R_far (p:=⟨gb374,1,none⟩) (Kd.R_far (p:=⟨gb374,0,none⟩) (Kd.R_types HO397.out BK374.out (by decide)) (fun _ hk=>hk.2) (.bool t394)) (fun _ hk=>hk.2) (.slice Ao69 t395.length co69)) (fun _ hk=>hk.2) (.slice Ao70 t398.length co70)) (fun _ hk=>hk.1.1.1.1.1),by (with_reducible repeat (first|apply Ra|apply Rn|apply Rd));exact Kd.R_mono (Kd.R_far (p:=⟨gb374,2,none⟩) (Kd.R_far (p:=⟨gb374,1,none⟩) (Kd.R_far (p:=⟨gb374,0,none⟩) (Kd.R_types HO400.out BK374.out (by decide)) (fun _ hk=>hk.2) (.bool t394)) (fun _ hk=>hk.2) (.slice Ao69 t395.length co69)) (fun _ hk=>hk.2) (.slice Ao70 t398.length co70)) (fun _ hk=>hk.1.1.1.1.1),by repeat (with_reducible first|exact HB.out|apply ba|apply bn|apply b1|refine below_set ?_ GE374.out|refine below_set ?_ GE382.out)⟩
end Go.Proofs.YtncdiodnbkhacaaDoor.Pq
end
section
namespace Go.Proofs.YtncdiodnbkhacaaDoor.Pq
open Go.RowKit Go.Proofs.YtncdiodnbkhacaaDoorW.PrintWords Go.Proofs.YtncdiodnbkhacaaDoorW.PrintLast Go.Proofs.YtncdiodnbkhacaaDoorW.PrintMore
attribute [local go_sem] max2_int min2_int max_two min_two max_three min_three max_four min_four
set_option linter.unusedVariables false
set_option linter.unusedSimpArgs false
open Go.Shelf
theorem decimal_Natural.mono_l : ∀ k,∀ y0 y1 y2,LeO (decimal_Natural.l0 k y0 y1 y2) (decimal_Natural.l0 (k+1) y0 y1 y2)
|0=>fun _ _ _ r h=>by simp [decimal_Natural.l0] at h
|k+1=>fun a b ps=>by
  unfold decimal_Natural.l0
  refine LeO.ite ?_ (LeO.refl _)
  refine LeO.bind (nat_DivMod.mono _ _ _) (fun _=>?_)
  exact LeO.ite (decimal_Natural.mono_l k _ _ _) (LeO.refl _)
theorem decimal_Natural.mono : ∀ a0 k,LeO (decimal_Natural.f k a0) (decimal_Natural.f (k+1) a0):=by
 intro a0 k
 unfold decimal_Natural.f
 refine LeO.bind (LeO.refl _) (fun _=>LeO.bind (LeO.refl _) (fun _=>LeO.bind (decimal_Natural.mono_l k _ _ _) (fun _=>LeO.refl _)))
attribute [local go_sem] Oper.semAt_some
theorem info9 : (Tryd.prog.info? 9).map (fun i=>(i.zero,i.size,i.bytes))=some (some (.string ⟨#[]⟩),1,16):=by kernel_rfl
def arrV (nv : Int) (j : Nat) : Array Value:=((List.range 9).map fun t=>Value.int .u8 (if t+j < 9 then 0 else 48+nv / 10 ^ (8 - t) % 10)).toArray
theorem arrV_at (nv : Int) (j : Nat) {t : Nat} (ht : t < 9) : (arrV nv j)[t]? = some (.int .u8 (if t+j < 9 then 0 else 48+nv / 10 ^ (8 - t) % 10)):=by
 unfold arrV
 rw [List.getElem?_toArray,List.getElem?_map,List.getElem?_range ht]
 rfl
theorem arrV_old (nv : Int) {j t : Nat} (h : t+j < 9) : (arrV nv j)[t]? = some (.int .u8 0):=by
 rw [arrV_at nv j (by omega),if_pos h]
theorem arrV_succ (nv : Int) {j t : Nat} (h : t+j=8) : (arrV nv j).setIfInBounds t (.int .u8 (48+nv / 10 ^ j % 10))=arrV nv (j+1):=by
 apply Array.ext_getElem?
 intro i
 have hs : (arrV nv j).size=9:=by simp [arrV]
 by_cases hi : i < 9
 ·rw [arrV_at nv (j+1) hi,Array.getElem?_setIfInBounds]
  by_cases e : t=i
  ·subst e
   rw [if_pos rfl,if_pos (by omega),if_neg (by omega),show 8 - t=j by omega]
  ·rw [if_neg e,arrV_at nv j hi]
   by_cases h2 : i+j < 9
   ·rw [if_pos h2,if_pos (by omega)]
   ·rw [if_neg h2,if_neg (by omega)]
 ·rw [Array.getElem?_eq_none (by simp [arrV];omega),Array.getElem?_eq_none (by simp [arrV];omega)]
theorem conv_nine {nv : Int} {W : World} {g : Nat} (h : W.heap[g]? = some (.cells (arrV nv 9) 56 (0,0))) : (convert 39 9 (.slice (some ⟨g,0,none⟩) 9 9)).run Tryd.prog W=.ok (.string (decimal_Natural.n nv)) W:=by
 refine run_convert_bytes_arg W 39 5 Tryd.underlying39 Tryd.underlying5 g 0 9 9 _ (by simp) (fun i hi=>?_) 9 Tryd.underlying9
 rw [Nat.zero_add,cell_of_row W g i _ 56 (0,0) h,arrV_at nv 9 hi,if_neg (by omega)]
 simp [List.getD_eq_getElem?_getD,hi]
theorem n_size (nv : Int) : (decimal_Natural.n nv).size≤9:=by
 unfold decimal_Natural.n strOfNums
 simp [ByteArray.size]
theorem l0_nine : ∀ (k : Nat) (a b : List Int) (ps PS : List ByteArray),decimal_Natural.l0 k a b ps=some PS→(∀ p∈ps,p.size≤9) → ∀ p∈PS,p.size≤9
|0,_,_,_,_,h,_=>by simp [decimal_Natural.l0] at h
|k+1,a,b,ps,PS,h,h9=>by
  simp only [decimal_Natural.l0] at h
  by_cases c : (a.length : Int) > 0
  ·rw [if_pos c] at h
   obtain ⟨bt,_,h⟩:=Option.bind_eq_some_iff.mp h
   by_cases d : 0≤decimal_Natural.at bt.2.1∧decimal_Natural.at bt.2.1 < 4294967296∧ps.length < 8796093022208
   ·rw [if_pos d] at h
    refine l0_nine k _ b _ PS h (fun p hp=>?_)
    rcases List.mem_append.1 hp with hp|hp
    ·exact h9 p hp
    ·rw [List.mem_singleton.1 hp]
     exact n_size _
   ·rw [if_neg d] at h
    cases h
  ·rw [if_neg c] at h
   obtain rfl:=Option.some.inj h
   exact h9
set_option maxHeartbeats 8000000 in
set_option maxRecDepth 100000 in
theorem decimal_Natural.calls (k : Nat) (A0 : Option Addr) (c0 : Nat) (l0 : List Int) (r : ByteArray) (w : World) (hr0 : Kd.C (Kd.int .u32) w A0 l0.length l0) (hc0 : l0.length≤c0) (h : decimal_Natural.f k l0=some r) :
  Calls Tryd.prog 14 #[.slice A0 l0.length c0] w fun e w'=>e=.returned (.string r)∧Below w.heap.size w w':=by
 have HR0:=Aside0.mk hr0
 have HC0:=Aside0.mk hc0
 clear hr0 hc0
 have HB:=Aside0.mk (Below.refl w.heap.size w)
 obtain ⟨a,A1,H⟩:=Option.bind_eq_some_iff.mp h
 obtain ⟨b,A2,H⟩:=Option.bind_eq_some_iff.mp H
 obtain ⟨PS,A3,H⟩:=Option.bind_eq_some_iff.mp H
 have A1:=Aside0.mk A1
 have A2:=Aside0.mk A2
 have A3:=Aside0.mk A3
 have HE:=Aside0.mk H
 clear h H
 have HN9:=Aside0.mk (l0_nine k a b [] PS A3.out (fun _ h_=>by cases h_))
 refine (callsIn_wide (n:=3)).1 ?_
 refine callsIn_of_wp_marks Tryd.func14 rfl trivial ?_ rfl
 simp only [Tryd.ntmps14,List.size_toArray,List.length_cons,List.length_nil,Nat.reduceAdd,Nat.reduceSub,Array.replicate_succ,Array.replicate_zero,List.push_toArray,List.append_toArray,List.nil_append,List.cons_append]
 refine wpIn_wide.2 ?_
 go_wp2_with (first
 |((have gd_:=A1);(with_reducible refine gate_callee (f:=17) rfl ?_);refine goesL_ (some 16) rfl rfl Tryd.func17 (by kernel_rfl) rfl #[.slice A0 l0.length c0] rfl (by (try simp only [List.map_toArray,List.map_cons,List.map_nil]);first|done|rfl) ?_;(with_reducible refine (nat_Norm.calls _ _ l0 a _ ?side1 ?side2 A1.out).mono ?_);(case side1=>exact HR0.out);(case side2=>exact HC0.out);rintro e w5 ⟨va,rfl,ho0,hb⟩;refine ⟨_,rfl,?_⟩;have HOA:=Aside0.mk (Kd.R_mono (ok':=fun _=>True) ho0 (fun _ _=>trivial));have n1_:=Aside0.mk (below_step HB.out hb);clear HB;have HB:=n1_;clear n1_ hb ho0 gd_ A1)
 |((have gd_:=A2);(with_reducible refine gate_callee (f:=36) rfl ?_);refine goesL_ (some 17) rfl rfl Tryd.func36 (by kernel_rfl) rfl #[.int .u64 1000000000] rfl (by (try simp only [List.map_toArray,List.map_cons,List.map_nil]);first|done|rfl) ?_;(with_reducible refine (nat_Of.calls 1000000000 b _ A2.out).mono ?_);rintro e w6 ⟨vb,rfl,ho0,hb⟩;refine ⟨_,rfl,?_⟩;have HOB:=Aside0.mk (Kd.R_mono (ok':=fun _=>True) (Kd.R_lower ho0 (below_size HB.out)) (fun _ _=>trivial));have n2_:=Aside0.mk (Kd.R_below HOA.out hb);have n1_:=Aside0.mk (below_step HB.out hb);clear HB HOA;have HB:=n1_;have HOA:=n2_;clear n1_ n2_ hb ho0 gd_ A2))
 go_loopg [0,4] k (fun kq v0 v4 w'=>∃ (x : List Int) (ps : List ByteArray),Aside0 (decimal_Natural.l0 kq x b ps=some PS)∧Aside0 (kq≤k)∧Aside0 (Kd.R (Kd.int .u32) 35 w' w.heap.size (fun _=>True) v0 x)∧Aside0 (Kd.R (Kd.int .u32) 35 w' w.heap.size (fun _=>True) vb b)∧Aside0 (Kd.R Kd.string 9 w' w.heap.size (fun _=>True) v4 ps)∧Aside0 (Below w.heap.size w w'))
 case atStart=>exact ⟨a,[],A3,⟨Nat.le_refl _⟩,HOA,HOB,⟨Kd.R_nil _ _ _ _ _⟩,HB⟩
 case round =>
  clear A3
  obtain ⟨x,ps,HA,HK1,HOX,HOB,HOP,HB⟩:=hrel
  cases gk with
 |zero=>exact absurd HA.out (by simp [decimal_Natural.l0])
 |succ k1 =>
   have H:=HA.out
   clear HA
   simp only [decimal_Natural.l0] at H
   by_cases c7 : (x.length : Int) > 0
   ·rw [if_pos c7] at H
    have c7b0 : decide (0 < (x.length : Int))=true:=decide_eq_true c7
    have c7b1 : decide (0 < x.length)=true:=decide_eq_true (by omega)
    clear c7
    obtain ⟨⟨q,rr,okk⟩,A8,H⟩:=Option.bind_eq_some_iff.mp H
    have A8:=Aside0.mk A8
    by_cases cL : 0≤decimal_Natural.at rr∧decimal_Natural.at rr < 4294967296∧ps.length < 8796093022208
    case neg=>rw [if_neg cL] at H;cases H
    rw [if_pos cL] at H
    obtain ⟨nv,hnv⟩ : ∃ nv,decimal_Natural.at rr=nv:=⟨_,rfl⟩
    dsimp only at H
    rw [hnv] at cL H
    have LM:=Aside0.mk cL.2.2
    have N0:=Aside0.mk (And.intro cL.1 cL.2.1)
    have H':=Aside0.mk H
    clear H cL
    obtain ⟨Ax,cx,ex⟩:=Kd.R_slice HOX.out
    subst ex
    obtain ⟨Ab,cb,eb⟩:=Kd.R_slice HOB.out
    subst eb
    by_cases c9 : (rr.length : Int) > 0
    ·have c9b0 : decide (0 < (rr.length : Int))=true:=decide_eq_true c9
     have c9b1 : decide (0 < rr.length)=true:=decide_eq_true (by omega)
     have hn2 : rd rr 0=nv:=by unfold decimal_Natural.at at hnv;rw [if_pos c9] at hnv;exact hnv
     have HN2:=Aside0.mk hn2
     have C9:=Aside0.mk c9
     have c9p : 0 < rr.length:=by omega
     clear hnv hn2 c9
     go_wp2_with (first
     |((have gd_:=A8);(with_reducible refine gate_callee (f:=37) rfl ?_);refine goesL_ (some 24) rfl rfl Tryd.func37 (by kernel_rfl) rfl #[.slice Ax x.length cx,.slice Ab b.length cb] rfl (by (try simp only [List.map_toArray,List.map_cons,List.map_nil]);first|done|rfl) ?_;(with_reducible refine (nat_DivMod.calls k1 _ _ x _ _ b q rr okk _ ?side1 ?side2 ?side3 ?side4 A8.out).mono ?_);(case side1=>exact (Kd.R_reads' HOX.out).2.2);(case side2=>exact (Kd.R_reads' HOX.out).2.1);(case side3=>exact (Kd.R_reads' HOB.out).2.2);(case side4=>exact (Kd.R_reads' HOB.out).2.1);rintro e w11 ⟨vq,vr,rfl,ho0,ho1,hb⟩;refine ⟨_,rfl,?_⟩;have HOQ:=Aside0.mk (Kd.R_mono (ok':=fun _=>True) (Kd.R_lower ho0 (below_size HB.out)) (fun _ _=>trivial));have HOR:=Aside0.mk (Kd.R_mono (ok':=fun _=>True) (Kd.R_lower ho1 (below_size HB.out)) (fun _ _=>trivial));have n1_:=Aside0.mk (Kd.R_below HOX.out hb);have n2_:=Aside0.mk (Kd.R_below HOB.out hb);have n3_:=Aside0.mk (Kd.R_below HOP.out hb);have n4_:=Aside0.mk (below_step HB.out hb);clear HB HOX HOB HOP;have HOX:=n1_;have HOB:=n2_;have HOP:=n3_;have HB:=n4_;clear n1_ n2_ n3_ n4_ hb ho0 ho1 gd_ A8;obtain ⟨Ar,cr,er⟩:=Kd.R_slice HOR.out;subst er;obtain ⟨ad,had,hcell⟩:=Kd.at_int (Kd.R_reads' HOR.out).2.2 0 (by decide) (by have:=C9.out;omega);cases had;rw [HN2.out] at hcell;replace hcell : w11.cell? (ad.add 0)=some (.int .u32 nv):=hcell;rw [Addr.add_zero'] at hcell))
     have N1:=N0.out
     go_loopw [8,34] (fun v8 v34 wr=>∃ j : Nat,j≤9∧v34=.int .i64 j∧v8=.int .u32 (nv / 10 ^ j)∧Aside0 (Below w11.heap.size w11 wr)∧Aside0 (wr.heap[w11.heap.size]? = some (.cells (arrV nv j) 56 (0,0)))) (fun _ i _=>9 - (intOf i).toNat)
     case atStart=>exact ⟨0,by decide,rfl,by rw [Int.pow_zero,Int.ediv_one],⟨ba (Below.refl _ _) _⟩,⟨World.alloc_heap_new _ _⟩⟩
     case round =>
      obtain ⟨j,hj,rfl,rfl,HBw,HA⟩:=hrel
      have HJ:=Aside0.mk hj
      by_cases hlt : j < 9
      ·obtain ⟨t,ht⟩ : ∃ t : Nat,t+j=8:=⟨8 - j,by omega⟩
       have h8 : (8 : Int) - (j : Int)=(t : Int):=by omega
       have ht9 : t < 9:=by omega
       have hc : wr.cell? ⟨w11.heap.size,t,none⟩=some (.int .u8 0):=(cell_of_row wr w11.heap.size t _ 56 (0,0) HA.out).trans (arrV_old nv (by omega))
       have hf : wr.frozen? ⟨w11.heap.size,t,none⟩=false:=frozen_of_row wr w11.heap.size t _ 56 HA.out
       obtain ⟨m,hm⟩ : ∃ m,nv / 10 ^ j=m:=⟨_,rfl⟩
       have hm0 : 0≤m:=by rw [← hm];exact Int.ediv_nonneg N1.1 (Int.le_of_lt (Int.pow_pos (by decide)))
       have hm1 : m < 4294967296:=by rw [← hm];exact Int.lt_of_le_of_lt (Int.ediv_le_self _ N1.1) N1.2
       rw [hm]
       have HM:=Aside0.mk hm
       have HT:=Aside0.mk ht
       clear hm ht hj
       go_wp2
       go_roundw
       case rel=>exact ⟨j+1,by have:=HJ.out;omega,by go_num,by rw [← HM.out,Int.pow_succ,Int.ediv_ediv_of_nonneg (Int.le_of_lt (Int.pow_pos (by decide)))],⟨HBw.out.setCell (p:=⟨w11.heap.size,t,none⟩) (Nat.le_refl _) _⟩,⟨(heap_setCell_same wr w11.heap.size t _ 56 _ HA.out).trans (by rw [← HM.out,arrV_succ nv HT.out])⟩⟩
       case measure=>simp [intOf] <;> omega
      ·obtain rfl : j=9:=by omega
       have hq:=conv_nine HA.out
       have n1_:=Aside0.mk (Kd.R_below HOQ.out HBw.out)
       have n2_:=Aside0.mk (Kd.R_below HOB.out HBw.out)
       have n3_:=Aside0.mk (Kd.R_below HOP.out HBw.out)
       have n4_:=Aside0.mk (below_step HB.out HBw.out)
       clear HOQ HOB HOP HB HOX HOR
       have HOQ:=n1_
       have HOB:=n2_
       have HOP:=n3_
       have HB:=n4_
       clear n1_ n2_ n3_ n4_ hj hlt HJ
       obtain ⟨s9,hs9⟩ : ∃ s9,decimal_Natural.n nv=s9:=⟨_,rfl⟩
       rw [hs9] at hq H'
       clear hs9
       obtain ⟨Ap,cp,ep⟩:=Kd.R_slice HOP.out
       subst ep
       go_wp2_with (first
       |((with_reducible refine gate_builtin (b:=.append) (xs:=#[.tmp 47,.tmp 50]) rfl ?_);at_builtin;refine Kd.R_append Kd.string (w0:=w) w.heap.size rfl (.tmp 47) (.tmp 50) 53 9 (.string ⟨#[]⟩) 16 rfl Tryd.underlying53 info9 rfl (by decide) (by omega) (.slice Ap ps.length cp) ps s9 [.string s9] (fun _=>True) (fun _=>False) rfl rfl ?aP (fun _ hk=>hk.elim) ?aF ?aO ?aB ?aS ?aL ?_;(case aP=>exact rfl);(case aB=>exact (Hu HB.out));(case aF=>exact (fun _ _=>trivial));(case aO=>exact (Ru HOP.out));(case aS=>exact (below_size (Hu HB.out)));(case aL=>have:=LM.out;omega);intro v4n w19 ho hb hg hat;have n1_:=Aside0.mk (Kd.R_over' (Ru HOQ.out) (Kd.R_typed (Ru HOP.out)) (by decide) hg);have n2_:=Aside0.mk (Kd.R_over' (Ru HOB.out) (Kd.R_typed (Ru HOP.out)) (by decide) hg);have n3_:=Aside0.mk ho;have n4_:=Aside0.mk hb;clear HOQ HOB HOP HB;have HOQ:=n1_;have HOB:=n2_;have HOP:=n3_;have HB:=n4_;clear n1_ n2_ n3_ n4_ ho hb hg hat))
       go_roundg k1
       case measure=>have:=HK1.out;omega
       case rel=>exact ⟨q,ps++[s9],H',⟨by have:=HK1.out;omega⟩,HOQ,HOB,HOP,HB⟩
    ·have c9b0 : decide (0 < (rr.length : Int))=false:=decide_eq_false c9
     have c9b1 : decide (0 < rr.length)=false:=decide_eq_false (by omega)
     have hn2 : nv=0:=by unfold decimal_Natural.at at hnv;rw [if_neg c9] at hnv;exact hnv.symm
     have HN2:=Aside0.mk hn2
     clear hnv c9
     subst hn2
     go_wp2_with (first
     |((have gd_:=A8);(with_reducible refine gate_callee (f:=37) rfl ?_);refine goesL_ (some 24) rfl rfl Tryd.func37 (by kernel_rfl) rfl #[.slice Ax x.length cx,.slice Ab b.length cb] rfl (by (try simp only [List.map_toArray,List.map_cons,List.map_nil]);first|done|rfl) ?_;(with_reducible refine (nat_DivMod.calls k1 _ _ x _ _ b q rr okk _ ?side1 ?side2 ?side3 ?side4 A8.out).mono ?_);(case side1=>exact (Kd.R_reads' HOX.out).2.2);(case side2=>exact (Kd.R_reads' HOX.out).2.1);(case side3=>exact (Kd.R_reads' HOB.out).2.2);(case side4=>exact (Kd.R_reads' HOB.out).2.1);rintro e w11 ⟨vq,vr,rfl,ho0,ho1,hb⟩;refine ⟨_,rfl,?_⟩;have HOQ:=Aside0.mk (Kd.R_mono (ok':=fun _=>True) (Kd.R_lower ho0 (below_size HB.out)) (fun _ _=>trivial));have HOR:=Aside0.mk (Kd.R_mono (ok':=fun _=>True) (Kd.R_lower ho1 (below_size HB.out)) (fun _ _=>trivial));have n1_:=Aside0.mk (Kd.R_below HOX.out hb);have n2_:=Aside0.mk (Kd.R_below HOB.out hb);have n3_:=Aside0.mk (Kd.R_below HOP.out hb);have n4_:=Aside0.mk (below_step HB.out hb);clear HB HOX HOB HOP;have HOX:=n1_;have HOB:=n2_;have HOP:=n3_;have HB:=n4_;clear n1_ n2_ n3_ n4_ hb ho0 ho1 gd_ A8;obtain ⟨Ar,cr,er⟩:=Kd.R_slice HOR.out;subst er))
     have N1:=N0.out
     go_loopw [8,34] (fun v8 v34 wr=>∃ j : Nat,j≤9∧v34=.int .i64 j∧v8=.int .u32 ((0 : Int) / 10 ^ j)∧Aside0 (Below w11.heap.size w11 wr)∧Aside0 (wr.heap[w11.heap.size]? = some (.cells (arrV (0 : Int) j) 56 (0,0)))) (fun _ i _=>9 - (intOf i).toNat)
     case atStart=>exact ⟨0,by decide,rfl,by rw [Int.pow_zero,Int.ediv_one],⟨ba (Below.refl _ _) _⟩,⟨World.alloc_heap_new _ _⟩⟩
     case round =>
      obtain ⟨j,hj,rfl,rfl,HBw,HA⟩:=hrel
      have HJ:=Aside0.mk hj
      by_cases hlt : j < 9
      ·obtain ⟨t,ht⟩ : ∃ t : Nat,t+j=8:=⟨8 - j,by omega⟩
       have h8 : (8 : Int) - (j : Int)=(t : Int):=by omega
       have ht9 : t < 9:=by omega
       have hc : wr.cell? ⟨w11.heap.size,t,none⟩=some (.int .u8 0):=(cell_of_row wr w11.heap.size t _ 56 (0,0) HA.out).trans (arrV_old (0 : Int) (by omega))
       have hf : wr.frozen? ⟨w11.heap.size,t,none⟩=false:=frozen_of_row wr w11.heap.size t _ 56 HA.out
       obtain ⟨m,hm⟩ : ∃ m,(0 : Int) / 10 ^ j=m:=⟨_,rfl⟩
       have hm0 : 0≤m:=by rw [← hm];exact Int.ediv_nonneg N1.1 (Int.le_of_lt (Int.pow_pos (by decide)))
       have hm1 : m < 4294967296:=by rw [← hm];exact Int.lt_of_le_of_lt (Int.ediv_le_self _ N1.1) N1.2
       rw [hm]
       have HM:=Aside0.mk hm
       have HT:=Aside0.mk ht
       clear hm ht hj
       go_wp2
       go_roundw
       case rel=>exact ⟨j+1,by have:=HJ.out;omega,by go_num,by rw [← HM.out,Int.pow_succ,Int.ediv_ediv_of_nonneg (Int.le_of_lt (Int.pow_pos (by decide)))],⟨HBw.out.setCell (p:=⟨w11.heap.size,t,none⟩) (Nat.le_refl _) _⟩,⟨(heap_setCell_same wr w11.heap.size t _ 56 _ HA.out).trans (by rw [← HM.out,arrV_succ (0 : Int) HT.out])⟩⟩
       case measure=>simp [intOf] <;> omega
      ·obtain rfl : j=9:=by omega
       have hq:=conv_nine HA.out
       have n1_:=Aside0.mk (Kd.R_below HOQ.out HBw.out)
       have n2_:=Aside0.mk (Kd.R_below HOB.out HBw.out)
       have n3_:=Aside0.mk (Kd.R_below HOP.out HBw.out)
       have n4_:=Aside0.mk (below_step HB.out HBw.out)
       clear HOQ HOB HOP HB HOX HOR
       have HOQ:=n1_
       have HOB:=n2_
       have HOP:=n3_
       have HB:=n4_
       clear n1_ n2_ n3_ n4_ hj hlt HJ
       obtain ⟨s9,hs9⟩ : ∃ s9,decimal_Natural.n (0 : Int)=s9:=⟨_,rfl⟩
       rw [hs9] at hq H'
       clear hs9
       obtain ⟨Ap,cp,ep⟩:=Kd.R_slice HOP.out
       subst ep
       go_wp2_with (first
       |((with_reducible refine gate_builtin (b:=.append) (xs:=#[.tmp 47,.tmp 50]) rfl ?_);at_builtin;refine Kd.R_append Kd.string (w0:=w) w.heap.size rfl (.tmp 47) (.tmp 50) 53 9 (.string ⟨#[]⟩) 16 rfl Tryd.underlying53 info9 rfl (by decide) (by omega) (.slice Ap ps.length cp) ps s9 [.string s9] (fun _=>True) (fun _=>False) rfl rfl ?aP (fun _ hk=>hk.elim) ?aF ?aO ?aB ?aS ?aL ?_;(case aP=>exact rfl);(case aB=>exact (Hu HB.out));(case aF=>exact (fun _ _=>trivial));(case aO=>exact (Ru HOP.out));(case aS=>exact (below_size (Hu HB.out)));(case aL=>have:=LM.out;omega);intro v4n w19 ho hb hg hat;have n1_:=Aside0.mk (Kd.R_over' (Ru HOQ.out) (Kd.R_typed (Ru HOP.out)) (by decide) hg);have n2_:=Aside0.mk (Kd.R_over' (Ru HOB.out) (Kd.R_typed (Ru HOP.out)) (by decide) hg);have n3_:=Aside0.mk ho;have n4_:=Aside0.mk hb;clear HOQ HOB HOP HB;have HOQ:=n1_;have HOB:=n2_;have HOP:=n3_;have HB:=n4_;clear n1_ n2_ n3_ n4_ ho hb hg hat))
       go_roundg k1
       case measure=>have:=HK1.out;omega
       case rel=>exact ⟨q,ps++[s9],H',⟨by have:=HK1.out;omega⟩,HOQ,HOB,HOP,HB⟩
   ·rw [if_neg c7] at H
    have c7b0 : decide (0 < (x.length : Int))=false:=decide_eq_false c7
    have c7b1 : decide (0 < x.length)=false:=decide_eq_false (by omega)
    obtain rfl:=Option.some.inj H
    clear c7 H
    obtain ⟨Ax,cx,ex⟩:=Kd.R_slice HOX.out
    subst ex
    obtain ⟨Ap,cp,ep⟩:=Kd.R_slice HOP.out
    subst ep
    go_wp2_with (first
    |(go_at_call 38;refine (Bw.backward Ap ps.length cp _).mono ?_;rintro e w' ⟨rfl,rfl⟩))
    have hp9 : ∀ p∈ps,p.size≤9:=HN9.out
    obtain ⟨zs,hzs⟩:=Bw.lift9 hp9
    have hzl : zs.length=ps.length:=by rw [← hzs,List.length_map]
    have hbound : ps.length < 8796093021952:=by
     have hE:=HE.out
     by_cases hb : ps.length < 8796093021952
     ·exact hb
     ·rw [if_neg hb] at hE;cases hE
    have hstr:=Bw.strs_of HOP.out hzs
    have hB0 : Below w.heap.size w ((wr.alloc (.cells #[.pointer none,.slice none 0 0] 59)).alloc (.cells #[.slice Ap ps.length cp] 53)):=ba (ba HB.out _) _
    have hB1 : Below wr.heap.size wr ((wr.alloc (.cells #[.pointer none,.slice none 0 0] 59)).alloc (.cells #[.slice Ap ps.length cp] 53)):=ba (ba (Below.refl _ _) _) _
    have hbox : ((wr.alloc (.cells #[.pointer none,.slice none 0 0] 59)).alloc (.cells #[.slice Ap ps.length cp] 53)).heap[wr.heap.size+1]? = some (.cells #[.slice Ap ps.length cp] 53 (0,0)):=by
     have h_:=World.alloc_heap_new (wr.alloc (.cells #[.pointer none,.slice none 0 0] 59)) (.cells #[.slice Ap ps.length cp] 53)
     rwa [World.size_alloc] at h_
    have hbld : ((wr.alloc (.cells #[.pointer none,.slice none 0 0] 59)).alloc (.cells #[.slice Ap ps.length cp] 53)).heap[wr.heap.size]? = some (.cells #[.pointer none,.slice none 0 0] 59 (0,0)):=by
     rw [Below.heap_alloc _ _ _ (by simp)]
     exact World.alloc_heap_new _ _
    have hsz:=HB.out.size
    have hwsz : ((wr.alloc (.cells #[.pointer none,.slice none 0 0] 59)).alloc (.cells #[.slice Ap ps.length cp] 53)).heap.size=wr.heap.size+2:=by simp
    have hcell : ((wr.alloc (.cells #[.pointer none,.slice none 0 0] 59)).alloc (.cells #[.slice Ap ps.length cp] 53)).cell? ⟨wr.heap.size+1,0,none⟩=some (.slice Ap ps.length cp):=(cell_of_row _ _ 0 _ 53 (0,0) hbox).trans rfl
    generalize hW0 : (wr.alloc (.cells #[.pointer none,.slice none 0 0] 59)).alloc (.cells #[.slice Ap ps.length cp] 53)=W0 at *
    refine (wpIn_wide (n:=3)).1 ?_
    refine wpIn_rangeFunc_ownG (F:=Fence.wide) rfl (by decide) (gf:=64) (lb:=#[.pointer (some ⟨wr.heap.size+1,0,none⟩)]) rfl trivial (enters_of Tryd.func64 (by kernel_rfl) rfl)
     (Bw.stops Fence.wide 2 trivial rfl (by decide) (wr.heap.size+1) wr.heap.size _ zs (by omega) W0 (by omega) (by omega) hcell (hstr.below hB1)) (fun h k=>Bw.Keep.trans h k) (Bw.keep_b (by omega) (by omega)) (Below.refl _ _) (fun _=>rfl)
     (fun pre W=>Lib.IsBuilderF 59 5 wr.heap.size wr.heap.size (Lib.byteCells (Bw.cat pre)) W∧W.heap[wr.heap.size+1]? = some (.cells #[.slice Ap ps.length cp] 53 (0,0))∧Below w.heap.size w W)
     (fun _ _ _=>False)
     (OwnFrom.and (Bw.own_builder (fun pre=>Lib.byteCells (Bw.cat pre)) _) (OwnFrom.and (Bw.own_cells _ _) (ownFrom_below (Nat.le_refl _) (by omega))))
     (fun _ _ _ _ _ hs _ _=>hs)
     ⟨.inl ⟨Nat.le_refl _,_,hbld,World.ownsRowF_nil _ _ _ _,by simp [Value.ownBlock]⟩,hbox,hB0⟩
     (fun y=>{ tmps:=#[.slice Ax x.length cx,undef,.string ⟨#[]⟩,vb,.slice Ap ps.length cp,u5,u6,u7,u8,u9,u10,.pointer (some ⟨wr.heap.size,0,none⟩),undef,.string y.2.1,undef,.slice A0 l0.length c0,va,vb,.slice Ax x.length cx,.int .i64 (x.length : Int),.bool false,u21,u22,u23,u24,u25,u26,u27,u28,u29,u30,u31,u32,u33,u34,u35,u36,u37,u38,u39,u40,u41,u42,u43,u44,u45,u46,u47,u48,u49,u50,u51,u52,.slice Ap ps.length cp,.func (.func 64) #[] #[.pointer (some ⟨wr.heap.size+1,0,none⟩)],.int .i64 (y.1 : Int),.string y.2.1,undef,undef,undef,undef,undef,undef,undef],defers:=[] }) ?assign ?body ?done ?stop
    case assign =>
     intro l y W K hK
     gi_wp2
     exact hK
    case body =>
     rintro l pre y W ⟨hbd,hbx,hB⟩ hlen
     have hcl:=Bw.cat_length pre
     have hy9:=y.2.2
     have hlim : (Lib.byteCells (Bw.cat pre)).length+y.2.1.size≤140737488355328:=by rw [Lib.byteCells_length];omega
     have hbw : wr.heap.size≤W.heap.size:=by have:=(Array.getElem?_eq_some_iff.1 hbx).1;omega
     have HW:=Any.Builder_WriteString_k (ρ:=Tryd.lays105_ren) { Tryd.lays105 with } Tryd.Builder_Extra_105 wr.heap.size wr.heap.size _ y.2.1 W hbd hlim hbw
     change Calls Tryd.prog 39 _ W (fun e w'=>e=.returned (.tuple #[.int .i64 y.2.1.size,.nilIface])∧(Lib.BuilderAtF 59 5 wr.heap.size wr.heap.size (.pointer (some ⟨wr.heap.size,0,none⟩)) (Lib.byteCells (Bw.cat pre)++Lib.strCells y.2.1) w'∧Below wr.heap.size W w'∧Lib.OthersKept 5 (some wr.heap.size) W w')) at HW
     gi_wp2
     refine ⟨trivial,?_⟩
     refine (CallsIn.inRound l (callsIn_wide.2 HW)).mono ?_
     rintro e W' ⟨rfl,hat,hbel,hoth⟩
     gi_wp2
     have hbx':=hoth (wr.heap.size+1) _ hbx (by simp) (fun c fz e1=>by cases e1)
     refine ⟨⟨hbel.size,fun k o hk ho hoc=>hoth k o ho (fun e1=>by injection e1 with e1;omega) (fun c fz e1=>by subst e1;simp [Obj.isCells] at hoc)⟩,⟨hbel,fun o ho=>?_⟩,.inr ?_,hbx',hB.trans (hbel.mono hsz)⟩
     ·rw [hbx] at ho
      cases ho
      exact hbx'
     ·rw [Bw.cat_snoc,Bw.byteCells_append,← Bw.strCells_eq]
      exact hat
    case done =>
     rintro D ys W hD rfl ⟨hbd,hbx,hB⟩ hK
     have hbw : wr.heap.size≤W.heap.size:=by have:=(Array.getElem?_eq_some_iff.1 hbx).1;omega
     have hcat:=Bw.cat_back hzs
     have HS:=Any.Builder_String_any_k Tryd.lays169 Tryd.Builder_Extra_169 wr.heap.size wr.heap.size _ W hbd hbw
     obtain ⟨bl,hbl⟩ : ∃ bl,Bw.cat (Bw.back zs zs.length)=bl:=⟨_,rfl⟩
     rw [hbl] at HS hcat
     change Calls Tryd.prog 41 _ W (fun e w'=>e=.returned (.string ⟨bl.toArray⟩)∧(Lib.IsBuilderF 59 5 wr.heap.size wr.heap.size (Lib.byteCells bl) w'∧Below wr.heap.size W w'∧Lib.OthersKept 5 (some wr.heap.size) W w')) at HS
     obtain ⟨rs,hrs⟩ : ∃ rs,(⟨(bl.dropWhile fun x=>x == 48).toArray⟩ : ByteArray)=rs:=⟨_,rfl⟩
     have hT : strings_TrimLeft.f ⟨bl.toArray⟩ ⟨#[48]⟩=some rs:=by
      unfold strings_TrimLeft.f
      rw [if_pos ⟨by decide,by decide⟩,← hrs]
      simp
      rfl
     have hE:=HE.out
     rw [if_pos hbound] at hE
     have hE:=Option.some.inj hE
     have hdb : decimal_Natural.b ps=bl:=by rw [hcat];rfl
     rw [hdb] at hE
     have HE2:=Aside0.mk hE
     have HRS:=Aside0.mk hrs
     have HT:=Aside0.mk hT
     clear hE hrs hT hdb hbl hcat
     by_cases hemp : rs=⟨#[]⟩
     ·have hr : r=⟨#[48]⟩:=by
       rw [← HE2.out,if_pos]
       have h_:=HRS.out
       rw [hemp] at h_
       injection h_ with h_
       have h2_ : (bl.dropWhile fun x=>x == 48)=[]:=by simpa using h_
       rw [h2_]
       rfl
      subst hemp
      go_wp2_with (first
      |(go_at_call 41;refine HS.mono ?_;rintro e W2 ⟨rfl,_,hb2,ho2⟩)
      |(go_at_call 40;refine (strings_TrimLeft.calls _ _ _ _ HT.out).mono ?_;rintro e W3 ⟨rfl,hb3⟩))
      have hK2:=ho2 D _ hK (fun e1=>by injection e1 with e1;omega) (fun c fz e1=>by cases e1)
      have hK3:=(hb3.block D (Array.getElem?_eq_some_iff.1 hK2).1).trans hK2
      refine ⟨by simp,.inl ⟨_,_,rfl,run_takeDeferred hK3,?_⟩⟩
      refine ⟨_,results_tmp rfl _ _ _,by rw [hr];rfl,?_⟩
      exact ((hB.trans (hb2.mono hsz)).trans (hb3.mono (Nat.le_trans hB.size hb2.size))).trans (belowK_b (w:=w) (Nat.le_refl _) W3 D _ _ (by omega) hK3 rfl rfl)
     ·have hr : r=rs:=by
       rw [← HE2.out,← HRS.out,if_neg]
       intro h_
       refine hemp ?_
       rw [← HRS.out]
       have h2_ : (bl.dropWhile fun x=>x == 48)=[]:=by simpa using h_
       rw [h2_]
      have hne : rs.toList.isEmpty=false:=by
       rw [Lib.toList_data]
       cases hrl : rs.data.toList with
      |nil =>
        refine absurd ?_ hemp
        cases rs with
       |mk d =>
         have h_ : d=#[]:=Array.toList_inj.1 (by rw [show d.toList=[] from hrl])
         rw [h_]
      |cons _ _=>rfl
      go_wp2_with (first
      |(go_at_call 41;refine HS.mono ?_;rintro e W2 ⟨rfl,_,hb2,ho2⟩)
      |(go_at_call 40;refine (strings_TrimLeft.calls _ _ _ _ HT.out).mono ?_;rintro e W3 ⟨rfl,hb3⟩))
      have hK2:=ho2 D _ hK (fun e1=>by injection e1 with e1;omega) (fun c fz e1=>by cases e1)
      have hK3:=(hb3.block D (Array.getElem?_eq_some_iff.1 hK2).1).trans hK2
      refine ⟨by simp,.inl ⟨_,_,rfl,run_takeDeferred hK3,?_⟩⟩
      refine ⟨_,results_tmp rfl _ _ _,by rw [hr];rfl,?_⟩
      exact ((hB.trans (hb2.mono hsz)).trans (hb3.mono (Nat.le_trans hB.size hb2.size))).trans (belowK_b (w:=w) (Nat.le_refl _) W3 D _ _ (by omega) hK3 rfl rfl)
    case stop =>
     rintro D c pre W hD _ h _
     exact h.elim
end Go.Proofs.YtncdiodnbkhacaaDoor.Pq
end
section
namespace Go.Proofs.YtncdiodnbkhacaaDoor.Pq
open Go.RowKit Go.Proofs.YtncdiodnbkhacaaDoorW.PrintWords Go.Proofs.YtncdiodnbkhacaaDoorW.PrintLast Go.Proofs.YtncdiodnbkhacaaDoorW.PrintMore
attribute [local go_sem] max2_int min2_int max_two min_two max_three min_three max_four min_four
set_option linter.unusedVariables false
set_option linter.unusedSimpArgs false
open Go.Shelf
theorem decimal_Print.mono : ∀ a0 a1 a2 k,LeO (decimal_Print.f k a0 a1 a2) (decimal_Print.f (k+1) a0 a1 a2):=by
 intro a0 a1 a2 k
 unfold decimal_Print.f
 with_reducible repeat' first
  |exact decimal_Natural.mono _ _
  |exact rat_Read.mono _ _ _ _
  |exact LeO.refl _
  |exact LeO.none _
  |refine LeO.ite ?_ ?_
  |refine LeO.bind ?_ (fun _=>?_)
set_option maxHeartbeats 8000000 in
set_option maxRecDepth 100000 in
theorem decimal_Print.calls (k : Nat) (a0_0 : Bool) (A0_1 : Option Addr) (c0_1 : Nat) (l0_1 : List Int) (A0_2 : Option Addr) (c0_2 : Nat) (l0_2 : List Int) (r : ByteArray) (w : World) (hr0_1 : Kd.C (Kd.int .u32) w A0_1 l0_1.length l0_1) (hc0_1 : l0_1.length≤c0_1) (hr0_2 : Kd.C (Kd.int .u32) w A0_2 l0_2.length l0_2) (hc0_2 : l0_2.length≤c0_2) (h : decimal_Print.f k a0_0 l0_1 l0_2=some r) :
  Calls Tryd.prog 12 #[.agg #[.bool a0_0,.slice A0_1 l0_1.length c0_1,.slice A0_2 l0_2.length c0_2]] w fun e w'=>e=.returned (.string r)∧Below w.heap.size w w':=by
 have hu25:=Tryd.underlying25
 have HR0_1:=Aside0.mk hr0_1
 have HC0_1:=Aside0.mk hc0_1
 clear hr0_1 hc0_1
 have HR0_2:=Aside0.mk hr0_2
 have HC0_2:=Aside0.mk hc0_2
 clear hr0_2 hc0_2
 have HB:=Aside0.mk (Below.refl w.heap.size w)
 have H : ((rat_Read.f k a0_0 l0_1 l0_2).bind fun bt408=>((decimal_Natural.f k bt408.2.1).bind fun t415=>(if bt408.1=true then (if 1+t415.size≤9223372036854775807 then ((decimal_Natural.f k bt408.2.2).bind fun t416=>(if t416.toList=([49] : List UInt8) then (some ((⟨#[45]⟩ : ByteArray)++t415)) else (if 1+t416.size≤9223372036854775807 then (if ((⟨#[45]⟩ : ByteArray)++t415).size+((⟨#[47]⟩ : ByteArray)++t416).size≤9223372036854775807 then (some (((⟨#[45]⟩ : ByteArray)++t415)++((⟨#[47]⟩ : ByteArray)++t416))) else (none)) else (none)))) else (none)) else ((decimal_Natural.f k bt408.2.2).bind fun t417=>(if t417.toList=([49] : List UInt8) then (some t415) else (if 1+t417.size≤9223372036854775807 then (if t415.size+((⟨#[47]⟩ : ByteArray)++t417).size≤9223372036854775807 then (some (t415++((⟨#[47]⟩ : ByteArray)++t417))) else (none)) else (none)))))))=some r:=h
 clear h
 replace H:=Option.bind_eq_some_iff.mp H
 obtain ⟨⟨t408,t409,t412⟩,A20,H⟩:=H
 try dsimp only at H
 have A2:=Aside0.mk A20
 clear A20
 replace H:=Option.bind_eq_some_iff.mp H
 obtain ⟨t415,A30,H⟩:=H
 try dsimp only at H
 have A3:=Aside0.mk A30
 clear A30
 by_cases c4 : t408=true
 ·subst c4
  rw [if_pos rfl] at H
  by_cases c5 : 1+t415.size≤9223372036854775807
  case neg =>rw [if_neg c5] at H;exact absurd H (by simp)
  rw [if_pos c5] at H
  have c5b0:=eq_true c5
  have c5b1 : decide (1+t415.size≤9223372036854775807)=true:=decide_eq_true c5
  try have c5b2 : (9223372036854775807 < 1+t415.size)=False:=eq_false (Nat.not_lt.2 c5)
  replace H:=Option.bind_eq_some_iff.mp H
  obtain ⟨t416,A60,H⟩:=H
  try dsimp only at H
  have A6:=Aside0.mk A60
  clear A60
  by_cases c7 : t416.toList=([49] : List UInt8)
  ·rw [if_pos c7] at H
   have c7b0 : (t416.toList == ([49] : List UInt8))=true:=beq_iff_eq.mpr c7
   have c7b1 : (t416.toList != ([49] : List UInt8))=false:=bne_eq_false_iff_eq.mpr c7
   clear c7
   obtain rfl:=Option.some.inj H
   go_enter Tryd.func12,Tryd.ntmps12
   go_wp2_with (first|((with_reducible refine gate_dst (N:=1) rfl ?_);refine box_event ?hg (N:=1) ?hd (cs:=#[.bool a0_0,.slice A0_1 l0_1.length c0_1,.slice A0_2 l0_2.length c0_2]) (t:=25) ?hr ?_;(case hd=>rfl);(case hg=>rfl);(case hr=>first|(go_simp;done)|(go_simp;(with_reducible rfl))|(go_simp;rfl)|(go_simp;simp only [hu,Int.emod_sub_emod]));intro gb407 hg w8 hbox hb;have n0_:=Aside0.mk (below_step (Hu HB.out) hb);have n1_:=Aside0.mk (hbox);have n2_:=Aside0.mk ((by rw [hg];exact (below_size (Hu HB.out)) : w.heap.size≤gb407));have n3_:=Aside0.mk ((by rw [hg];exact (below_size (Hu HB.out)) : w.heap.size≤gb407));clear HB;have HB:=n0_;have BK407:=n1_;have GW407:=n2_;have GE407:=n3_;clear n0_ n1_ n2_ n3_;clear hb hbox hg;have hcz9_0 : w8.cell? ⟨gb407,0,none⟩=some (.bool a0_0):=(blk_cell BK407.out 0).trans rfl;have hcz9_1 : w8.cell? ⟨gb407,1,none⟩=some (.slice A0_1 l0_1.length c0_1):=(blk_cell BK407.out 1).trans rfl;have hcz9_2 : w8.cell? ⟨gb407,2,none⟩=some (.slice A0_2 l0_2.length c0_2):=(blk_cell BK407.out 2).trans rfl;have hfz9_0:=blk_frozen BK407.out 0;have hfz9_1:=blk_frozen BK407.out 1;have hfz9_2:=blk_frozen BK407.out 2)|((with_reducible refine gate_callee (f:=18) rfl ?_);refine goesL_ (some 6) rfl rfl Tryd.func18 (by kernel_rfl) rfl #[.agg #[.bool a0_0,.slice A0_1 l0_1.length c0_1,.slice A0_2 l0_2.length c0_2]] rfl (by (try simp only [List.map_toArray,List.map_cons,List.map_nil]);first|done|rfl) ?_;(with_reducible refine (rat_Read.calls k a0_0 _ _ l0_1 _ _ l0_2 true t409 t412 _ ?side1 ?side2 ?side3 ?side4 A2.out).mono ?_);(case side1=>repeat (first|exact (Kd.C_below HR0_1.out HB.out)|(with_reducible refine Kd.C_alloc ?_ _)|(with_reducible refine Kd.C_drewN ?_ _)|(with_reducible refine Kd.C_drew ?_)));(case side2=>exact HC0_1.out);(case side3=>repeat (first|exact (Kd.C_below HR0_2.out HB.out)|(with_reducible refine Kd.C_alloc ?_ _)|(with_reducible refine Kd.C_drewN ?_ _)|(with_reducible refine Kd.C_drew ?_)));(case side4=>exact HC0_2.out);rintro e w10 ⟨v410,v413,rfl,ho0,ho1,hb⟩;refine ⟨_,rfl,?_⟩;have n0_:=Aside0.mk (Kd.R_lower ho0 (below_size (by repeat (first|with_reducible exact HB.out|apply ba|apply bn|apply b1|refine below_set ?_ GE407.out))));have n1_:=Aside0.mk (Kd.R_lower ho1 (below_size (by repeat (first|with_reducible exact HB.out|apply ba|apply bn|apply b1|refine below_set ?_ GE407.out))));have n2_:=Aside0.mk (blk_below (g:=gb407) (o:=.cells #[.bool a0_0,.slice A0_1 l0_1.length c0_1,.slice A0_2 l0_2.length c0_2] 25 (0,0)) (Bu BK407.out) hb);have n3_:=Aside0.mk (below_step (by repeat (first|with_reducible exact HB.out|apply ba|apply bn|apply b1|refine below_set ?_ GE407.out)) hb);clear BK407;clear HB;have HO411:=n0_;have HO414:=n1_;have BK407:=n2_;have HB:=n3_;clear n0_ n1_ n2_ n3_;have hcz11_0 : w10.cell? ⟨gb407,0,none⟩=some (.bool a0_0):=(blk_cell BK407.out 0).trans rfl;have hcz11_1 : w10.cell? ⟨gb407,1,none⟩=some (.slice A0_1 l0_1.length c0_1):=(blk_cell BK407.out 1).trans rfl;have hcz11_2 : w10.cell? ⟨gb407,2,none⟩=some (.slice A0_2 l0_2.length c0_2):=(blk_cell BK407.out 2).trans rfl;have hfz11_0:=blk_frozen BK407.out 0;have hfz11_1:=blk_frozen BK407.out 1;have hfz11_2:=blk_frozen BK407.out 2;obtain ⟨Ao12,co12,eo12⟩:=Kd.R_slice HO411.out;subst eo12;obtain ⟨Ao13,co13,eo13⟩:=Kd.R_slice HO414.out;subst eo13)|((with_reducible refine gate_callee (f:=14) rfl ?_);refine goesL_ (some 9) rfl rfl Tryd.func14 (by kernel_rfl) rfl #[.slice Ao12 t409.length co12] rfl (by (try simp only [List.map_toArray,List.map_cons,List.map_nil]);first|done|rfl) ?_;(with_reducible refine (decimal_Natural.calls k _ _ t409 t415 _ ?side1 ?side2 A3.out).mono ?_);(case side1=>refine (Kd.R_reads' (e:=35) (base:=w.heap.size) (ok:=fun k_=>some k_≠(.slice Ao13 t412.length co13 : Value).ownBlock) (n:=t409.length) (c:=co12) ?_).2.2;exact (by (with_reducible repeat (first|apply Ra|apply Rn|apply Rd));exact (Kd.R_mono (Kd.R_far (p:=⟨gb407,2,none⟩) (Kd.R_far (p:=⟨gb407,1,none⟩) (Kd.R_far (p:=⟨gb407,0,none⟩) (Kd.R_types HO411.out BK407.out (by decide)) (fun _ hk=>hk.2) (.bool true)) (fun _ hk=>hk.2) (.slice Ao12 t409.length co12)) (fun _ hk=>hk.2) (.slice Ao13 t412.length co13)) (fun _ h_=>h_.1))));(case side2=>exact (Kd.R_reads' HO411.out).2.1);rintro e w14 ⟨rfl,hb⟩;refine ⟨_,rfl,?_⟩;have n0_:=Aside0.mk (Kd.R_below (by (with_reducible repeat (first|apply Ra|apply Rn|apply Rd));exact (Kd.R_mono (Kd.R_far (p:=⟨gb407,2,none⟩) (Kd.R_far (p:=⟨gb407,1,none⟩) (Kd.R_far (p:=⟨gb407,0,none⟩) (Kd.R_types HO411.out BK407.out (by decide)) (fun _ hk=>hk.2) (.bool true)) (fun _ hk=>hk.2) (.slice Ao12 t409.length co12)) (fun _ hk=>hk.2) (.slice Ao13 t412.length co13)) (fun _ h_=>h_.1))) hb);have n1_:=Aside0.mk (Kd.R_below (by (with_reducible repeat (first|apply Ra|apply Rn|apply Rd));exact (Kd.R_mono (Kd.R_far (p:=⟨gb407,2,none⟩) (Kd.R_far (p:=⟨gb407,1,none⟩) (Kd.R_far (p:=⟨gb407,0,none⟩) (Kd.R_types HO414.out BK407.out (by decide)) (fun _ hk=>hk.2) (.bool true)) (fun _ hk=>hk.2) (.slice Ao12 t409.length co12)) (fun _ hk=>hk.2) (.slice Ao13 t412.length co13)) (fun _ h_=>h_.1))) hb);have n2_:=Aside0.mk (blk_below (g:=gb407) (o:=.cells #[.bool true,.slice Ao12 t409.length co12,.slice Ao13 t412.length co13] 25 (0,0)) (by (with_reducible repeat (first|refine blk_drewN ?_ _|refine blk_drew ?_|refine blk_alloc ?_ _));refine blk_put (cs:=#[.bool true,.slice Ao12 t409.length co12,.slice A0_2 l0_2.length c0_2]) ?_ 2 _ rfl;(with_reducible repeat (first|refine blk_drewN ?_ _|refine blk_drew ?_|refine blk_alloc ?_ _));refine blk_put (cs:=#[.bool true,.slice A0_1 l0_1.length c0_1,.slice A0_2 l0_2.length c0_2]) ?_ 1 _ rfl;(with_reducible repeat (first|refine blk_drewN ?_ _|refine blk_drew ?_|refine blk_alloc ?_ _));refine blk_put (cs:=#[.bool a0_0,.slice A0_1 l0_1.length c0_1,.slice A0_2 l0_2.length c0_2]) ?_ 0 _ rfl;(with_reducible repeat (first|refine blk_drewN ?_ _|refine blk_drew ?_|refine blk_alloc ?_ _));exact BK407.out) hb);have n3_:=Aside0.mk (below_step (by repeat (first|with_reducible exact HB.out|apply ba|apply bn|apply b1|refine below_set ?_ GE407.out)) hb);clear HO411;clear HO414;clear BK407;clear HB;have HO411:=n0_;have HO414:=n1_;have BK407:=n2_;have HB:=n3_;clear n0_ n1_ n2_ n3_;have hcz15_0 : w14.cell? ⟨gb407,0,none⟩=some (.bool true):=(blk_cell BK407.out 0).trans rfl;have hcz15_1 : w14.cell? ⟨gb407,1,none⟩=some (.slice Ao12 t409.length co12):=(blk_cell BK407.out 1).trans rfl;have hcz15_2 : w14.cell? ⟨gb407,2,none⟩=some (.slice Ao13 t412.length co13):=(blk_cell BK407.out 2).trans rfl;have hfz15_0:=blk_frozen BK407.out 0;have hfz15_1:=blk_frozen BK407.out 1;have hfz15_2:=blk_frozen BK407.out 2)|((with_reducible refine gate_callee (f:=14) rfl ?_);refine goesL_ (some 16) rfl rfl Tryd.func14 (by kernel_rfl) rfl #[.slice Ao13 t412.length co13] rfl (by (try simp only [List.map_toArray,List.map_cons,List.map_nil]);first|done|rfl) ?_;(with_reducible refine (decimal_Natural.calls k _ _ t412 t416 _ ?side1 ?side2 A6.out).mono ?_);(case side1=>exact Cu (Kd.R_reads' HO414.out).2.2);(case side2=>exact (Kd.R_reads' HO414.out).2.1);rintro e w16 ⟨rfl,hb⟩;refine ⟨_,rfl,?_⟩;have n0_:=Aside0.mk (Kd.R_below (Ru HO411.out) hb);have n1_:=Aside0.mk (Kd.R_below (Ru HO414.out) hb);have n2_:=Aside0.mk (blk_below (g:=gb407) (o:=.cells #[.bool true,.slice Ao12 t409.length co12,.slice Ao13 t412.length co13] 25 (0,0)) (Bu BK407.out) hb);have n3_:=Aside0.mk (below_step (by repeat (first|with_reducible exact HB.out|apply ba|apply bn|apply b1|refine below_set ?_ GE407.out)) hb);clear HO411;clear HO414;clear BK407;clear HB;have HO411:=n0_;have HO414:=n1_;have BK407:=n2_;have HB:=n3_;clear n0_ n1_ n2_ n3_))
   go_ret
   exact ⟨by first|rfl|(simp [errW_none,errW_some] <;> rfl)|(simp [*,errW_none,errW_some] <;> rfl),by repeat (first|with_reducible exact HB.out|apply ba|apply bn|apply b1|refine below_set ?_ GE407.out)⟩
  ·rw [if_neg c7] at H
   have c7b0 : (t416.toList == ([49] : List UInt8))=false:=beq_eq_false_iff_ne.mpr c7
   have c7b1 : (t416.toList != ([49] : List UInt8))=true:=bne_iff_ne.mpr c7
   by_cases c17 : 1+t416.size≤9223372036854775807
   case neg =>rw [if_neg c17] at H;exact absurd H (by simp)
   rw [if_pos c17] at H
   have c17b0:=eq_true c17
   have c17b1 : decide (1+t416.size≤9223372036854775807)=true:=decide_eq_true c17
   try have c17b2 : (9223372036854775807 < 1+t416.size)=False:=eq_false (Nat.not_lt.2 c17)
   by_cases c18 : ((⟨#[45]⟩ : ByteArray)++t415).size+((⟨#[47]⟩ : ByteArray)++t416).size≤9223372036854775807
   case neg =>rw [if_neg c18] at H;exact absurd H (by simp)
   rw [if_pos c18] at H
   have c18b0:=eq_true c18
   have c18b1 : decide (((⟨#[45]⟩ : ByteArray)++t415).size+((⟨#[47]⟩ : ByteArray)++t416).size≤9223372036854775807)=true:=decide_eq_true c18
   try have c18b2 : (9223372036854775807 < ((⟨#[45]⟩ : ByteArray)++t415).size+((⟨#[47]⟩ : ByteArray)++t416).size)=False:=eq_false (Nat.not_lt.2 c18)
   obtain rfl:=Option.some.inj H
   go_enter Tryd.func12,Tryd.ntmps12
   go_wp2_with (first|((with_reducible refine gate_dst (N:=1) rfl ?_);refine box_event ?hg (N:=1) ?hd (cs:=#[.bool a0_0,.slice A0_1 l0_1.length c0_1,.slice A0_2 l0_2.length c0_2]) (t:=25) ?hr ?_;(case hd=>rfl);(case hg=>rfl);(case hr=>first|(go_simp;done)|(go_simp;(with_reducible rfl))|(go_simp;rfl)|(go_simp;simp only [hu,Int.emod_sub_emod]));intro gb407 hg w19 hbox hb;have n0_:=Aside0.mk (below_step (Hu HB.out) hb);have n1_:=Aside0.mk (hbox);have n2_:=Aside0.mk ((by rw [hg];exact (below_size (Hu HB.out)) : w.heap.size≤gb407));have n3_:=Aside0.mk ((by rw [hg];exact (below_size (Hu HB.out)) : w.heap.size≤gb407));clear HB;have HB:=n0_;have BK407:=n1_;have GW407:=n2_;have GE407:=n3_;clear n0_ n1_ n2_ n3_;clear hb hbox hg;have hcz20_0 : w19.cell? ⟨gb407,0,none⟩=some (.bool a0_0):=(blk_cell BK407.out 0).trans rfl;have hcz20_1 : w19.cell? ⟨gb407,1,none⟩=some (.slice A0_1 l0_1.length c0_1):=(blk_cell BK407.out 1).trans rfl;have hcz20_2 : w19.cell? ⟨gb407,2,none⟩=some (.slice A0_2 l0_2.length c0_2):=(blk_cell BK407.out 2).trans rfl;have hfz20_0:=blk_frozen BK407.out 0;have hfz20_1:=blk_frozen BK407.out 1;have hfz20_2:=blk_frozen BK407.out 2)|((with_reducible refine gate_callee (f:=18) rfl ?_);refine goesL_ (some 6) rfl rfl Tryd.func18 (by kernel_rfl) rfl #[.agg #[.bool a0_0,.slice A0_1 l0_1.length c0_1,.slice A0_2 l0_2.length c0_2]] rfl (by (try simp only [List.map_toArray,List.map_cons,List.map_nil]);first|done|rfl) ?_;(with_reducible refine (rat_Read.calls k a0_0 _ _ l0_1 _ _ l0_2 true t409 t412 _ ?side1 ?side2 ?side3 ?side4 A2.out).mono ?_);(case side1=>repeat (first|exact (Kd.C_below HR0_1.out HB.out)|(with_reducible refine Kd.C_alloc ?_ _)|(with_reducible refine Kd.C_drewN ?_ _)|(with_reducible refine Kd.C_drew ?_)));(case side2=>exact HC0_1.out);(case side3=>repeat (first|exact (Kd.C_below HR0_2.out HB.out)|(with_reducible refine Kd.C_alloc ?_ _)|(with_reducible refine Kd.C_drewN ?_ _)|(with_reducible refine Kd.C_drew ?_)));(case side4=>exact HC0_2.out);rintro e w21 ⟨v410,v413,rfl,ho0,ho1,hb⟩;refine ⟨_,rfl,?_⟩;have n0_:=Aside0.mk (Kd.R_lower ho0 (below_size (by repeat (first|with_reducible exact HB.out|apply ba|apply bn|apply b1|refine below_set ?_ GE407.out))));have n1_:=Aside0.mk (Kd.R_lower ho1 (below_size (by repeat (first|with_reducible exact HB.out|apply ba|apply bn|apply b1|refine below_set ?_ GE407.out))));have n2_:=Aside0.mk (blk_below (g:=gb407) (o:=.cells #[.bool a0_0,.slice A0_1 l0_1.length c0_1,.slice A0_2 l0_2.length c0_2] 25 (0,0)) (Bu BK407.out) hb);have n3_:=Aside0.mk (below_step (by repeat (first|with_reducible exact HB.out|apply ba|apply bn|apply b1|refine below_set ?_ GE407.out)) hb);clear BK407;clear HB;have HO411:=n0_;have HO414:=n1_;have BK407:=n2_;have HB:=n3_;clear n0_ n1_ n2_ n3_;have hcz22_0 : w21.cell? ⟨gb407,0,none⟩=some (.bool a0_0):=(blk_cell BK407.out 0).trans rfl;have hcz22_1 : w21.cell? ⟨gb407,1,none⟩=some (.slice A0_1 l0_1.length c0_1):=(blk_cell BK407.out 1).trans rfl;have hcz22_2 : w21.cell? ⟨gb407,2,none⟩=some (.slice A0_2 l0_2.length c0_2):=(blk_cell BK407.out 2).trans rfl;have hfz22_0:=blk_frozen BK407.out 0;have hfz22_1:=blk_frozen BK407.out 1;have hfz22_2:=blk_frozen BK407.out 2;obtain ⟨Ao23,co23,eo23⟩:=Kd.R_slice HO411.out;subst eo23;obtain ⟨Ao24,co24,eo24⟩:=Kd.R_slice HO414.out;subst eo24)|((with_reducible refine gate_callee (f:=14) rfl ?_);refine goesL_ (some 9) rfl rfl Tryd.func14 (by kernel_rfl) rfl #[.slice Ao23 t409.length co23] rfl (by (try simp only [List.map_toArray,List.map_cons,List.map_nil]);first|done|rfl) ?_;(with_reducible refine (decimal_Natural.calls k _ _ t409 t415 _ ?side1 ?side2 A3.out).mono ?_);(case side1=>refine (Kd.R_reads' (e:=35) (base:=w.heap.size) (ok:=fun k_=>some k_≠(.slice Ao24 t412.length co24 : Value).ownBlock) (n:=t409.length) (c:=co23) ?_).2.2;exact (by (with_reducible repeat (first|apply Ra|apply Rn|apply Rd));exact (Kd.R_mono (Kd.R_far (p:=⟨gb407,2,none⟩) (Kd.R_far (p:=⟨gb407,1,none⟩) (Kd.R_far (p:=⟨gb407,0,none⟩) (Kd.R_types HO411.out BK407.out (by decide)) (fun _ hk=>hk.2) (.bool true)) (fun _ hk=>hk.2) (.slice Ao23 t409.length co23)) (fun _ hk=>hk.2) (.slice Ao24 t412.length co24)) (fun _ h_=>h_.1))));(case side2=>exact (Kd.R_reads' HO411.out).2.1);rintro e w25 ⟨rfl,hb⟩;refine ⟨_,rfl,?_⟩;have n0_:=Aside0.mk (Kd.R_below (by (with_reducible repeat (first|apply Ra|apply Rn|apply Rd));exact (Kd.R_mono (Kd.R_far (p:=⟨gb407,2,none⟩) (Kd.R_far (p:=⟨gb407,1,none⟩) (Kd.R_far (p:=⟨gb407,0,none⟩) (Kd.R_types HO411.out BK407.out (by decide)) (fun _ hk=>hk.2) (.bool true)) (fun _ hk=>hk.2) (.slice Ao23 t409.length co23)) (fun _ hk=>hk.2) (.slice Ao24 t412.length co24)) (fun _ h_=>h_.1))) hb);have n1_:=Aside0.mk (Kd.R_below (by (with_reducible repeat (first|apply Ra|apply Rn|apply Rd));exact (Kd.R_mono (Kd.R_far (p:=⟨gb407,2,none⟩) (Kd.R_far (p:=⟨gb407,1,none⟩) (Kd.R_far (p:=⟨gb407,0,none⟩) (Kd.R_types HO414.out BK407.out (by decide)) (fun _ hk=>hk.2) (.bool true)) (fun _ hk=>hk.2) (.slice Ao23 t409.length co23)) (fun _ hk=>hk.2) (.slice Ao24 t412.length co24)) (fun _ h_=>h_.1))) hb);have n2_:=Aside0.mk (blk_below (g:=gb407) (o:=.cells #[.bool true,.slice Ao23 t409.length co23,.slice Ao24 t412.length co24] 25 (0,0)) (by (with_reducible repeat (first|refine blk_drewN ?_ _|refine blk_drew ?_|refine blk_alloc ?_ _));refine blk_put (cs:=#[.bool true,.slice Ao23 t409.length co23,.slice A0_2 l0_2.length c0_2]) ?_ 2 _ rfl;(with_reducible repeat (first|refine blk_drewN ?_ _|refine blk_drew ?_|refine blk_alloc ?_ _));refine blk_put (cs:=#[.bool true,.slice A0_1 l0_1.length c0_1,.slice A0_2 l0_2.length c0_2]) ?_ 1 _ rfl;(with_reducible repeat (first|refine blk_drewN ?_ _|refine blk_drew ?_|refine blk_alloc ?_ _));refine blk_put (cs:=#[.bool a0_0,.slice A0_1 l0_1.length c0_1,.slice A0_2 l0_2.length c0_2]) ?_ 0 _ rfl;(with_reducible repeat (first|refine blk_drewN ?_ _|refine blk_drew ?_|refine blk_alloc ?_ _));exact BK407.out) hb);have n3_:=Aside0.mk (below_step (by repeat (first|with_reducible exact HB.out|apply ba|apply bn|apply b1|refine below_set ?_ GE407.out)) hb);clear HO411;clear HO414;clear BK407;clear HB;have HO411:=n0_;have HO414:=n1_;have BK407:=n2_;have HB:=n3_;clear n0_ n1_ n2_ n3_;have hcz26_0 : w25.cell? ⟨gb407,0,none⟩=some (.bool true):=(blk_cell BK407.out 0).trans rfl;have hcz26_1 : w25.cell? ⟨gb407,1,none⟩=some (.slice Ao23 t409.length co23):=(blk_cell BK407.out 1).trans rfl;have hcz26_2 : w25.cell? ⟨gb407,2,none⟩=some (.slice Ao24 t412.length co24):=(blk_cell BK407.out 2).trans rfl;have hfz26_0:=blk_frozen BK407.out 0;have hfz26_1:=blk_frozen BK407.out 1;have hfz26_2:=blk_frozen BK407.out 2)|((with_reducible refine gate_callee (f:=14) rfl ?_);refine goesL_ (some 16) rfl rfl Tryd.func14 (by kernel_rfl) rfl #[.slice Ao24 t412.length co24] rfl (by (try simp only [List.map_toArray,List.map_cons,List.map_nil]);first|done|rfl) ?_;(with_reducible refine (decimal_Natural.calls k _ _ t412 t416 _ ?side1 ?side2 A6.out).mono ?_);(case side1=>exact Cu (Kd.R_reads' HO414.out).2.2);(case side2=>exact (Kd.R_reads' HO414.out).2.1);rintro e w27 ⟨rfl,hb⟩;refine ⟨_,rfl,?_⟩;have n0_:=Aside0.mk (Kd.R_below (Ru HO411.out) hb);have n1_:=Aside0.mk (Kd.R_below (Ru HO414.out) hb);have n2_:=Aside0.mk (blk_below (g:=gb407) (o:=.cells #[.bool true,.slice Ao23 t409.length co23,.slice Ao24 t412.length co24] 25 (0,0)) (Bu BK407.out) hb);have n3_:=Aside0.mk (below_step (by repeat (first|with_reducible exact HB.out|apply ba|apply bn|apply b1|refine below_set ?_ GE407.out)) hb);clear HO411;clear HO414;clear BK407;clear HB;have HO411:=n0_;have HO414:=n1_;have BK407:=n2_;have HB:=n3_;clear n0_ n1_ n2_ n3_))
   go_ret
   exact ⟨by first|rfl|(simp [errW_none,errW_some] <;> rfl)|(simp [*,errW_none,errW_some] <;> rfl),by repeat (first|with_reducible exact HB.out|apply ba|apply bn|apply b1|refine below_set ?_ GE407.out)⟩
 ·replace c4:=Bool.eq_false_iff.mpr c4
  subst c4
  rw [if_neg (show ¬ (false=true) by decide)] at H
  replace H:=Option.bind_eq_some_iff.mp H
  obtain ⟨t417,A280,H⟩:=H
  try dsimp only at H
  have A28:=Aside0.mk A280
  clear A280
  by_cases c29 : t417.toList=([49] : List UInt8)
  ·rw [if_pos c29] at H
   have c29b0 : (t417.toList == ([49] : List UInt8))=true:=beq_iff_eq.mpr c29
   have c29b1 : (t417.toList != ([49] : List UInt8))=false:=bne_eq_false_iff_eq.mpr c29
   clear c29
   obtain rfl:=Option.some.inj H
   go_enter Tryd.func12,Tryd.ntmps12
   go_wp2_with (first|((with_reducible refine gate_dst (N:=1) rfl ?_);refine box_event ?hg (N:=1) ?hd (cs:=#[.bool a0_0,.slice A0_1 l0_1.length c0_1,.slice A0_2 l0_2.length c0_2]) (t:=25) ?hr ?_;(case hd=>rfl);(case hg=>rfl);(case hr=>first|(go_simp;done)|(go_simp;(with_reducible rfl))|(go_simp;rfl)|(go_simp;simp only [hu,Int.emod_sub_emod]));intro gb407 hg w30 hbox hb;have n0_:=Aside0.mk (below_step (Hu HB.out) hb);have n1_:=Aside0.mk (hbox);have n2_:=Aside0.mk ((by rw [hg];exact (below_size (Hu HB.out)) : w.heap.size≤gb407));have n3_:=Aside0.mk ((by rw [hg];exact (below_size (Hu HB.out)) : w.heap.size≤gb407));clear HB;have HB:=n0_;have BK407:=n1_;have GW407:=n2_;have GE407:=n3_;clear n0_ n1_ n2_ n3_;clear hb hbox hg;have hcz31_0 : w30.cell? ⟨gb407,0,none⟩=some (.bool a0_0):=(blk_cell BK407.out 0).trans rfl;have hcz31_1 : w30.cell? ⟨gb407,1,none⟩=some (.slice A0_1 l0_1.length c0_1):=(blk_cell BK407.out 1).trans rfl;have hcz31_2 : w30.cell? ⟨gb407,2,none⟩=some (.slice A0_2 l0_2.length c0_2):=(blk_cell BK407.out 2).trans rfl;have hfz31_0:=blk_frozen BK407.out 0;have hfz31_1:=blk_frozen BK407.out 1;have hfz31_2:=blk_frozen BK407.out 2)|((with_reducible refine gate_callee (f:=18) rfl ?_);refine goesL_ (some 6) rfl rfl Tryd.func18 (by kernel_rfl) rfl #[.agg #[.bool a0_0,.slice A0_1 l0_1.length c0_1,.slice A0_2 l0_2.length c0_2]] rfl (by (try simp only [List.map_toArray,List.map_cons,List.map_nil]);first|done|rfl) ?_;(with_reducible refine (rat_Read.calls k a0_0 _ _ l0_1 _ _ l0_2 false t409 t412 _ ?side1 ?side2 ?side3 ?side4 A2.out).mono ?_);(case side1=>repeat (first|exact (Kd.C_below HR0_1.out HB.out)|(with_reducible refine Kd.C_alloc ?_ _)|(with_reducible refine Kd.C_drewN ?_ _)|(with_reducible refine Kd.C_drew ?_)));(case side2=>exact HC0_1.out);(case side3=>repeat (first|exact (Kd.C_below HR0_2.out HB.out)|(with_reducible refine Kd.C_alloc ?_ _)|(with_reducible refine Kd.C_drewN ?_ _)|(with_reducible refine Kd.C_drew ?_)));(case side4=>exact HC0_2.out);rintro e w32 ⟨v410,v413,rfl,ho0,ho1,hb⟩;refine ⟨_,rfl,?_⟩;have n0_:=Aside0.mk (Kd.R_lower ho0 (below_size (by repeat (first|with_reducible exact HB.out|apply ba|apply bn|apply b1|refine below_set ?_ GE407.out))));have n1_:=Aside0.mk (Kd.R_lower ho1 (below_size (by repeat (first|with_reducible exact HB.out|apply ba|apply bn|apply b1|refine below_set ?_ GE407.out))));have n2_:=Aside0.mk (blk_below (g:=gb407) (o:=.cells #[.bool a0_0,.slice A0_1 l0_1.length c0_1,.slice A0_2 l0_2.length c0_2] 25 (0,0)) (Bu BK407.out) hb);have n3_:=Aside0.mk (below_step (by repeat (first|with_reducible exact HB.out|apply ba|apply bn|apply b1|refine below_set ?_ GE407.out)) hb);clear BK407;clear HB;have HO411:=n0_;have HO414:=n1_;have BK407:=n2_;have HB:=n3_;clear n0_ n1_ n2_ n3_;have hcz33_0 : w32.cell? ⟨gb407,0,none⟩=some (.bool a0_0):=(blk_cell BK407.out 0).trans rfl;have hcz33_1 : w32.cell? ⟨gb407,1,none⟩=some (.slice A0_1 l0_1.length c0_1):=(blk_cell BK407.out 1).trans rfl;have hcz33_2 : w32.cell? ⟨gb407,2,none⟩=some (.slice A0_2 l0_2.length c0_2):=(blk_cell BK407.out 2).trans rfl;have hfz33_0:=blk_frozen BK407.out 0;have hfz33_1:=blk_frozen BK407.out 1;have hfz33_2:=blk_frozen BK407.out 2;obtain ⟨Ao34,co34,eo34⟩:=Kd.R_slice HO411.out;subst eo34;obtain ⟨Ao35,co35,eo35⟩:=Kd.R_slice HO414.out;subst eo35)|((with_reducible refine gate_callee (f:=14) rfl ?_);refine goesL_ (some 9) rfl rfl Tryd.func14 (by kernel_rfl) rfl #[.slice Ao34 t409.length co34] rfl (by (try simp only [List.map_toArray,List.map_cons,List.map_nil]);first|done|rfl) ?_;(with_reducible refine (decimal_Natural.calls k _ _ t409 t415 _ ?side1 ?side2 A3.out).mono ?_);(case side1=>refine (Kd.R_reads' (e:=35) (base:=w.heap.size) (ok:=fun k_=>some k_≠(.slice Ao35 t412.length co35 : Value).ownBlock) (n:=t409.length) (c:=co34) ?_).2.2;exact (by (with_reducible repeat (first|apply Ra|apply Rn|apply Rd));exact (Kd.R_mono (Kd.R_far (p:=⟨gb407,2,none⟩) (Kd.R_far (p:=⟨gb407,1,none⟩) (Kd.R_far (p:=⟨gb407,0,none⟩) (Kd.R_types HO411.out BK407.out (by decide)) (fun _ hk=>hk.2) (.bool false)) (fun _ hk=>hk.2) (.slice Ao34 t409.length co34)) (fun _ hk=>hk.2) (.slice Ao35 t412.length co35)) (fun _ h_=>h_.1))));(case side2=>exact (Kd.R_reads' HO411.out).2.1);rintro e w36 ⟨rfl,hb⟩;refine ⟨_,rfl,?_⟩;have n0_:=Aside0.mk (Kd.R_below (by (with_reducible repeat (first|apply Ra|apply Rn|apply Rd));exact (Kd.R_mono (Kd.R_far (p:=⟨gb407,2,none⟩) (Kd.R_far (p:=⟨gb407,1,none⟩) (Kd.R_far (p:=⟨gb407,0,none⟩) (Kd.R_types HO411.out BK407.out (by decide)) (fun _ hk=>hk.2) (.bool false)) (fun _ hk=>hk.2) (.slice Ao34 t409.length co34)) (fun _ hk=>hk.2) (.slice Ao35 t412.length co35)) (fun _ h_=>h_.1))) hb);have n1_:=Aside0.mk (Kd.R_below (by (with_reducible repeat (first|apply Ra|apply Rn|apply Rd));exact (Kd.R_mono (Kd.R_far (p:=⟨gb407,2,none⟩) (Kd.R_far (p:=⟨gb407,1,none⟩) (Kd.R_far (p:=⟨gb407,0,none⟩) (Kd.R_types HO414.out BK407.out (by decide)) (fun _ hk=>hk.2) (.bool false)) (fun _ hk=>hk.2) (.slice Ao34 t409.length co34)) (fun _ hk=>hk.2) (.slice Ao35 t412.length co35)) (fun _ h_=>h_.1))) hb);have n2_:=Aside0.mk (blk_below (g:=gb407) (o:=.cells #[.bool false,.slice Ao34 t409.length co34,.slice Ao35 t412.length co35] 25 (0,0)) (by (with_reducible repeat (first|refine blk_drewN ?_ _|refine blk_drew ?_|refine blk_alloc ?_ _));refine blk_put (cs:=#[.bool false,.slice Ao34 t409.length co34,.slice A0_2 l0_2.length c0_2]) ?_ 2 _ rfl;(with_reducible repeat (first|refine blk_drewN ?_ _|refine blk_drew ?_|refine blk_alloc ?_ _));refine blk_put (cs:=#[.bool false,.slice A0_1 l0_1.length c0_1,.slice A0_2 l0_2.length c0_2]) ?_ 1 _ rfl;(with_reducible repeat (first|refine blk_drewN ?_ _|refine blk_drew ?_|refine blk_alloc ?_ _));refine blk_put (cs:=#[.bool a0_0,.slice A0_1 l0_1.length c0_1,.slice A0_2 l0_2.length c0_2]) ?_ 0 _ rfl;(with_reducible repeat (first|refine blk_drewN ?_ _|refine blk_drew ?_|refine blk_alloc ?_ _));exact BK407.out) hb);have n3_:=Aside0.mk (below_step (by repeat (first|with_reducible exact HB.out|apply ba|apply bn|apply b1|refine below_set ?_ GE407.out)) hb);clear HO411;clear HO414;clear BK407;clear HB;have HO411:=n0_;have HO414:=n1_;have BK407:=n2_;have HB:=n3_;clear n0_ n1_ n2_ n3_;have hcz37_0 : w36.cell? ⟨gb407,0,none⟩=some (.bool false):=(blk_cell BK407.out 0).trans rfl;have hcz37_1 : w36.cell? ⟨gb407,1,none⟩=some (.slice Ao34 t409.length co34):=(blk_cell BK407.out 1).trans rfl;have hcz37_2 : w36.cell? ⟨gb407,2,none⟩=some (.slice Ao35 t412.length co35):=(blk_cell BK407.out 2).trans rfl;have hfz37_0:=blk_frozen BK407.out 0;have hfz37_1:=blk_frozen BK407.out 1;have hfz37_2:=blk_frozen BK407.out 2)|((with_reducible refine gate_callee (f:=14) rfl ?_);refine goesL_ (some 16) rfl rfl Tryd.func14 (by kernel_rfl) rfl #[.slice Ao35 t412.length co35] rfl (by (try simp only [List.map_toArray,List.map_cons,List.map_nil]);first|done|rfl) ?_;(with_reducible refine (decimal_Natural.calls k _ _ t412 t417 _ ?side1 ?side2 A28.out).mono ?_);(case side1=>exact Cu (Kd.R_reads' HO414.out).2.2);(case side2=>exact (Kd.R_reads' HO414.out).2.1);rintro e w38 ⟨rfl,hb⟩;refine ⟨_,rfl,?_⟩;have n0_:=Aside0.mk (Kd.R_below (Ru HO411.out) hb);have n1_:=Aside0.mk (Kd.R_below (Ru HO414.out) hb);have n2_:=Aside0.mk (blk_below (g:=gb407) (o:=.cells #[.bool false,.slice Ao34 t409.length co34,.slice Ao35 t412.length co35] 25 (0,0)) (Bu BK407.out) hb);have n3_:=Aside0.mk (below_step (by repeat (first|with_reducible exact HB.out|apply ba|apply bn|apply b1|refine below_set ?_ GE407.out)) hb);clear HO411;clear HO414;clear BK407;clear HB;have HO411:=n0_;have HO414:=n1_;have BK407:=n2_;have HB:=n3_;clear n0_ n1_ n2_ n3_))
   go_ret
   exact ⟨by first|rfl|(simp [errW_none,errW_some] <;> rfl)|(simp [*,errW_none,errW_some] <;> rfl),by repeat (first|with_reducible exact HB.out|apply ba|apply bn|apply b1|refine below_set ?_ GE407.out)⟩
  ·rw [if_neg c29] at H
   have c29b0 : (t417.toList == ([49] : List UInt8))=false:=beq_eq_false_iff_ne.mpr c29
   have c29b1 : (t417.toList != ([49] : List UInt8))=true:=bne_iff_ne.mpr c29
   by_cases c39 : 1+t417.size≤9223372036854775807
   case neg =>rw [if_neg c39] at H;exact absurd H (by simp)
   rw [if_pos c39] at H
   have c39b0:=eq_true c39
   have c39b1 : decide (1+t417.size≤9223372036854775807)=true:=decide_eq_true c39
   try have c39b2 : (9223372036854775807 < 1+t417.size)=False:=eq_false (Nat.not_lt.2 c39)
   by_cases c40 : t415.size+((⟨#[47]⟩ : ByteArray)++t417).size≤9223372036854775807
   case neg =>rw [if_neg c40] at H;exact absurd H (by simp)
   rw [if_pos c40] at H
   have c40b0:=eq_true c40
   have c40b1 : decide (t415.size+((⟨#[47]⟩ : ByteArray)++t417).size≤9223372036854775807)=true:=decide_eq_true c40
   try have c40b2 : (9223372036854775807 < t415.size+((⟨#[47]⟩ : ByteArray)++t417).size)=False:=eq_false (Nat.not_lt.2 c40)
   obtain rfl:=Option.some.inj H
   go_enter Tryd.func12,Tryd.ntmps12
   go_wp2_with (first|((with_reducible refine gate_dst (N:=1) rfl ?_);refine box_event ?hg (N:=1) ?hd (cs:=#[.bool a0_0,.slice A0_1 l0_1.length c0_1,.slice A0_2 l0_2.length c0_2]) (t:=25) ?hr ?_;(case hd=>rfl);(case hg=>rfl);(case hr=>first|(go_simp;done)|(go_simp;(with_reducible rfl))|(go_simp;rfl)|(go_simp;simp only [hu,Int.emod_sub_emod]));intro gb407 hg w41 hbox hb;have n0_:=Aside0.mk (below_step (Hu HB.out) hb);have n1_:=Aside0.mk (hbox);have n2_:=Aside0.mk ((by rw [hg];exact (below_size (Hu HB.out)) : w.heap.size≤gb407));have n3_:=Aside0.mk ((by rw [hg];exact (below_size (Hu HB.out)) : w.heap.size≤gb407));clear HB;have HB:=n0_;have BK407:=n1_;have GW407:=n2_;have GE407:=n3_;clear n0_ n1_ n2_ n3_;clear hb hbox hg;have hcz42_0 : w41.cell? ⟨gb407,0,none⟩=some (.bool a0_0):=(blk_cell BK407.out 0).trans rfl;have hcz42_1 : w41.cell? ⟨gb407,1,none⟩=some (.slice A0_1 l0_1.length c0_1):=(blk_cell BK407.out 1).trans rfl;have hcz42_2 : w41.cell? ⟨gb407,2,none⟩=some (.slice A0_2 l0_2.length c0_2):=(blk_cell BK407.out 2).trans rfl;have hfz42_0:=blk_frozen BK407.out 0;have hfz42_1:=blk_frozen BK407.out 1;have hfz42_2:=blk_frozen BK407.out 2)|((with_reducible refine gate_callee (f:=18) rfl ?_);refine goesL_ (some 6) rfl rfl Tryd.func18 (by kernel_rfl) rfl #[.agg #[.bool a0_0,.slice A0_1 l0_1.length c0_1,.slice A0_2 l0_2.length c0_2]] rfl (by (try simp only [List.map_toArray,List.map_cons,List.map_nil]);first|done|rfl) ?_;(with_reducible refine (rat_Read.calls k a0_0 _ _ l0_1 _ _ l0_2 false t409 t412 _ ?side1 ?side2 ?side3 ?side4 A2.out).mono ?_);(case side1=>repeat (first|exact (Kd.C_below HR0_1.out HB.out)|(with_reducible refine Kd.C_alloc ?_ _)|(with_reducible refine Kd.C_drewN ?_ _)|(with_reducible refine Kd.C_drew ?_)));(case side2=>exact HC0_1.out);(case side3=>repeat (first|exact (Kd.C_below HR0_2.out HB.out)|(with_reducible refine Kd.C_alloc ?_ _)|(with_reducible refine Kd.C_drewN ?_ _)|(with_reducible refine Kd.C_drew ?_)));(case side4=>exact HC0_2.out);rintro e w43 ⟨v410,v413,rfl,ho0,ho1,hb⟩;refine ⟨_,rfl,?_⟩;have n0_:=Aside0.mk (Kd.R_lower ho0 (below_size (by repeat (first|with_reducible exact HB.out|apply ba|apply bn|apply b1|refine below_set ?_ GE407.out))));have n1_:=Aside0.mk (Kd.R_lower ho1 (below_size (by repeat (first|with_reducible exact HB.out|apply ba|apply bn|apply b1|refine below_set ?_ GE407.out))));have n2_:=Aside0.mk (blk_below (g:=gb407) (o:=.cells #[.bool a0_0,.slice A0_1 l0_1.length c0_1,.slice A0_2 l0_2.length c0_2] 25 (0,0)) (Bu BK407.out) hb);have n3_:=Aside0.mk (below_step (by repeat (first|with_reducible exact HB.out|apply ba|apply bn|apply b1|refine below_set ?_ GE407.out)) hb);clear BK407;clear HB;have HO411:=n0_;have HO414:=n1_;have BK407:=n2_;have HB:=n3_;clear n0_ n1_ n2_ n3_;have hcz44_0 : w43.cell? ⟨gb407,0,none⟩=some (.bool a0_0):=(blk_cell BK407.out 0).trans rfl;have hcz44_1 : w43.cell? ⟨gb407,1,none⟩=some (.slice A0_1 l0_1.length c0_1):=(blk_cell BK407.out 1).trans rfl;have hcz44_2 : w43.cell? ⟨gb407,2,none⟩=some (.slice A0_2 l0_2.length c0_2):=(blk_cell BK407.out 2).trans rfl;have hfz44_0:=blk_frozen BK407.out 0;have hfz44_1:=blk_frozen BK407.out 1;have hfz44_2:=blk_frozen BK407.out 2;obtain ⟨Ao45,co45,eo45⟩:=Kd.R_slice HO411.out;subst eo45;obtain ⟨Ao46,co46,eo46⟩:=Kd.R_slice HO414.out;subst eo46)|((with_reducible refine gate_callee (f:=14) rfl ?_);refine goesL_ (some 9) rfl rfl Tryd.func14 (by kernel_rfl) rfl #[.slice Ao45 t409.length co45] rfl (by (try simp only [List.map_toArray,List.map_cons,List.map_nil]);first|done|rfl) ?_;(with_reducible refine (decimal_Natural.calls k _ _ t409 t415 _ ?side1 ?side2 A3.out).mono ?_);(case side1=>refine (Kd.R_reads' (e:=35) (base:=w.heap.size) (ok:=fun k_=>some k_≠(.slice Ao46 t412.length co46 : Value).ownBlock) (n:=t409.length) (c:=co45) ?_).2.2;exact (by (with_reducible repeat (first|apply Ra|apply Rn|apply Rd));exact (Kd.R_mono (Kd.R_far (p:=⟨gb407,2,none⟩) (Kd.R_far (p:=⟨gb407,1,none⟩) (Kd.R_far (p:=⟨gb407,0,none⟩) (Kd.R_types HO411.out BK407.out (by decide)) (fun _ hk=>hk.2) (.bool false)) (fun _ hk=>hk.2) (.slice Ao45 t409.length co45)) (fun _ hk=>hk.2) (.slice Ao46 t412.length co46)) (fun _ h_=>h_.1))));(case side2=>exact (Kd.R_reads' HO411.out).2.1);rintro e w47 ⟨rfl,hb⟩;refine ⟨_,rfl,?_⟩;have n0_:=Aside0.mk (Kd.R_below (by (with_reducible repeat (first|apply Ra|apply Rn|apply Rd));exact (Kd.R_mono (Kd.R_far (p:=⟨gb407,2,none⟩) (Kd.R_far (p:=⟨gb407,1,none⟩) (Kd.R_far (p:=⟨gb407,0,none⟩) (Kd.R_types HO411.out BK407.out (by decide)) (fun _ hk=>hk.2) (.bool false)) (fun _ hk=>hk.2) (.slice Ao45 t409.length co45)) (fun _ hk=>hk.2) (.slice Ao46 t412.length co46)) (fun _ h_=>h_.1))) hb);have n1_:=Aside0.mk (Kd.R_below (by (with_reducible repeat (first|apply Ra|apply Rn|apply Rd));exact (Kd.R_mono (Kd.R_far (p:=⟨gb407,2,none⟩) (Kd.R_far (p:=⟨gb407,1,none⟩) (Kd.R_far (p:=⟨gb407,0,none⟩) (Kd.R_types HO414.out BK407.out (by decide)) (fun _ hk=>hk.2) (.bool false)) (fun _ hk=>hk.2) (.slice Ao45 t409.length co45)) (fun _ hk=>hk.2) (.slice Ao46 t412.length co46)) (fun _ h_=>h_.1))) hb);have n2_:=Aside0.mk (blk_below (g:=gb407) (o:=.cells #[.bool false,.slice Ao45 t409.length co45,.slice Ao46 t412.length co46] 25 (0,0)) (by (with_reducible repeat (first|refine blk_drewN ?_ _|refine blk_drew ?_|refine blk_alloc ?_ _));refine blk_put (cs:=#[.bool false,.slice Ao45 t409.length co45,.slice A0_2 l0_2.length c0_2]) ?_ 2 _ rfl;(with_reducible repeat (first|refine blk_drewN ?_ _|refine blk_drew ?_|refine blk_alloc ?_ _));refine blk_put (cs:=#[.bool false,.slice A0_1 l0_1.length c0_1,.slice A0_2 l0_2.length c0_2]) ?_ 1 _ rfl;(with_reducible repeat (first|refine blk_drewN ?_ _|refine blk_drew ?_|refine blk_alloc ?_ _));refine blk_put (cs:=#[.bool a0_0,.slice A0_1 l0_1.length c0_1,.slice A0_2 l0_2.length c0_2]) ?_ 0 _ rfl;(with_reducible repeat (first|refine blk_drewN ?_ _|refine blk_drew ?_|refine blk_alloc ?_ _));exact BK407.out) hb);have n3_:=Aside0.mk (below_step (by repeat (first|with_reducible exact HB.out|apply ba|apply bn|apply b1|refine below_set ?_ GE407.out)) hb);clear HO411;clear HO414;clear BK407;clear HB;have HO411:=n0_;have HO414:=n1_;have BK407:=n2_;have HB:=n3_;clear n0_ n1_ n2_ n3_;have hcz48_0 : w47.cell? ⟨gb407,0,none⟩=some (.bool false):=(blk_cell BK407.out 0).trans rfl;have hcz48_1 : w47.cell? ⟨gb407,1,none⟩=some (.slice Ao45 t409.length co45):=(blk_cell BK407.out 1).trans rfl;have hcz48_2 : w47.cell? ⟨gb407,2,none⟩=some (.slice Ao46 t412.length co46):=(blk_cell BK407.out 2).trans rfl;have hfz48_0:=blk_frozen BK407.out 0;have hfz48_1:=blk_frozen BK407.out 1;have hfz48_2:=blk_frozen BK407.out 2)|((with_reducible refine gate_callee (f:=14) rfl ?_);refine goesL_ (some 16) rfl rfl Tryd.func14 (by kernel_rfl) rfl #[.slice Ao46 t412.length co46] rfl (by (try simp only [List.map_toArray,List.map_cons,List.map_nil]);first|done|rfl) ?_;(with_reducible refine (decimal_Natural.calls k _ _ t412 t417 _ ?side1 ?side2 A28.out).mono ?_);(case side1=>exact Cu (Kd.R_reads' HO414.out).2.2);(case side2=>exact (Kd.R_reads' HO414.out).2.1);rintro e w49 ⟨rfl,hb⟩;refine ⟨_,rfl,?_⟩;have n0_:=Aside0.mk (Kd.R_below (Ru HO411.out) hb);have n1_:=Aside0.mk (Kd.R_below (Ru HO414.out) hb);have n2_:=Aside0.mk (blk_below (g:=gb407) (o:=.cells #[.bool false,.slice Ao45 t409.length co45,.slice Ao46 t412.length co46] 25 (0,0)) (Bu BK407.out) hb);have n3_:=Aside0.mk (below_step (by repeat (first|with_reducible exact HB.out|apply ba|apply bn|apply b1|refine below_set ?_ GE407.out)) hb);clear HO411;clear HO414;clear BK407;clear HB;have HO411:=n0_;have HO414:=n1_;have BK407:=n2_;have HB:=n3_;clear n0_ n1_ n2_ n3_))
   go_ret
   exact ⟨by first|rfl|(simp [errW_none,errW_some] <;> rfl)|(simp [*,errW_none,errW_some] <;> rfl),by repeat (first|with_reducible exact HB.out|apply ba|apply bn|apply b1|refine below_set ?_ GE407.out)⟩
end Go.Proofs.YtncdiodnbkhacaaDoor.Pq
end
section
namespace Go.Proofs.YtncdiodnbkhacaaDoor.Pq
open Go.RowKit Go.Proofs.YtncdiodnbkhacaaDoorW.PrintWords Go.Proofs.YtncdiodnbkhacaaDoorW.PrintLast Go.Proofs.YtncdiodnbkhacaaDoorW.PrintMore
attribute [local go_sem] max2_int min2_int max_two min_two max_three min_three max_four min_four
set_option linter.unusedVariables false
set_option linter.unusedSimpArgs false
theorem penumbraref01_Same.mono_l : ∀ k,(∀ y0 y1 y2,LeO (penumbraref01_Same.l0 k y0 y1 y2) (penumbraref01_Same.l0 (k+1) y0 y1 y2))
|0=>fun _ _ _ r h=>by simp [penumbraref01_Same.l0] at h
|k+1=>by
  have ih0:=penumbraref01_Same.mono_l k
  ·intro y0 y1 y2
   unfold penumbraref01_Same.l0
   with_reducible repeat' first
  |exact ih0 _ _ _
  |exact LeO.refl _
  |exact LeO.none _
  |refine LeO.ite ?_ ?_
  |refine LeO.bind ?_ (fun _=>?_)
theorem penumbraref01_Same.mono : ∀ a0 a1 k,LeO (penumbraref01_Same.f k a0 a1) (penumbraref01_Same.f (k+1) a0 a1):=by
 intro a0 a1 k
 have ih0:=penumbraref01_Same.mono_l k
 unfold penumbraref01_Same.f
 with_reducible repeat' first
  |exact ih0 _ _ _
  |exact LeO.refl _
  |exact LeO.none _
  |refine LeO.ite ?_ ?_
  |refine LeO.bind ?_ (fun _=>?_)
set_option maxHeartbeats 8000000 in
set_option maxRecDepth 100000 in
theorem penumbraref01_Same.calls (k : Nat) (A0 : Option Addr) (c0 : Nat) (l0 : List Int) (A1 : Option Addr) (c1 : Nat) (l1 : List Int) (r : Bool) (w : World) (hr0 : Kd.C (Kd.int .u32) w A0 l0.length l0) (hc0 : l0.length≤c0) (hr1 : Kd.C (Kd.int .u32) w A1 l1.length l1) (hc1 : l1.length≤c1) (h : penumbraref01_Same.f k l0 l1=some r) :
  Calls Tryd.prog 35 #[.slice A0 l0.length c0,.slice A1 l1.length c1] w fun e w'=>e=.returned (.bool r)∧Drawn0 w w':=by
 have HR0:=Aside0.mk hr0
 have HC0:=Aside0.mk hc0
 clear hr0 hc0
 have HR1:=Aside0.mk hr1
 have HC1:=Aside0.mk hc1
 clear hr1 hc1
 have H : (if (l0.length : Int)=(l1.length : Int) then (penumbraref01_Same.l0 k l0 l1 0) else (some false))=some r:=h
 clear h
 by_cases c3 : (l0.length : Int)=(l1.length : Int)
 ·rw [if_pos c3] at H
  have c3b0 : ((l0.length : Int) == (l1.length : Int))=true:=beq_iff_eq.mpr c3
  have c3b1 : ((l0.length : Int) != (l1.length : Int))=false:=bne_eq_false_iff_eq.mpr c3
  have c3b2 : (l0.length == l1.length)=true:=by first|simpa using c3|(simp at c3 ⊢;omega)
  clear c3
  have H':=Aside0.mk H
  clear H
  go_enter Tryd.func35,Tryd.ntmps35
  go_wp2
  go_loopg [5] k (fun kq v5 w'=>∃ (x5_1 : Int),v5=.int .i64 x5_1∧Aside0 (penumbraref01_Same.l0 kq l0 l1 x5_1=some r)∧Aside0 (kq≤k)∧Drawn0 w w')
  case atStart=>exact ⟨(0),(by first|rfl|(simp;done)|(simp [*];done)),H',⟨Nat.le_refl _⟩,by repeat (first|exact Drawn0.refl _|apply Drawn0.step)⟩
  case round =>
   clear H'
   obtain ⟨x5_1,rfl,HA,HK1,⟨m1,rfl⟩⟩:=hrel
   cases gk with
  |zero=>exact absurd HA.out (by simp [penumbraref01_Same.l0])
  |succ k1 =>
    have H:=HA.out
    clear HA
    simp only [penumbraref01_Same.l0] at H
    by_cases c4 : x5_1 < (l0.length : Int)
    ·rw [if_pos c4] at H
     have c4b0 : decide (x5_1 < (l0.length : Int))=true:=decide_eq_true c4
     clear c4
     by_cases c5 : 0≤x5_1
     case neg =>rw [if_neg c5] at H;exact absurd H (by simp)
     rw [if_pos c5] at H
     have c5b0 : decide (0≤x5_1)=true:=decide_eq_true c5
     clear c5
     by_cases c6 : x5_1 < (l1.length : Int)
     case neg =>rw [if_neg c6] at H;exact absurd H (by simp)
     rw [if_pos c6] at H
     have c6b0 : decide (x5_1 < (l1.length : Int))=true:=decide_eq_true c6
     clear c6
     by_cases c7 : (rd l0 x5_1)=(rd l1 x5_1)
     ·rw [if_pos c7] at H
      have c7b0 : ((rd l0 x5_1) == (rd l1 x5_1))=true:=beq_iff_eq.mpr c7
      have c7b1 : ((rd l0 x5_1) != (rd l1 x5_1))=false:=bne_eq_false_iff_eq.mpr c7
      clear c7
      have H':=Aside0.mk H
      clear H
      have p401 : 0≤(x5_1 : Int):=of_decide_eq_true (by assumption)
      have q401 : x5_1 < (l0.length : Int):=of_decide_eq_true (by assumption)
      obtain ⟨ad401,e401,hx401_0⟩:=Kd.at_int HR0.out x5_1 p401 q401
      cases e401
      replace p401:=eq_true p401
      replace q401:=eq_true q401
      have p402 : 0≤(x5_1 : Int):=of_decide_eq_true (by assumption)
      have q402 : x5_1 < (l1.length : Int):=of_decide_eq_true (by assumption)
      obtain ⟨ad402,e402,hx402_0⟩:=Kd.at_int HR1.out x5_1 p402 q402
      cases e402
      replace p402:=eq_true p402
      replace q402:=eq_true q402
      go_wp2
      repeat (go_quiet (fail);try go_wp2)
      go_roundg k1
      case measure=>have:=HK1.out;omega
      case rel=>exact ⟨(wrap64 (x5_1+1)),(by first|rfl|(simp;done)|(simp [*];done)),H',⟨by have:=HK1.out;omega⟩,by repeat (first|exact Drawn0.refl _|apply Drawn0.step)⟩
     ·rw [if_neg c7] at H
      have c7b0 : ((rd l0 x5_1) == (rd l1 x5_1))=false:=beq_eq_false_iff_ne.mpr c7
      have c7b1 : ((rd l0 x5_1) != (rd l1 x5_1))=true:=bne_iff_ne.mpr c7
      obtain rfl:=Option.some.inj H
      have p401 : 0≤(x5_1 : Int):=of_decide_eq_true (by assumption)
      have q401 : x5_1 < (l0.length : Int):=of_decide_eq_true (by assumption)
      obtain ⟨ad401,e401,hx401_0⟩:=Kd.at_int HR0.out x5_1 p401 q401
      cases e401
      replace p401:=eq_true p401
      replace q401:=eq_true q401
      have p402 : 0≤(x5_1 : Int):=of_decide_eq_true (by assumption)
      have q402 : x5_1 < (l1.length : Int):=of_decide_eq_true (by assumption)
      obtain ⟨ad402,e402,hx402_0⟩:=Kd.at_int HR1.out x5_1 p402 q402
      cases e402
      replace p402:=eq_true p402
      replace q402:=eq_true q402
      go_wp2
      repeat (go_quiet (fail);try go_wp2)
      go_ret
      exact ⟨by first|rfl|(simp;done)|(simp [*];done),by repeat (first|exact Drawn0.refl _|apply Drawn0.step)⟩
    ·rw [if_neg c4] at H
     have c4b0 : decide (x5_1 < (l0.length : Int))=false:=decide_eq_false c4
     clear c4
     obtain rfl:=Option.some.inj H
     go_wp2
     go_ret
     exact ⟨by first|rfl|(simp;done)|(simp [*];done),by repeat (first|exact Drawn0.refl _|apply Drawn0.step)⟩
 ·rw [if_neg c3] at H
  have c3b0 : ((l0.length : Int) == (l1.length : Int))=false:=beq_eq_false_iff_ne.mpr c3
  have c3b1 : ((l0.length : Int) != (l1.length : Int))=true:=bne_iff_ne.mpr c3
  have c3b2 : (l0.length == l1.length)=false:=by first|simpa using c3|(simp at c3 ⊢;omega)
  obtain rfl:=Option.some.inj H
  go_enter Tryd.func35,Tryd.ntmps35
  go_wp2
  go_ret
  exact ⟨by first|rfl|(simp;done)|(simp [*];done),by repeat (first|exact Drawn0.refl _|apply Drawn0.step)⟩
end Go.Proofs.YtncdiodnbkhacaaDoor.Pq
end
section
namespace Go.Proofs.YtncdiodnbkhacaaDoor.Pq
open Go.RowKit Go.Proofs.YtncdiodnbkhacaaDoorW.PrintWords Go.Proofs.YtncdiodnbkhacaaDoorW.PrintLast Go.Proofs.YtncdiodnbkhacaaDoorW.PrintMore
attribute [local go_sem] max2_int min2_int max_two min_two max_three min_three max_four min_four
set_option linter.unusedVariables false
set_option linter.unusedSimpArgs false
theorem penumbraref03_Is.mono : ∀ a0 a1 a2 a3 a4 a5 k,LeO (penumbraref03_Is.f k a0 a1 a2 a3 a4 a5) (penumbraref03_Is.f (k+1) a0 a1 a2 a3 a4 a5):=by
 intro a0 a1 a2 a3 a4 a5 k
 unfold penumbraref03_Is.f
 with_reducible repeat' first
  |exact penumbraref01_Same.mono _ _ _
  |exact LeO.refl _
  |exact LeO.none _
  |refine LeO.ite ?_ ?_
  |refine LeO.bind ?_ (fun _=>?_)
set_option maxHeartbeats 8000000 in
set_option maxRecDepth 100000 in
theorem penumbraref03_Is.calls (k : Nat) (a0_0 : Bool) (A0_1 : Option Addr) (c0_1 : Nat) (l0_1 : List Int) (A0_2 : Option Addr) (c0_2 : Nat) (l0_2 : List Int) (a1_0 : Bool) (A1_1 : Option Addr) (c1_1 : Nat) (l1_1 : List Int) (A1_2 : Option Addr) (c1_2 : Nat) (l1_2 : List Int) (r : Bool) (w : World) (hr0_1 : Kd.C (Kd.int .u32) w A0_1 l0_1.length l0_1) (hc0_1 : l0_1.length≤c0_1) (hr0_2 : Kd.C (Kd.int .u32) w A0_2 l0_2.length l0_2) (hc0_2 : l0_2.length≤c0_2) (hr1_1 : Kd.C (Kd.int .u32) w A1_1 l1_1.length l1_1) (hc1_1 : l1_1.length≤c1_1) (hr1_2 : Kd.C (Kd.int .u32) w A1_2 l1_2.length l1_2) (hc1_2 : l1_2.length≤c1_2) (h : penumbraref03_Is.f k a0_0 l0_1 l0_2 a1_0 l1_1 l1_2=some r) :
  Calls Tryd.prog 11 #[.agg #[.bool a0_0,.slice A0_1 l0_1.length c0_1,.slice A0_2 l0_2.length c0_2],.agg #[.bool a1_0,.slice A1_1 l1_1.length c1_1,.slice A1_2 l1_2.length c1_2]] w fun e w'=>e=.returned (.bool r)∧Below w.heap.size w w':=by
 have hu25:=Tryd.underlying25
 have HR0_1:=Aside0.mk hr0_1
 have HC0_1:=Aside0.mk hc0_1
 clear hr0_1 hc0_1
 have HR0_2:=Aside0.mk hr0_2
 have HC0_2:=Aside0.mk hc0_2
 clear hr0_2 hc0_2
 have HR1_1:=Aside0.mk hr1_1
 have HC1_1:=Aside0.mk hc1_1
 clear hr1_1 hc1_1
 have HR1_2:=Aside0.mk hr1_2
 have HC1_2:=Aside0.mk hc1_2
 clear hr1_2 hc1_2
 have HB:=Aside0.mk (Below.refl w.heap.size w)
 have H : (if (a0_0 == a1_0)=true then ((penumbraref01_Same.f k l0_1 l1_1).bind fun t405=>(if t405=true then ((penumbraref01_Same.f k l0_2 l1_2).bind fun t406=>(some t406)) else (some false))) else (some false))=some r:=h
 clear h
 by_cases c3 : (a0_0 == a1_0)=true
 ·rw [if_pos c3] at H
  have c3b0 : (a0_0 == a1_0)=true:=c3
  (try (have c3b1 : decide (a0_0=a1_0)=true:=by simpa using c3))
  (try (have c3b2 : (a0_0 == a1_0)=true:=by simpa using c3))
  clear c3
  replace H:=Option.bind_eq_some_iff.mp H
  obtain ⟨t405,A40,H⟩:=H
  try dsimp only at H
  have A4:=Aside0.mk A40
  clear A40
  by_cases c5 : t405=true
  ·subst c5
   rw [if_pos rfl] at H
   replace H:=Option.bind_eq_some_iff.mp H
   obtain ⟨t406,A60,H⟩:=H
   try dsimp only at H
   have A6:=Aside0.mk A60
   clear A60
   obtain rfl:=Option.some.inj H
   go_enter Tryd.func11,Tryd.ntmps11
   go_wp2_with (first|((with_reducible refine gate_dst (N:=2) rfl ?_);refine box_event ?hg (N:=2) ?hd (cs:=#[.bool a0_0,.slice A0_1 l0_1.length c0_1,.slice A0_2 l0_2.length c0_2]) (t:=25) ?hr ?_;(case hd=>rfl);(case hg=>rfl);(case hr=>first|(go_simp;done)|(go_simp;(with_reducible rfl))|(go_simp;rfl)|(go_simp;simp only [hu,Int.emod_sub_emod]));intro gb403 hg w7 hbox hb;have n0_:=Aside0.mk (below_step (Hu HB.out) hb);have n1_:=Aside0.mk (hbox);have n2_:=Aside0.mk ((by rw [hg];exact (below_size (Hu HB.out)) : w.heap.size≤gb403));have n3_:=Aside0.mk ((by rw [hg];exact (below_size (Hu HB.out)) : w.heap.size≤gb403));clear HB;have HB:=n0_;have BK403:=n1_;have GW403:=n2_;have GE403:=n3_;clear n0_ n1_ n2_ n3_;clear hb hbox hg)|((with_reducible refine gate_dst (N:=3) rfl ?_);refine box_event ?hg (N:=3) ?hd (cs:=#[.bool a1_0,.slice A1_1 l1_1.length c1_1,.slice A1_2 l1_2.length c1_2]) (t:=25) ?hr ?_;(case hd=>rfl);(case hg=>rfl);(case hr=>first|(go_simp;done)|(go_simp;(with_reducible rfl))|(go_simp;rfl)|(go_simp;simp only [hu,Int.emod_sub_emod]));intro gb404 hg w8 hbox hb;have n0_:=Aside0.mk (blk_below (g:=gb403) (o:=.cells #[.bool a0_0,.slice A0_1 l0_1.length c0_1,.slice A0_2 l0_2.length c0_2] 25 (0,0)) (Bu BK403.out) hb);have n1_:=Aside0.mk (below_step (by repeat (first|with_reducible exact HB.out|apply ba|apply bn|apply b1|refine below_set ?_ GE403.out)) hb);have n2_:=Aside0.mk (hbox);have n3_:=Aside0.mk ((by rw [hg];exact (below_size (by repeat (first|with_reducible exact HB.out|apply ba|apply bn|apply b1|refine below_set ?_ GE403.out))) : w.heap.size≤gb404));have n4_:=Aside0.mk ((by rw [hg];exact (below_size (by repeat (first|with_reducible exact HB.out|apply ba|apply bn|apply b1|refine below_set ?_ GE403.out))) : w.heap.size≤gb404));have n5_:=Aside0.mk ((by rw [hg];exact Nat.ne_of_lt (blk_lt (g:=gb403) (o:=.cells #[.bool a0_0,.slice A0_1 l0_1.length c0_1,.slice A0_2 l0_2.length c0_2] 25 (0,0)) (Bu BK403.out)) : gb403≠gb404));have n6_:=Aside0.mk ((by rw [hg];exact Nat.ne_of_gt (blk_lt (g:=gb403) (o:=.cells #[.bool a0_0,.slice A0_1 l0_1.length c0_1,.slice A0_2 l0_2.length c0_2] 25 (0,0)) (Bu BK403.out)) : gb404≠gb403));clear BK403;clear HB;have BK403:=n0_;have HB:=n1_;have BK404:=n2_;have GW404:=n3_;have GE404:=n4_;have NB403_404:=n5_;have NB404_403:=n6_;clear n0_ n1_ n2_ n3_ n4_ n5_ n6_;clear hb hbox hg;have hnb9:=NB403_404.out;have hnc9:=NB404_403.out;have hcz10_0 : w8.cell? ⟨gb403,0,none⟩=some (.bool a0_0):=(blk_cell BK403.out 0).trans rfl;have hcz10_1 : w8.cell? ⟨gb403,1,none⟩=some (.slice A0_1 l0_1.length c0_1):=(blk_cell BK403.out 1).trans rfl;have hcz10_2 : w8.cell? ⟨gb403,2,none⟩=some (.slice A0_2 l0_2.length c0_2):=(blk_cell BK403.out 2).trans rfl;have hfz10_0:=blk_frozen BK403.out 0;have hfz10_1:=blk_frozen BK403.out 1;have hfz10_2:=blk_frozen BK403.out 2;have hcz11_0 : w8.cell? ⟨gb404,0,none⟩=some (.bool a1_0):=(blk_cell BK404.out 0).trans rfl;have hcz11_1 : w8.cell? ⟨gb404,1,none⟩=some (.slice A1_1 l1_1.length c1_1):=(blk_cell BK404.out 1).trans rfl;have hcz11_2 : w8.cell? ⟨gb404,2,none⟩=some (.slice A1_2 l1_2.length c1_2):=(blk_cell BK404.out 2).trans rfl;have hfz11_0:=blk_frozen BK404.out 0;have hfz11_1:=blk_frozen BK404.out 1;have hfz11_2:=blk_frozen BK404.out 2)|(go_at_call 35;(with_reducible refine (penumbraref01_Same.calls k _ _ l0_1 _ _ l1_1 true _ ?side1 ?side2 ?side3 ?side4 A4.out).mono ?_);(case side1=>repeat (first|exact (Kd.C_below HR0_1.out HB.out)|(with_reducible refine Kd.C_alloc ?_ _)|(with_reducible refine Kd.C_drewN ?_ _)|(with_reducible refine Kd.C_drew ?_)));(case side2=>exact HC0_1.out);(case side3=>repeat (first|exact (Kd.C_below HR1_1.out HB.out)|(with_reducible refine Kd.C_alloc ?_ _)|(with_reducible refine Kd.C_drewN ?_ _)|(with_reducible refine Kd.C_drew ?_)));(case side4=>exact HC1_1.out);rintro e w' ⟨rfl,⟨nd,rfl⟩⟩)|(go_at_call 35;(with_reducible refine (penumbraref01_Same.calls k _ _ l0_2 _ _ l1_2 t406 _ ?side1 ?side2 ?side3 ?side4 A6.out).mono ?_);(case side1=>repeat (first|exact (Kd.C_below HR0_2.out (by repeat (first|with_reducible exact HB.out|apply ba|apply bn|apply b1|refine below_set ?_ GE403.out|refine below_set ?_ GE404.out)))|(with_reducible refine Kd.C_alloc ?_ _)|(with_reducible refine Kd.C_drewN ?_ _)|(with_reducible refine Kd.C_drew ?_)));(case side2=>exact HC0_2.out);(case side3=>repeat (first|exact (Kd.C_below HR1_2.out (by repeat (first|with_reducible exact HB.out|apply ba|apply bn|apply b1|refine below_set ?_ GE403.out|refine below_set ?_ GE404.out)))|(with_reducible refine Kd.C_alloc ?_ _)|(with_reducible refine Kd.C_drewN ?_ _)|(with_reducible refine Kd.C_drew ?_)));(case side4=>exact HC1_2.out);rintro e w' ⟨rfl,⟨nd,rfl⟩⟩))
   go_ret
   exact ⟨by first|rfl|(simp [errW_none,errW_some] <;> rfl)|(simp [*,errW_none,errW_some] <;> rfl),by repeat (first|with_reducible exact HB.out|apply ba|apply bn|apply b1|refine below_set ?_ GE403.out|refine below_set ?_ GE404.out)⟩
  ·replace c5:=Bool.eq_false_iff.mpr c5
   subst c5
   rw [if_neg (show ¬ (false=true) by decide)] at H
   obtain rfl:=Option.some.inj H
   go_enter Tryd.func11,Tryd.ntmps11
   go_wp2_with (first|((with_reducible refine gate_dst (N:=2) rfl ?_);refine box_event ?hg (N:=2) ?hd (cs:=#[.bool a0_0,.slice A0_1 l0_1.length c0_1,.slice A0_2 l0_2.length c0_2]) (t:=25) ?hr ?_;(case hd=>rfl);(case hg=>rfl);(case hr=>first|(go_simp;done)|(go_simp;(with_reducible rfl))|(go_simp;rfl)|(go_simp;simp only [hu,Int.emod_sub_emod]));intro gb403 hg w12 hbox hb;have n0_:=Aside0.mk (below_step (Hu HB.out) hb);have n1_:=Aside0.mk (hbox);have n2_:=Aside0.mk ((by rw [hg];exact (below_size (Hu HB.out)) : w.heap.size≤gb403));have n3_:=Aside0.mk ((by rw [hg];exact (below_size (Hu HB.out)) : w.heap.size≤gb403));clear HB;have HB:=n0_;have BK403:=n1_;have GW403:=n2_;have GE403:=n3_;clear n0_ n1_ n2_ n3_;clear hb hbox hg)|((with_reducible refine gate_dst (N:=3) rfl ?_);refine box_event ?hg (N:=3) ?hd (cs:=#[.bool a1_0,.slice A1_1 l1_1.length c1_1,.slice A1_2 l1_2.length c1_2]) (t:=25) ?hr ?_;(case hd=>rfl);(case hg=>rfl);(case hr=>first|(go_simp;done)|(go_simp;(with_reducible rfl))|(go_simp;rfl)|(go_simp;simp only [hu,Int.emod_sub_emod]));intro gb404 hg w13 hbox hb;have n0_:=Aside0.mk (blk_below (g:=gb403) (o:=.cells #[.bool a0_0,.slice A0_1 l0_1.length c0_1,.slice A0_2 l0_2.length c0_2] 25 (0,0)) (Bu BK403.out) hb);have n1_:=Aside0.mk (below_step (by repeat (first|with_reducible exact HB.out|apply ba|apply bn|apply b1|refine below_set ?_ GE403.out)) hb);have n2_:=Aside0.mk (hbox);have n3_:=Aside0.mk ((by rw [hg];exact (below_size (by repeat (first|with_reducible exact HB.out|apply ba|apply bn|apply b1|refine below_set ?_ GE403.out))) : w.heap.size≤gb404));have n4_:=Aside0.mk ((by rw [hg];exact (below_size (by repeat (first|with_reducible exact HB.out|apply ba|apply bn|apply b1|refine below_set ?_ GE403.out))) : w.heap.size≤gb404));have n5_:=Aside0.mk ((by rw [hg];exact Nat.ne_of_lt (blk_lt (g:=gb403) (o:=.cells #[.bool a0_0,.slice A0_1 l0_1.length c0_1,.slice A0_2 l0_2.length c0_2] 25 (0,0)) (Bu BK403.out)) : gb403≠gb404));have n6_:=Aside0.mk ((by rw [hg];exact Nat.ne_of_gt (blk_lt (g:=gb403) (o:=.cells #[.bool a0_0,.slice A0_1 l0_1.length c0_1,.slice A0_2 l0_2.length c0_2] 25 (0,0)) (Bu BK403.out)) : gb404≠gb403));clear BK403;clear HB;have BK403:=n0_;have HB:=n1_;have BK404:=n2_;have GW404:=n3_;have GE404:=n4_;have NB403_404:=n5_;have NB404_403:=n6_;clear n0_ n1_ n2_ n3_ n4_ n5_ n6_;clear hb hbox hg;have hnb14:=NB403_404.out;have hnc14:=NB404_403.out;have hcz15_0 : w13.cell? ⟨gb403,0,none⟩=some (.bool a0_0):=(blk_cell BK403.out 0).trans rfl;have hcz15_1 : w13.cell? ⟨gb403,1,none⟩=some (.slice A0_1 l0_1.length c0_1):=(blk_cell BK403.out 1).trans rfl;have hcz15_2 : w13.cell? ⟨gb403,2,none⟩=some (.slice A0_2 l0_2.length c0_2):=(blk_cell BK403.out 2).trans rfl;have hfz15_0:=blk_frozen BK403.out 0;have hfz15_1:=blk_frozen BK403.out 1;have hfz15_2:=blk_frozen BK403.out 2;have hcz16_0 : w13.cell? ⟨gb404,0,none⟩=some (.bool a1_0):=(blk_cell BK404.out 0).trans rfl;have hcz16_1 : w13.cell? ⟨gb404,1,none⟩=some (.slice A1_1 l1_1.length c1_1):=(blk_cell BK404.out 1).trans rfl;have hcz16_2 : w13.cell? ⟨gb404,2,none⟩=some (.slice A1_2 l1_2.length c1_2):=(blk_cell BK404.out 2).trans rfl;have hfz16_0:=blk_frozen BK404.out 0;have hfz16_1:=blk_frozen BK404.out 1;have hfz16_2:=blk_frozen BK404.out 2)|(go_at_call 35;(with_reducible refine (penumbraref01_Same.calls k _ _ l0_1 _ _ l1_1 false _ ?side1 ?side2 ?side3 ?side4 A4.out).mono ?_);(case side1=>repeat (first|exact (Kd.C_below HR0_1.out HB.out)|(with_reducible refine Kd.C_alloc ?_ _)|(with_reducible refine Kd.C_drewN ?_ _)|(with_reducible refine Kd.C_drew ?_)));(case side2=>exact HC0_1.out);(case side3=>repeat (first|exact (Kd.C_below HR1_1.out HB.out)|(with_reducible refine Kd.C_alloc ?_ _)|(with_reducible refine Kd.C_drewN ?_ _)|(with_reducible refine Kd.C_drew ?_)));(case side4=>exact HC1_1.out);rintro e w' ⟨rfl,⟨nd,rfl⟩⟩))
   go_ret
   exact ⟨by first|rfl|(simp [errW_none,errW_some] <;> rfl)|(simp [*,errW_none,errW_some] <;> rfl),by repeat (first|with_reducible exact HB.out|apply ba|apply bn|apply b1|refine below_set ?_ GE403.out|refine below_set ?_ GE404.out)⟩
 ·rw [if_neg c3] at H
  have c3b0 : (a0_0 == a1_0)=false:=by simpa using c3
  (try (have c3b1 : decide (a0_0=a1_0)=false:=by simpa using c3))
  (try (have c3b2 : (a0_0 == a1_0)=false:=by simpa using c3))
  (try (have c3b3 : ¬ (a0_0=a1_0):=by simpa using c3))
  clear c3
  obtain rfl:=Option.some.inj H
  go_enter Tryd.func11,Tryd.ntmps11
  go_wp2_with (first|((with_reducible refine gate_dst (N:=2) rfl ?_);refine box_event ?hg (N:=2) ?hd (cs:=#[.bool a0_0,.slice A0_1 l0_1.length c0_1,.slice A0_2 l0_2.length c0_2]) (t:=25) ?hr ?_;(case hd=>rfl);(case hg=>rfl);(case hr=>first|(go_simp;done)|(go_simp;(with_reducible rfl))|(go_simp;rfl)|(go_simp;simp only [hu,Int.emod_sub_emod]));intro gb403 hg w17 hbox hb;have n0_:=Aside0.mk (below_step (Hu HB.out) hb);have n1_:=Aside0.mk (hbox);have n2_:=Aside0.mk ((by rw [hg];exact (below_size (Hu HB.out)) : w.heap.size≤gb403));have n3_:=Aside0.mk ((by rw [hg];exact (below_size (Hu HB.out)) : w.heap.size≤gb403));clear HB;have HB:=n0_;have BK403:=n1_;have GW403:=n2_;have GE403:=n3_;clear n0_ n1_ n2_ n3_;clear hb hbox hg)|((with_reducible refine gate_dst (N:=3) rfl ?_);refine box_event ?hg (N:=3) ?hd (cs:=#[.bool a1_0,.slice A1_1 l1_1.length c1_1,.slice A1_2 l1_2.length c1_2]) (t:=25) ?hr ?_;(case hd=>rfl);(case hg=>rfl);(case hr=>first|(go_simp;done)|(go_simp;(with_reducible rfl))|(go_simp;rfl)|(go_simp;simp only [hu,Int.emod_sub_emod]));intro gb404 hg w18 hbox hb;have n0_:=Aside0.mk (blk_below (g:=gb403) (o:=.cells #[.bool a0_0,.slice A0_1 l0_1.length c0_1,.slice A0_2 l0_2.length c0_2] 25 (0,0)) (Bu BK403.out) hb);have n1_:=Aside0.mk (below_step (by repeat (first|with_reducible exact HB.out|apply ba|apply bn|apply b1|refine below_set ?_ GE403.out)) hb);have n2_:=Aside0.mk (hbox);have n3_:=Aside0.mk ((by rw [hg];exact (below_size (by repeat (first|with_reducible exact HB.out|apply ba|apply bn|apply b1|refine below_set ?_ GE403.out))) : w.heap.size≤gb404));have n4_:=Aside0.mk ((by rw [hg];exact (below_size (by repeat (first|with_reducible exact HB.out|apply ba|apply bn|apply b1|refine below_set ?_ GE403.out))) : w.heap.size≤gb404));have n5_:=Aside0.mk ((by rw [hg];exact Nat.ne_of_lt (blk_lt (g:=gb403) (o:=.cells #[.bool a0_0,.slice A0_1 l0_1.length c0_1,.slice A0_2 l0_2.length c0_2] 25 (0,0)) (Bu BK403.out)) : gb403≠gb404));have n6_:=Aside0.mk ((by rw [hg];exact Nat.ne_of_gt (blk_lt (g:=gb403) (o:=.cells #[.bool a0_0,.slice A0_1 l0_1.length c0_1,.slice A0_2 l0_2.length c0_2] 25 (0,0)) (Bu BK403.out)) : gb404≠gb403));clear BK403;clear HB;have BK403:=n0_;have HB:=n1_;have BK404:=n2_;have GW404:=n3_;have GE404:=n4_;have NB403_404:=n5_;have NB404_403:=n6_;clear n0_ n1_ n2_ n3_ n4_ n5_ n6_;clear hb hbox hg;have hnb19:=NB403_404.out;have hnc19:=NB404_403.out;have hcz20_0 : w18.cell? ⟨gb403,0,none⟩=some (.bool a0_0):=(blk_cell BK403.out 0).trans rfl;have hcz20_1 : w18.cell? ⟨gb403,1,none⟩=some (.slice A0_1 l0_1.length c0_1):=(blk_cell BK403.out 1).trans rfl;have hcz20_2 : w18.cell? ⟨gb403,2,none⟩=some (.slice A0_2 l0_2.length c0_2):=(blk_cell BK403.out 2).trans rfl;have hfz20_0:=blk_frozen BK403.out 0;have hfz20_1:=blk_frozen BK403.out 1;have hfz20_2:=blk_frozen BK403.out 2;have hcz21_0 : w18.cell? ⟨gb404,0,none⟩=some (.bool a1_0):=(blk_cell BK404.out 0).trans rfl;have hcz21_1 : w18.cell? ⟨gb404,1,none⟩=some (.slice A1_1 l1_1.length c1_1):=(blk_cell BK404.out 1).trans rfl;have hcz21_2 : w18.cell? ⟨gb404,2,none⟩=some (.slice A1_2 l1_2.length c1_2):=(blk_cell BK404.out 2).trans rfl;have hfz21_0:=blk_frozen BK404.out 0;have hfz21_1:=blk_frozen BK404.out 1;have hfz21_2:=blk_frozen BK404.out 2))
  go_ret
  exact ⟨by first|rfl|(simp [errW_none,errW_some] <;> rfl)|(simp [*,errW_none,errW_some] <;> rfl),by repeat (first|with_reducible exact HB.out|apply ba|apply bn|apply b1|refine below_set ?_ GE403.out|refine below_set ?_ GE404.out)⟩
end Go.Proofs.YtncdiodnbkhacaaDoor.Pq
end
section
namespace Go.Proofs.YtncdiodnbkhacaaDoor.Pq
open Go.RowKit Go.Proofs.YtncdiodnbkhacaaDoorW.PrintWords Go.Proofs.YtncdiodnbkhacaaDoorW.PrintLast Go.Proofs.YtncdiodnbkhacaaDoorW.PrintMore
attribute [local go_sem] max2_int min2_int max_two min_two max_three min_three max_four min_four
set_option linter.unusedVariables false
set_option linter.unusedSimpArgs false
open Go.Shelf
theorem penumbraref01_Norm.mono_l : ∀ k,(∀ y0 y1,LeO (penumbraref01_Norm.l0 k y0 y1) (penumbraref01_Norm.l0 (k+1) y0 y1))
|0=>fun _ _ r h=>by simp [penumbraref01_Norm.l0] at h
|k+1=>by
  have ih0:=penumbraref01_Norm.mono_l k
  ·intro y0 y1
   unfold penumbraref01_Norm.l0
   with_reducible repeat' first
  |exact ih0 _ _
  |exact LeO.refl _
  |exact LeO.none _
  |refine LeO.ite ?_ ?_
  |refine LeO.bind ?_ (fun _=>?_)
theorem penumbraref01_Norm.mono : ∀ a0 k,LeO (penumbraref01_Norm.f k a0) (penumbraref01_Norm.f (k+1) a0):=by
 intro a0 k
 have ih0:=penumbraref01_Norm.mono_l k
 unfold penumbraref01_Norm.f
 with_reducible repeat' first
  |exact ih0 _ _
  |exact LeO.refl _
  |exact LeO.none _
  |refine LeO.ite ?_ ?_
  |refine LeO.bind ?_ (fun _=>?_)
set_option maxHeartbeats 8000000 in
set_option maxRecDepth 100000 in
theorem penumbraref01_Norm.calls (k : Nat) (A0 : Option Addr) (c0 : Nat) (l0 : List Int) (r : List Int) (w : World) (hr0 : Kd.C (Kd.int .u32) w A0 l0.length l0) (hc0 : l0.length≤c0) (h : penumbraref01_Norm.f k l0=some r) :
  Calls Tryd.prog 58 #[.slice A0 l0.length c0] w fun e w'=>∃ v0_ : Value,e=.returned (v0_)∧Kd.R (Kd.int .u32) 35 w' w.heap.size (fun _=>True) v0_ r∧Below w.heap.size w w':=by
 have HR0:=Aside0.mk hr0
 have HC0:=Aside0.mk hc0
 clear hr0 hc0
 have HB:=Aside0.mk (Below.refl w.heap.size w)
 have H : (penumbraref01_Norm.l0 k l0 (l0.length : Int))=some r:=h
 clear h
 have H':=Aside0.mk H
 clear H
 go_enter Tryd.func58,Tryd.ntmps58
 go_wp2
 go_loopg [3] k (fun kq v3 w'=>∃ (x3_1 : Int),v3=.int .i64 x3_1∧Aside0 (penumbraref01_Norm.l0 kq l0 x3_1=some r)∧Aside0 (kq≤k)∧Aside0 (Below w.heap.size w w'))
 case atStart=>exact ⟨((l0.length : Int)),(by first|rfl|(simp;done)|(simp [*];done)),H',⟨Nat.le_refl _⟩,⟨Hu HB.out⟩⟩
 case round =>
  clear H'
  obtain ⟨x3_1,rfl,HA,HK1,HB⟩:=hrel
  cases gk with
 |zero=>exact absurd HA.out (by simp [penumbraref01_Norm.l0])
 |succ k1 =>
   have H:=HA.out
   clear HA
   simp only [penumbraref01_Norm.l0] at H
   by_cases c2 : x3_1 > 0
   ·rw [if_pos c2] at H
    have c2b0 : decide (0 < x3_1)=true:=decide_eq_true c2
    clear c2
    obtain ⟨ji3,hji3⟩ : ∃ j_ : Int,(wrap64 (x3_1 - 1))=j_:=⟨_,rfl⟩
    replace H : (if 0≤(ji3) then (if (ji3) < (l0.length : Int) then (if (rd l0 (ji3))=0 then (penumbraref01_Norm.l0 k1 l0 ji3) else ((some (([] : List Int) : List Int)).bind fun y427=>(if 0≤x3_1 then (if x3_1≤(l0.length : Int) then (if y427.length+(l0.take (x3_1 : Int).toNat).length < 35184372088832 then (some (y427++(l0.take (x3_1 : Int).toNat))) else (none)) else (none)) else (none)))) else (none)) else (none))=some r:=by first|(rw [hji3] at H;exact H)|(simp only [hji3] at H ⊢;exact H)
    have hji3w : (IntKind.i64.wrap (x3_1 - 1))=ji3:=(i64_w _).trans hji3
    by_cases c4 : 0≤(ji3)
    case neg =>rw [if_neg c4] at H;exact absurd H (by simp)
    rw [if_pos c4] at H
    have c4b0 : decide (0≤(ji3))=true:=decide_eq_true c4
    clear c4
    by_cases c5 : (ji3) < (l0.length : Int)
    case neg =>rw [if_neg c5] at H;exact absurd H (by simp)
    rw [if_pos c5] at H
    have c5b0 : decide ((ji3) < (l0.length : Int))=true:=decide_eq_true c5
    clear c5
    by_cases c6 : (rd l0 (ji3))=0
    ·rw [if_pos c6] at H
     have c6b0 : ((rd l0 (ji3)) == 0)=true:=beq_iff_eq.mpr c6
     have c6b1 : ((rd l0 (ji3)) != 0)=false:=bne_eq_false_iff_eq.mpr c6
     clear c6
     have H':=Aside0.mk H
     clear H
     have p426 : 0≤((ji3) : Int):=of_decide_eq_true (by assumption)
     have q426 : (ji3) < (l0.length : Int):=of_decide_eq_true (by assumption)
     obtain ⟨ad426,e426,hx426_0⟩:=Kd.at_int HR0.out (ji3) p426 q426
     cases e426
     replace hx426_0:=(HB.out.cell (World.block_lt_of_cell? w _ hx426_0)).trans hx426_0
     replace p426:=eq_true p426
     replace q426:=eq_true q426
     go_wp2
     go_roundg k1
     case measure=>have:=HK1.out;omega
     case rel=>exact ⟨(ji3),(by first|rfl|(simp;done)|(simp only [← hji3] <;> (first|rfl|simp))|(simp [*];done)),H',⟨by have:=HK1.out;omega⟩,⟨Hu HB.out⟩⟩
    ·rw [if_neg c6] at H
     have c6b0 : ((rd l0 (ji3)) == 0)=false:=beq_eq_false_iff_ne.mpr c6
     have c6b1 : ((rd l0 (ji3)) != 0)=true:=bne_iff_ne.mpr c6
     obtain ⟨y427,hy427⟩ : ∃ y_ : List Int,y_=(([] : List Int)):=⟨_,rfl⟩
     replace H : (if 0≤x3_1 then (if x3_1≤(l0.length : Int) then (if y427.length+(l0.take (x3_1 : Int).toNat).length < 35184372088832 then (some (y427++(l0.take (x3_1 : Int).toNat))) else (none)) else (none)) else (none))=some r:=by first|(rw [hy427];with_reducible exact H)|(have H2_:=(Option.bind_some _ _).symm.trans H;rw [hy427];with_reducible exact H2_)|(have H2_:=(Option.bind_some _ _).symm.trans H;with_reducible exact H2_)|with_reducible exact H|(rw [hy427];exact H)|exact H
     have Ny427:=Aside0.mk hy427
     clear hy427
     by_cases c7 : 0≤x3_1
     case neg =>rw [if_neg c7] at H;exact absurd H (by simp)
     rw [if_pos c7] at H
     have c7b0:=eq_true c7
     have c7b1 : decide (0≤x3_1)=true:=decide_eq_true c7
     clear c7
     by_cases c8 : x3_1≤(l0.length : Int)
     case neg =>rw [if_neg c8] at H;exact absurd H (by simp)
     rw [if_pos c8] at H
     have c8b0:=eq_true c8
     have c8b1 : decide (x3_1≤(l0.length : Int))=true:=decide_eq_true c8
     clear c8
     by_cases c9 : y427.length+(l0.take (x3_1 : Int).toNat).length < 35184372088832
     case neg =>rw [if_neg c9] at H;exact absurd H (by simp)
     rw [if_pos c9] at H
     have LMc9:=Aside0.mk c9
     clear c9
     obtain ⟨y431,hy431⟩ : ∃ y_ : List Int,y_=(y427++(l0.take (x3_1 : Int).toNat)):=⟨_,rfl⟩
     replace H : (some y431)=some r:=by first|(rw [hy431];with_reducible exact H)|(have H2_:=(Option.bind_some _ _).symm.trans H;rw [hy431];with_reducible exact H2_)|(have H2_:=(Option.bind_some _ _).symm.trans H;with_reducible exact H2_)|with_reducible exact H|(rw [hy431];exact H)|exact H
     have Ny431:=Aside0.mk hy431
     clear hy431
     obtain rfl:=Option.some.inj H
     have p426 : 0≤((ji3) : Int):=of_decide_eq_true (by assumption)
     have q426 : (ji3) < (l0.length : Int):=of_decide_eq_true (by assumption)
     obtain ⟨ad426,e426,hx426_0⟩:=Kd.at_int HR0.out (ji3) p426 q426
     cases e426
     replace hx426_0:=(HB.out.cell (World.block_lt_of_cell? w _ hx426_0)).trans hx426_0
     replace p426:=eq_true p426
     replace q426:=eq_true q426
     go_wp2_with (first|((with_reducible refine gate_dst (N:=18) rfl ?_);refine Kd.R_lit (Kd.int .u32) _ 35 ?hg (N:=18) ?hd (xs:=([] : List Int)) (inner:=[]) (ok:=fun _=>True) (okp:=fun _=>True) ?hr ?hp (fun _ hk=>hk) trivial (Below.refl _ _) (Nat.le_refl _) (by simp) ?_;(case hd=>rfl);(case hg=>rfl);(case hr=>first|(go_simp;done)|(go_simp;(with_reducible rfl))|(go_simp;rfl)|(go_simp;simp only [hu,Int.emod_sub_emod]));(case hp=>exact (Reps.none _ _));intro v428 w10 ho11 hb hg_ hnew_;clear hg_ hnew_;(first|rw [← Ny427.out] at ho11|(simp only [Int.reduceToNat] at ho11;rw [← Ny427.out] at ho11));have n0_:=Aside0.mk (Kd.R_lower ho11 (below_size (Hu HB.out)));have n1_:=Aside0.mk (below_step (Hu HB.out) hb);clear HB;have HO429:=n0_;have HB:=n1_;clear n0_ n1_;clear hb ho11;obtain ⟨i012,hi012,_,hsz12,_⟩:=info_parts info35;obtain ⟨hcut12,hA12,hC12⟩:=print_take_of (P:=Tryd.prog) (Value.int .u32) 0 23 35 .i64 Tryd.underlying23 hi012 hsz12 (some ad426) c0 l0 x3_1 (of_decide_eq_true (by assumption)) (of_decide_eq_true (by assumption)) HC0.out;have HR430:=Aside0.mk (Kd.C_of_reads (h1:=fun _=>rfl) (hA12 _ (Kd.reads_of_C HR0.out)));have HC430:=Aside0.mk hC12;clear hA12 hC12 hi012 hsz12)|((with_reducible refine gate_builtin (b:=.append) (xs:=#[.tmp 18,.tmp 21]) rfl ?_);at_builtin;refine Kd.R_append_rows (Kd.int .u32) (w0:=w) w.heap.size rfl (.tmp 18) (.tmp 21) 23 35 (.int .u32 0) 4 rfl Tryd.underlying23 info35 rfl (by decide) (by omega) v428 y427 (l0.take (x3_1 : Int).toNat) _ _ _ (fun _=>True) (fun _=>False) rfl rfl ?aO ?aR (fun _ _ h=>h) (fun _ h=>h.elim) ?aF ?aB ?aS ?aL ?_;(case aR=>first|(refine Kd.C_of_len (show (l0.take (x3_1 : Int).toNat).length=x3_1.toNat from (by rw [List.length_take];have h_ : (x3_1 : Int)≤(l0.length : Int):=of_decide_eq_true (by assumption);omega)) ?_;repeat (first|exact (Kd.C_below HR430.out HB.out)|(with_reducible refine Kd.C_alloc ?_ _)|(with_reducible refine Kd.C_drewN ?_ _)|(with_reducible refine Kd.C_drew ?_)))|(repeat (first|exact (Kd.C_below HR430.out HB.out)|(with_reducible refine Kd.C_alloc ?_ _)|(with_reducible refine Kd.C_drewN ?_ _)|(with_reducible refine Kd.C_drew ?_))));(case aB=>exact (Hu HB.out));(case aF=>exact (fun _ _=>trivial));(case aO=>exact (Ru HO429.out));(case aS=>exact (below_size (Hu HB.out)));(case aL=>have:=LMc9.out;have hlx_:=(show (l0.take (x3_1 : Int).toNat).length=x3_1.toNat from (by rw [List.length_take];have h_ : (x3_1 : Int)≤(l0.length : Int):=of_decide_eq_true (by assumption);omega));omega);intro v432 w13 ho hb hg hat;rw [← Ny431.out] at ho;have n0_:=Aside0.mk (hb);have n1_:=Aside0.mk (ho);clear HB;clear HO429;have HB:=n0_;have HO433:=n1_;clear n0_ n1_;clear ho hb hg hat))
     go_ret
     exact ⟨_,by first|rfl|(simp [errW_none,errW_some] <;> rfl)|(simp only [← hji3];first|rfl|(simp [errW_none,errW_some] <;> rfl))|(simp [*,errW_none,errW_some] <;> rfl),by (with_reducible repeat (first|apply Ra|apply Rn|apply Rd));exact HO433.out,Hu HB.out⟩
   ·rw [if_neg c2] at H
    have c2b0 : decide (0 < x3_1)=false:=decide_eq_false c2
    clear c2
    obtain ⟨y434,hy434⟩ : ∃ y_ : List Int,y_=(([] : List Int)):=⟨_,rfl⟩
    replace H : (if 0≤x3_1 then (if x3_1≤(l0.length : Int) then (if y434.length+(l0.take (x3_1 : Int).toNat).length < 35184372088832 then (some (y434++(l0.take (x3_1 : Int).toNat))) else (none)) else (none)) else (none))=some r:=by first|(rw [hy434];with_reducible exact H)|(have H2_:=(Option.bind_some _ _).symm.trans H;rw [hy434];with_reducible exact H2_)|(have H2_:=(Option.bind_some _ _).symm.trans H;with_reducible exact H2_)|with_reducible exact H|(rw [hy434];exact H)|exact H
    have Ny434:=Aside0.mk hy434
    clear hy434
    by_cases c14 : 0≤x3_1
    case neg =>rw [if_neg c14] at H;exact absurd H (by simp)
    rw [if_pos c14] at H
    have c14b0:=eq_true c14
    have c14b1 : decide (0≤x3_1)=true:=decide_eq_true c14
    clear c14
    by_cases c15 : x3_1≤(l0.length : Int)
    case neg =>rw [if_neg c15] at H;exact absurd H (by simp)
    rw [if_pos c15] at H
    have c15b0:=eq_true c15
    have c15b1 : decide (x3_1≤(l0.length : Int))=true:=decide_eq_true c15
    clear c15
    by_cases c16 : y434.length+(l0.take (x3_1 : Int).toNat).length < 35184372088832
    case neg =>rw [if_neg c16] at H;exact absurd H (by simp)
    rw [if_pos c16] at H
    have LMc16:=Aside0.mk c16
    clear c16
    obtain ⟨y438,hy438⟩ : ∃ y_ : List Int,y_=(y434++(l0.take (x3_1 : Int).toNat)):=⟨_,rfl⟩
    replace H : (some y438)=some r:=by first|(rw [hy438];with_reducible exact H)|(have H2_:=(Option.bind_some _ _).symm.trans H;rw [hy438];with_reducible exact H2_)|(have H2_:=(Option.bind_some _ _).symm.trans H;with_reducible exact H2_)|with_reducible exact H|(rw [hy438];exact H)|exact H
    have Ny438:=Aside0.mk hy438
    clear hy438
    obtain rfl:=Option.some.inj H
    go_wp2_with (first|((with_reducible refine gate_dst (N:=18) rfl ?_);refine Kd.R_lit (Kd.int .u32) _ 35 ?hg (N:=18) ?hd (xs:=([] : List Int)) (inner:=[]) (ok:=fun _=>True) (okp:=fun _=>True) ?hr ?hp (fun _ hk=>hk) trivial (Below.refl _ _) (Nat.le_refl _) (by simp) ?_;(case hd=>rfl);(case hg=>rfl);(case hr=>first|(go_simp;done)|(go_simp;(with_reducible rfl))|(go_simp;rfl)|(go_simp;simp only [hu,Int.emod_sub_emod]));(case hp=>exact (Reps.none _ _));intro v435 w17 ho18 hb hg_ hnew_;clear hg_ hnew_;(first|rw [← Ny434.out] at ho18|(simp only [Int.reduceToNat] at ho18;rw [← Ny434.out] at ho18));have n0_:=Aside0.mk (Kd.R_lower ho18 (below_size (Hu HB.out)));have n1_:=Aside0.mk (below_step (Hu HB.out) hb);clear HB;have HO436:=n0_;have HB:=n1_;clear n0_ n1_;clear hb ho18;obtain ⟨i019,hi019,_,hsz19,_⟩:=info_parts info35;obtain ⟨hcut19,hA19,hC19⟩:=print_take_of (P:=Tryd.prog) (Value.int .u32) 0 23 35 .i64 Tryd.underlying23 hi019 hsz19 A0 c0 l0 x3_1 (of_decide_eq_true (by assumption)) (of_decide_eq_true (by assumption)) HC0.out;have HR437:=Aside0.mk (Kd.C_of_reads (h1:=fun _=>rfl) (hA19 _ (Kd.reads_of_C HR0.out)));have HC437:=Aside0.mk hC19;clear hA19 hC19 hi019 hsz19)|((with_reducible refine gate_builtin (b:=.append) (xs:=#[.tmp 18,.tmp 21]) rfl ?_);at_builtin;refine Kd.R_append_rows (Kd.int .u32) (w0:=w) w.heap.size rfl (.tmp 18) (.tmp 21) 23 35 (.int .u32 0) 4 rfl Tryd.underlying23 info35 rfl (by decide) (by omega) v435 y434 (l0.take (x3_1 : Int).toNat) _ _ _ (fun _=>True) (fun _=>False) rfl rfl ?aO ?aR (fun _ _ h=>h) (fun _ h=>h.elim) ?aF ?aB ?aS ?aL ?_;(case aR=>first|(refine Kd.C_of_len (show (l0.take (x3_1 : Int).toNat).length=x3_1.toNat from (by rw [List.length_take];have h_ : (x3_1 : Int)≤(l0.length : Int):=of_decide_eq_true (by assumption);omega)) ?_;repeat (first|exact (Kd.C_below HR437.out HB.out)|(with_reducible refine Kd.C_alloc ?_ _)|(with_reducible refine Kd.C_drewN ?_ _)|(with_reducible refine Kd.C_drew ?_)))|(repeat (first|exact (Kd.C_below HR437.out HB.out)|(with_reducible refine Kd.C_alloc ?_ _)|(with_reducible refine Kd.C_drewN ?_ _)|(with_reducible refine Kd.C_drew ?_))));(case aB=>exact (Hu HB.out));(case aF=>exact (fun _ _=>trivial));(case aO=>exact (Ru HO436.out));(case aS=>exact (below_size (Hu HB.out)));(case aL=>have:=LMc16.out;have hlx_:=(show (l0.take (x3_1 : Int).toNat).length=x3_1.toNat from (by rw [List.length_take];have h_ : (x3_1 : Int)≤(l0.length : Int):=of_decide_eq_true (by assumption);omega));omega);intro v439 w20 ho hb hg hat;rw [← Ny438.out] at ho;have n0_:=Aside0.mk (hb);have n1_:=Aside0.mk (ho);clear HB;clear HO436;have HB:=n0_;have HO440:=n1_;clear n0_ n1_;clear ho hb hg hat))
    go_ret
    exact ⟨_,by first|rfl|(simp [errW_none,errW_some] <;> rfl)|(simp [*,errW_none,errW_some] <;> rfl),by (with_reducible repeat (first|apply Ra|apply Rn|apply Rd));exact HO440.out,Hu HB.out⟩
end Go.Proofs.YtncdiodnbkhacaaDoor.Pq
end
section
namespace Go.Proofs.YtncdiodnbkhacaaDoor.Pq
open Go.RowKit Go.Proofs.YtncdiodnbkhacaaDoorW.PrintWords Go.Proofs.YtncdiodnbkhacaaDoorW.PrintLast Go.Proofs.YtncdiodnbkhacaaDoorW.PrintMore
attribute [local go_sem] max2_int min2_int max_two min_two max_three min_three max_four min_four
set_option linter.unusedVariables false
set_option linter.unusedSimpArgs false
open Go.Shelf
set_option maxHeartbeats 8000000 in
set_option maxRecDepth 100000 in
theorem penumbraref01_limb.calls (A0 : Option Addr) (c0 : Nat) (l0 : List Int) (a1 : Int) (r : Int) (w : World) (hr0 : Kd.C (Kd.int .u32) w A0 l0.length l0) (hc0 : l0.length≤c0) (h : penumbraref01_limb.f l0 a1=some r) :
  Calls Tryd.prog 84 #[.slice A0 l0.length c0,.int .i64 a1] w fun e w'=>e=.returned (.int .u64 r)∧Drawn0 w w':=by
 have HR0:=Aside0.mk hr0
 have HC0:=Aside0.mk hc0
 clear hr0 hc0
 have H : (if a1 < (l0.length : Int) then (if 0≤a1 then (some (IntKind.u64.wrap (rd l0 a1))) else (none)) else (some 0))=some r:=h
 clear h
 by_cases c3 : a1 < (l0.length : Int)
 ·rw [if_pos c3] at H
  have c3b0 : decide (a1 < (l0.length : Int))=true:=decide_eq_true c3
  clear c3
  by_cases c4 : 0≤a1
  case neg =>rw [if_neg c4] at H;exact absurd H (by simp)
  rw [if_pos c4] at H
  have c4b0 : decide (0≤a1)=true:=decide_eq_true c4
  clear c4
  obtain rfl:=Option.some.inj H
  have p422 : 0≤(a1 : Int):=of_decide_eq_true (by assumption)
  have q422 : a1 < (l0.length : Int):=of_decide_eq_true (by assumption)
  obtain ⟨ad422,e422,hx422_0⟩:=Kd.at_int HR0.out a1 p422 q422
  cases e422
  replace p422:=eq_true p422
  replace q422:=eq_true q422
  go_enter Tryd.func84,Tryd.ntmps84
  go_wp2
  go_ret
  exact ⟨by first|rfl|(simp;done)|(simp [*];done),by repeat (first|exact Drawn0.refl _|apply Drawn0.step)⟩
 ·rw [if_neg c3] at H
  have c3b0 : decide (a1 < (l0.length : Int))=false:=decide_eq_false c3
  clear c3
  obtain rfl:=Option.some.inj H
  go_enter Tryd.func84,Tryd.ntmps84
  go_wp2
  go_ret
  exact ⟨by first|rfl|(simp;done)|(simp [*];done),by repeat (first|exact Drawn0.refl _|apply Drawn0.step)⟩
end Go.Proofs.YtncdiodnbkhacaaDoor.Pq
end
section
namespace Go.Proofs.YtncdiodnbkhacaaDoor.Pq
open Go.RowKit Go.Proofs.YtncdiodnbkhacaaDoorW.PrintWords Go.Proofs.YtncdiodnbkhacaaDoorW.PrintLast Go.Proofs.YtncdiodnbkhacaaDoorW.PrintMore
attribute [local go_sem] max2_int min2_int max_two min_two max_three min_three max_four min_four
set_option linter.unusedVariables false
set_option linter.unusedSimpArgs false
theorem penumbraref01_Add.mono_l : ∀ k,(∀ y0 y1 y2 y3 y4,LeO (penumbraref01_Add.l0 k y0 y1 y2 y3 y4) (penumbraref01_Add.l0 (k+1) y0 y1 y2 y3 y4))∧(∀ y0 y1 y2 y3 y4 y5,LeO (penumbraref01_Add.j1 k y0 y1 y2 y3 y4 y5) (penumbraref01_Add.j1 (k+1) y0 y1 y2 y3 y4 y5))
|0=>⟨fun _ _ _ _ _ r h=>by simp [penumbraref01_Add.l0] at h,fun _ _ _ _ _ _ r h=>by simp [penumbraref01_Add.j1] at h⟩
|k+1=>by
  obtain ⟨ih0,ih1⟩:=penumbraref01_Add.mono_l k
  refine ⟨?_,?_⟩
  ·intro y0 y1 y2 y3 y4
   unfold penumbraref01_Add.l0
   with_reducible repeat' first
  |exact ih0 _ _ _ _ _
  |exact ih1 _ _ _ _ _ _
  |exact penumbraref01_Norm.mono _ _
  |exact LeO.refl _
  |exact LeO.none _
  |refine LeO.ite ?_ ?_
  |refine LeO.bind ?_ (fun _=>?_)
  ·intro y0 y1 y2 y3 y4 y5
   unfold penumbraref01_Add.j1
   with_reducible repeat' first
  |exact ih0 _ _ _ _ _
  |exact ih1 _ _ _ _ _ _
  |exact penumbraref01_Norm.mono _ _
  |exact LeO.refl _
  |exact LeO.none _
  |refine LeO.ite ?_ ?_
  |refine LeO.bind ?_ (fun _=>?_)
theorem penumbraref01_Add.mono : ∀ a0 a1 k,LeO (penumbraref01_Add.f k a0 a1) (penumbraref01_Add.f (k+1) a0 a1):=by
 intro a0 a1 k
 obtain ⟨ih0,ih1⟩:=penumbraref01_Add.mono_l k
 unfold penumbraref01_Add.f
 with_reducible repeat' first
  |exact ih0 _ _ _ _ _
  |exact ih1 _ _ _ _ _ _
  |exact penumbraref01_Norm.mono _ _
  |exact LeO.refl _
  |exact LeO.none _
  |refine LeO.ite ?_ ?_
  |refine LeO.bind ?_ (fun _=>?_)
set_option maxHeartbeats 8000000 in
set_option maxRecDepth 100000 in
theorem penumbraref01_Add.calls (k : Nat) (A0 : Option Addr) (c0 : Nat) (l0 : List Int) (A1 : Option Addr) (c1 : Nat) (l1 : List Int) (r : List Int) (w : World) (hr0 : Kd.C (Kd.int .u32) w A0 l0.length l0) (hc0 : l0.length≤c0) (hr1 : Kd.C (Kd.int .u32) w A1 l1.length l1) (hc1 : l1.length≤c1) (h : penumbraref01_Add.f k l0 l1=some r) :
  Calls Tryd.prog 57 #[.slice A0 l0.length c0,.slice A1 l1.length c1] w fun e w'=>∃ v0_ : Value,e=.returned (v0_)∧Kd.R (Kd.int .u32) 35 w' w.heap.size (fun _=>True) v0_ r∧Below w.heap.size w w':=by
 have HR0:=Aside0.mk hr0
 have HC0:=Aside0.mk hc0
 clear hr0 hc0
 have HR1:=Aside0.mk hr1
 have HC1:=Aside0.mk hc1
 clear hr1 hc1
 have HB:=Aside0.mk (Below.refl w.heap.size w)
 have H : (penumbraref01_Add.l0 k l0 l1 (([] : List Int)) 0 0)=some r:=h
 clear h
 obtain ⟨y452,hy452⟩ : ∃ y_ : List Int,y_=(([] : List Int)):=⟨_,rfl⟩
 replace H : (penumbraref01_Add.l0 k l0 l1 y452 0 0)=some r:=by first|(rw [hy452];with_reducible exact H)|(have H2_:=(Option.bind_some _ _).symm.trans H;rw [hy452];with_reducible exact H2_)|(have H2_:=(Option.bind_some _ _).symm.trans H;with_reducible exact H2_)|with_reducible exact H|(rw [hy452];exact H)|exact H
 have Ny452:=Aside0.mk hy452
 clear hy452
 have H':=Aside0.mk H
 clear H
 go_enter Tryd.func57,Tryd.ntmps57
 go_wp2_with (first|((with_reducible refine gate_dst (N:=9) rfl ?_);(try (refine gate_guard (by rfl) ?_;dsimp only));refine Kd.R_lit (Kd.int .u32) _ 35 ?hg (N:=9) ?hd (xs:=([] : List Int)) (inner:=[]) (ok:=fun _=>True) (okp:=fun _=>True) ?hr ?hp (fun _ hk=>hk) trivial (Below.refl _ _) (Nat.le_refl _) (by simp) ?_;(case hd=>rfl);(case hg=>rfl);(case hr=>first|(go_simp;done)|(go_simp;(with_reducible rfl))|(go_simp;rfl)|(go_simp;simp only [hu,Int.emod_sub_emod]));(case hp=>exact (Reps.none _ _));intro v453 w3 ho4 hb hg_ hnew_;clear hg_ hnew_;(first|rw [← Ny452.out] at ho4|(simp only [Int.reduceToNat] at ho4;rw [← Ny452.out] at ho4));have n0_:=Aside0.mk (Kd.R_lower ho4 (below_size (Hu HB.out)));have n1_:=Aside0.mk (below_step (Hu HB.out) hb);clear HB;have HO454:=n0_;have HB:=n1_;clear n0_ n1_;clear hb ho4))
 go_loopg [5,6,7] k (fun kq v5 v6 v7 w'=>∃ (x5_1 : List Int) (x6_1 : Int) (x7_1 : Int),v6=.int .u64 x6_1∧v7=.int .i64 x7_1∧Aside0 (penumbraref01_Add.l0 kq l0 l1 x5_1 x6_1 x7_1=some r)∧Aside0 (kq≤k)∧Aside0 (Kd.R (Kd.int .u32) 35 w' w.heap.size (fun _=>True) v5 x5_1)∧Aside0 (Below w.heap.size w w'))
 case atStart=>exact ⟨(y452),(0),(0),(by first|rfl|(simp;done)|(simp [*];done)),(by first|rfl|(simp;done)|(simp [*];done)),H',⟨Nat.le_refl _⟩,⟨Ru HO454.out⟩,⟨Hu HB.out⟩⟩
 case round =>
  clear H'
  obtain ⟨x5_1,x6_1,x7_1,rfl,rfl,HA,HK1,HO_5,HB⟩:=hrel
  cases gk with
 |zero=>exact absurd HA.out (by simp [penumbraref01_Add.l0])
 |succ k1 =>
   have H:=HA.out
   clear HA
   simp only [penumbraref01_Add.l0] at H
   have HC5:=Aside0.mk H
   clear H
   go_upto_region 4 with (fail)
   go_cut [19] (fun v19 wc=>∃ (kq : Nat) (x19_4 : Bool),v19=.bool x19_4∧Aside0 (penumbraref01_Add.j1 kq l0 l1 x5_1 x6_1 x7_1 x19_4=some r)∧Aside0 (kq≤k1)∧Aside0 (Kd.R (Kd.int .u32) 35 wc w.heap.size (fun _=>True) u5 x5_1)∧Aside0 (Below w.heap.size w wc))
   case first =>
    have H:=HC5.out
    clear HC5
    by_cases c6 : x7_1 < (l0.length : Int)
    ·rw [if_pos c6] at H
     have c6b0 : decide (x7_1 < (l0.length : Int))=true:=decide_eq_true c6
     clear c6
     (first|rw [c6b0]|(simp only [i64_w,i32_w];rw [c6b0])|skip)
     have H':=Aside0.mk H
     clear H
     go_wp2
     go_meet
     case rel=>exact ⟨_,(true),(by first|rfl|(simp;done)|(simp [*];done)),H',⟨by have:=HK1.out;first|omega|exact Nat.le_refl _⟩,⟨Ru HO_5.out⟩,⟨Hu HB.out⟩⟩
    ·rw [if_neg c6] at H
     have c6b0 : decide (x7_1 < (l0.length : Int))=false:=decide_eq_false c6
     clear c6
     (first|rw [c6b0]|(simp only [i64_w,i32_w];rw [c6b0])|skip)
     have H':=Aside0.mk H
     clear H
     go_wp2
     go_meet
     case rel=>exact ⟨_,(decide (x7_1 < (l1.length : Int))),(by first|rfl|(simp;done)|(simp [*];done)),H',⟨by have:=HK1.out;first|omega|exact Nat.le_refl _⟩,⟨Ru HO_5.out⟩,⟨Hu HB.out⟩⟩
   case rest =>
    clear HC5
    obtain ⟨kq,x19_4,rfl,HA,HJ4,HO_5,HB⟩:=hcut
    cases kq with
   |zero=>exact absurd HA.out (by simp [penumbraref01_Add.j1])
   |succ kj4 =>
     have H:=HA.out
     clear HA
     simp only [penumbraref01_Add.j1] at H
     by_cases c7 : x19_4=true
     ·subst c7
      rw [if_pos rfl] at H
      replace H:=Option.bind_eq_some_iff.mp H
      obtain ⟨t455,A80,H⟩:=H
      try dsimp only at H
      have A8:=Aside0.mk A80
      clear A80
      replace H:=Option.bind_eq_some_iff.mp H
      obtain ⟨t456,A90,H⟩:=H
      try dsimp only at H
      have A9:=Aside0.mk A90
      clear A90
      by_cases c10 : x5_1.length < 35184372088832
      case neg =>rw [if_neg c10] at H;exact absurd H (by simp)
      rw [if_pos c10] at H
      have LMc10:=Aside0.mk c10
      clear c10
      obtain ⟨y457,hy457⟩ : ∃ y_ : List Int,y_=(x5_1++[(Int.tmod (IntKind.u64.wrap ((IntKind.u64.wrap (t455+t456))+x6_1)) 4294967296) % 4294967296]):=⟨_,rfl⟩
      replace H : (penumbraref01_Add.l0 kj4 l0 l1 y457 (IntKind.u64.wrap (Int.tdiv (IntKind.u64.wrap ((IntKind.u64.wrap (t455+t456))+x6_1)) 4294967296)) (wrap64 (x7_1+1)))=some r:=by first|(rw [hy457];with_reducible exact H)|(have H2_:=(Option.bind_some _ _).symm.trans H;rw [hy457];with_reducible exact H2_)|(have H2_:=(Option.bind_some _ _).symm.trans H;with_reducible exact H2_)|with_reducible exact H|(rw [hy457];exact H)|exact H
      have Ny457:=Aside0.mk hy457
      clear hy457
      have H':=Aside0.mk H
      clear H
      go_wp2_with (first|((with_reducible refine gate_callee (f:=84) rfl ?_);refine goesL_ (some 24) rfl rfl Tryd.func84 (by kernel_rfl) rfl #[.slice A0 l0.length c0,.int .i64 x7_1] rfl (by (try simp only [List.map_toArray,List.map_cons,List.map_nil]);first|done|rfl) ?_;(with_reducible refine (penumbraref01_limb.calls _ _ l0 x7_1 t455 _ ?side1 ?side2 A8.out).mono ?_);(case side1=>repeat (first|exact (Kd.C_below HR0.out HB.out)|(with_reducible refine Kd.C_alloc ?_ _)|(with_reducible refine Kd.C_drewN ?_ _)|(with_reducible refine Kd.C_drew ?_)));(case side2=>exact HC0.out);rintro e w' ⟨rfl,⟨nd,rfl⟩⟩;refine ⟨_,rfl,?_⟩)|((with_reducible refine gate_callee (f:=84) rfl ?_);refine goesL_ (some 27) rfl rfl Tryd.func84 (by kernel_rfl) rfl #[.slice A1 l1.length c1,.int .i64 x7_1] rfl (by (try simp only [List.map_toArray,List.map_cons,List.map_nil]);first|done|rfl) ?_;(with_reducible refine (penumbraref01_limb.calls _ _ l1 x7_1 t456 _ ?side1 ?side2 A9.out).mono ?_);(case side1=>repeat (first|exact (Kd.C_below HR1.out (Hu HB.out))|(with_reducible refine Kd.C_alloc ?_ _)|(with_reducible refine Kd.C_drewN ?_ _)|(with_reducible refine Kd.C_drew ?_)));(case side2=>exact HC1.out);rintro e w' ⟨rfl,⟨nd,rfl⟩⟩;refine ⟨_,rfl,?_⟩)|((with_reducible refine gate_builtin (b:=.append) (xs:=#[.tmp 31,.tmp 35]) rfl ?_);(try (refine gate_guard (by rfl) ?_;dsimp only));at_builtin;refine Kd.R_append (Kd.int .u32) (w0:=w) w.heap.size rfl (.tmp 31) (.tmp 35) 23 35 (.int .u32 0) 4 rfl Tryd.underlying23 info35 rfl (by decide) (by omega) u5 x5_1 ((Int.tmod (IntKind.u64.wrap ((IntKind.u64.wrap (t455+t456))+x6_1)) 4294967296) % 4294967296) [.int .u32 ((Int.tmod (IntKind.u64.wrap ((IntKind.u64.wrap (t455+t456))+x6_1)) 4294967296) % 4294967296)] (fun _=>True) (fun _=>False) rfl rfl ?aP (fun _ hk=>hk.elim) ?aF ?aO ?aB ?aS ?aL ?_;(case aP=>exact rfl);(case aB=>exact (Hu HB.out));(case aF=>exact (fun _ _=>trivial));(case aO=>exact (Ru HO_5.out));(case aS=>exact (below_size (Hu HB.out)));(case aL=>have:=LMc10.out;omega);intro v458 w11 ho hb hg hat;rw [← Ny457.out] at ho;have n0_:=Aside0.mk (hb);have n1_:=Aside0.mk (ho);clear HB;clear HO_5;have HB:=n0_;have HO459:=n1_;clear n0_ n1_;clear ho hb hg hat))
      go_roundg kj4
      case measure=>have:=HK1.out;have:=HJ4.out;omega
      case rel=>exact ⟨(y457),(IntKind.u64.wrap (Int.tdiv (IntKind.u64.wrap ((IntKind.u64.wrap (t455+t456))+x6_1)) 4294967296)),(wrap64 (x7_1+1)),(by first|rfl|(simp;done)|(simp [*];done)),(by first|rfl|(simp;done)|(simp [*];done)),H',⟨by have:=HK1.out;have:=HJ4.out;omega⟩,⟨Ru HO459.out⟩,⟨Hu HB.out⟩⟩
     ·replace c7:=Bool.eq_false_iff.mpr c7
      subst c7
      rw [if_neg (show ¬ (false=true) by decide)] at H
      by_cases c12 : x5_1.length < 35184372088832
      case neg =>rw [if_neg c12] at H;exact absurd H (by simp)
      rw [if_pos c12] at H
      have LMc12:=Aside0.mk c12
      clear c12
      obtain ⟨y460,hy460⟩ : ∃ y_ : List Int,y_=(x5_1++[(x6_1) % 4294967296]):=⟨_,rfl⟩
      replace H : ((penumbraref01_Norm.f kj4 y460).bind fun t463=>(some t463))=some r:=by first|(rw [hy460];with_reducible exact H)|(have H2_:=(Option.bind_some _ _).symm.trans H;rw [hy460];with_reducible exact H2_)|(have H2_:=(Option.bind_some _ _).symm.trans H;with_reducible exact H2_)|with_reducible exact H|(rw [hy460];exact H)|exact H
      have Ny460:=Aside0.mk hy460
      clear hy460
      replace H:=Option.bind_eq_some_iff.mp H
      obtain ⟨t463,A130,H⟩:=H
      try dsimp only at H
      have A13:=Aside0.mk A130
      clear A130
      obtain rfl:=Option.some.inj H
      go_wp2_with (first|((with_reducible refine gate_builtin (b:=.append) (xs:=#[.tmp 39,.tmp 42]) rfl ?_);(try (refine gate_guard (by rfl) ?_;dsimp only));at_builtin;refine Kd.R_append (Kd.int .u32) (w0:=w) w.heap.size rfl (.tmp 39) (.tmp 42) 23 35 (.int .u32 0) 4 rfl Tryd.underlying23 info35 rfl (by decide) (by omega) u5 x5_1 ((x6_1) % 4294967296) [.int .u32 ((x6_1) % 4294967296)] (fun _=>True) (fun _=>False) rfl rfl ?aP (fun _ hk=>hk.elim) ?aF ?aO ?aB ?aS ?aL ?_;(case aP=>exact rfl);(case aB=>exact (Hu HB.out));(case aF=>exact (fun _ _=>trivial));(case aO=>exact (Ru HO_5.out));(case aS=>exact (below_size (Hu HB.out)));(case aL=>have:=LMc12.out;omega);intro v461 w14 ho hb hg hat;rw [← Ny460.out] at ho;have n0_:=Aside0.mk (hb);have n1_:=Aside0.mk (ho);clear HB;clear HO_5;have HB:=n0_;have HO462:=n1_;clear n0_ n1_;clear ho hb hg hat;obtain ⟨Ao15,co15,eo15⟩:=Kd.R_slice HO462.out;subst eo15)|((with_reducible refine gate_callee (f:=58) rfl ?_);refine goesL_ (some 45) rfl rfl Tryd.func58 (by kernel_rfl) rfl #[.slice Ao15 y460.length co15] rfl (by (try simp only [List.map_toArray,List.map_cons,List.map_nil]);first|done|rfl) ?_;(with_reducible refine (penumbraref01_Norm.calls kj4 _ _ y460 t463 _ ?side1 ?side2 A13.out).mono ?_);(case side1=>exact Cu (Kd.R_reads' HO462.out).2.2);(case side2=>exact (Kd.R_reads' HO462.out).2.1);rintro e w16 ⟨v464,rfl,ho0,hb⟩;refine ⟨_,rfl,?_⟩;have n0_:=Aside0.mk (Kd.R_elder' (Ru HO462.out) (Kd.R_base ho0) hb);have n1_:=Aside0.mk (Kd.R_lower (Kd.R_new' ho0 (Kd.R_lt (Ru HO462.out))) (below_size (Hu HB.out)));have n2_:=Aside0.mk (below_step (Hu HB.out) hb);clear HO462;clear HB;have HO462:=n0_;have HO465:=n1_;have HB:=n2_;clear n0_ n1_ n2_))
      go_ret
      exact ⟨_,by first|rfl|(simp [errW_none,errW_some] <;> rfl)|(simp [*,errW_none,errW_some] <;> rfl),by (with_reducible repeat (first|apply Ra|apply Rn|apply Rd));exact Kd.R_mono HO465.out (fun _ hk=>trivial),Hu HB.out⟩
end Go.Proofs.YtncdiodnbkhacaaDoor.Pq
end
section
namespace Go.Proofs.YtncdiodnbkhacaaDoor.Pq
open Go.RowKit Go.Proofs.YtncdiodnbkhacaaDoorW.PrintWords Go.Proofs.YtncdiodnbkhacaaDoorW.PrintLast Go.Proofs.YtncdiodnbkhacaaDoorW.PrintMore
attribute [local go_sem] max2_int min2_int max_two min_two max_three min_three max_four min_four
set_option linter.unusedVariables false
set_option linter.unusedSimpArgs false
open Go.Shelf
theorem penumbraref01_Cmp.mono_l : ∀ k,(∀ y0 y1 y2,LeO (penumbraref01_Cmp.l0 k y0 y1 y2) (penumbraref01_Cmp.l0 (k+1) y0 y1 y2))
|0=>fun _ _ _ r h=>by simp [penumbraref01_Cmp.l0] at h
|k+1=>by
  have ih0:=penumbraref01_Cmp.mono_l k
  ·intro y0 y1 y2
   unfold penumbraref01_Cmp.l0
   with_reducible repeat' first
  |exact ih0 _ _ _
  |exact LeO.refl _
  |exact LeO.none _
  |refine LeO.ite ?_ ?_
  |refine LeO.bind ?_ (fun _=>?_)
theorem penumbraref01_Cmp.mono : ∀ a0 a1 k,LeO (penumbraref01_Cmp.f k a0 a1) (penumbraref01_Cmp.f (k+1) a0 a1):=by
 intro a0 a1 k
 have ih0:=penumbraref01_Cmp.mono_l k
 unfold penumbraref01_Cmp.f
 with_reducible repeat' first
  |exact ih0 _ _ _
  |exact LeO.refl _
  |exact LeO.none _
  |refine LeO.ite ?_ ?_
  |refine LeO.bind ?_ (fun _=>?_)
set_option maxHeartbeats 8000000 in
set_option maxRecDepth 100000 in
theorem penumbraref01_Cmp.calls (k : Nat) (A0 : Option Addr) (c0 : Nat) (l0 : List Int) (A1 : Option Addr) (c1 : Nat) (l1 : List Int) (r : Int) (w : World) (hr0 : Kd.C (Kd.int .u32) w A0 l0.length l0) (hc0 : l0.length≤c0) (hr1 : Kd.C (Kd.int .u32) w A1 l1.length l1) (hc1 : l1.length≤c1) (h : penumbraref01_Cmp.f k l0 l1=some r) :
  Calls Tryd.prog 59 #[.slice A0 l0.length c0,.slice A1 l1.length c1] w fun e w'=>e=.returned (.int .i64 r)∧Below w.heap.size w w':=by
 have HR0:=Aside0.mk hr0
 have HC0:=Aside0.mk hc0
 clear hr0 hc0
 have HR1:=Aside0.mk hr1
 have HC1:=Aside0.mk hc1
 clear hr1 hc1
 have HB:=Aside0.mk (Below.refl w.heap.size w)
 have H : (penumbraref01_Cmp.l0 k l0 l1 (wrap64 ((mx (l0.length : Int) (l1.length : Int)) - 1)))=some r:=h
 clear h
 obtain ⟨ji3,hji3⟩ : ∃ j_ : Int,(mx (l0.length : Int) (l1.length : Int))=j_:=⟨_,rfl⟩
 replace H : (penumbraref01_Cmp.l0 k l0 l1 (wrap64 ((ji3) - 1)))=some r:=by first|(rw [hji3] at H;exact H)|(simp only [hji3] at H ⊢;exact H)
 (try (have hji3l : 0≤ji3:=by (rw [← hji3];unfold mx;(repeat' split) <;> omega)))
 (try (have hji3m : 0≤ji3:=by omega))
 (try (have hji3c : (if l0.length < l1.length then (l1.length : Int) else (l0.length : Int))=ji3:=by (rw [← hji3];unfold mx;simp only [Int.ofNat_lt])))
 have hji3_ : (if (l0.length : Int) < (l1.length : Int) then (l1.length : Int) else (l0.length : Int))=ji3:=hji3
 have H':=Aside0.mk H
 clear H
 go_enter Tryd.func59,Tryd.ntmps59
 go_wp2
 go_loopg [5] k (fun kq v5 w'=>∃ (x5_1 : Int),v5=.int .i64 x5_1∧Aside0 (penumbraref01_Cmp.l0 kq l0 l1 x5_1=some r)∧Aside0 (kq≤k)∧Aside0 (Below w.heap.size w w'))
 case atStart=>exact ⟨(wrap64 ((ji3) - 1)),(by first|rfl|(simp;done)|(simp only [← hji3] <;> (first|rfl|simp))|(simp [*];done)),H',⟨Nat.le_refl _⟩,⟨Hu HB.out⟩⟩
 case round =>
  clear H'
  obtain ⟨x5_1,rfl,HA,HK1,HB⟩:=hrel
  cases gk with
 |zero=>exact absurd HA.out (by simp [penumbraref01_Cmp.l0])
 |succ k1 =>
   have H:=HA.out
   clear HA
   simp only [penumbraref01_Cmp.l0] at H
   by_cases c4 : x5_1 ≥ 0
   ·rw [if_pos c4] at H
    have c4b0 : decide (0≤x5_1)=true:=decide_eq_true c4
    clear c4
    replace H:=Option.bind_eq_some_iff.mp H
    obtain ⟨t423,A50,H⟩:=H
    try dsimp only at H
    have A5:=Aside0.mk A50
    clear A50
    replace H:=Option.bind_eq_some_iff.mp H
    obtain ⟨t424,A60,H⟩:=H
    try dsimp only at H
    have A6:=Aside0.mk A60
    clear A60
    by_cases c7 : t423 < t424
    ·rw [if_pos c7] at H
     have c7b0 : decide (t423 < t424)=true:=decide_eq_true c7
     clear c7
     obtain rfl:=Option.some.inj H
     go_wp2_with (first|((with_reducible refine gate_callee (f:=84) rfl ?_);refine goesL_ (some 20) rfl rfl Tryd.func84 (by kernel_rfl) rfl #[.slice A0 l0.length c0,.int .i64 x5_1] rfl (by (try simp only [List.map_toArray,List.map_cons,List.map_nil]);first|done|rfl) ?_;(with_reducible refine (penumbraref01_limb.calls _ _ l0 x5_1 t423 _ ?side1 ?side2 A5.out).mono ?_);(case side1=>repeat (first|exact (Kd.C_below HR0.out HB.out)|(with_reducible refine Kd.C_alloc ?_ _)|(with_reducible refine Kd.C_drewN ?_ _)|(with_reducible refine Kd.C_drew ?_)));(case side2=>exact HC0.out);rintro e w' ⟨rfl,⟨nd,rfl⟩⟩;refine ⟨_,rfl,?_⟩)|((with_reducible refine gate_callee (f:=84) rfl ?_);refine goesL_ (some 23) rfl rfl Tryd.func84 (by kernel_rfl) rfl #[.slice A1 l1.length c1,.int .i64 x5_1] rfl (by (try simp only [List.map_toArray,List.map_cons,List.map_nil]);first|done|rfl) ?_;(with_reducible refine (penumbraref01_limb.calls _ _ l1 x5_1 t424 _ ?side1 ?side2 A6.out).mono ?_);(case side1=>repeat (first|exact (Kd.C_below HR1.out (Hu HB.out))|(with_reducible refine Kd.C_alloc ?_ _)|(with_reducible refine Kd.C_drewN ?_ _)|(with_reducible refine Kd.C_drew ?_)));(case side2=>exact HC1.out);rintro e w' ⟨rfl,⟨nd,rfl⟩⟩;refine ⟨_,rfl,?_⟩))
     go_ret
     exact ⟨by first|rfl|(simp [errW_none,errW_some] <;> rfl)|(simp only [← hji3];first|rfl|(simp [errW_none,errW_some] <;> rfl))|(simp [*,errW_none,errW_some] <;> rfl),Hu HB.out⟩
    ·rw [if_neg c7] at H
     have c7b0 : decide (t423 < t424)=false:=decide_eq_false c7
     clear c7
     by_cases c8 : t423 > t424
     ·rw [if_pos c8] at H
      have c8b0 : decide (t424 < t423)=true:=decide_eq_true c8
      clear c8
      obtain rfl:=Option.some.inj H
      go_wp2_with (first|((with_reducible refine gate_callee (f:=84) rfl ?_);refine goesL_ (some 20) rfl rfl Tryd.func84 (by kernel_rfl) rfl #[.slice A0 l0.length c0,.int .i64 x5_1] rfl (by (try simp only [List.map_toArray,List.map_cons,List.map_nil]);first|done|rfl) ?_;(with_reducible refine (penumbraref01_limb.calls _ _ l0 x5_1 t423 _ ?side1 ?side2 A5.out).mono ?_);(case side1=>repeat (first|exact (Kd.C_below HR0.out HB.out)|(with_reducible refine Kd.C_alloc ?_ _)|(with_reducible refine Kd.C_drewN ?_ _)|(with_reducible refine Kd.C_drew ?_)));(case side2=>exact HC0.out);rintro e w' ⟨rfl,⟨nd,rfl⟩⟩;refine ⟨_,rfl,?_⟩)|((with_reducible refine gate_callee (f:=84) rfl ?_);refine goesL_ (some 23) rfl rfl Tryd.func84 (by kernel_rfl) rfl #[.slice A1 l1.length c1,.int .i64 x5_1] rfl (by (try simp only [List.map_toArray,List.map_cons,List.map_nil]);first|done|rfl) ?_;(with_reducible refine (penumbraref01_limb.calls _ _ l1 x5_1 t424 _ ?side1 ?side2 A6.out).mono ?_);(case side1=>repeat (first|exact (Kd.C_below HR1.out (Hu HB.out))|(with_reducible refine Kd.C_alloc ?_ _)|(with_reducible refine Kd.C_drewN ?_ _)|(with_reducible refine Kd.C_drew ?_)));(case side2=>exact HC1.out);rintro e w' ⟨rfl,⟨nd,rfl⟩⟩;refine ⟨_,rfl,?_⟩))
      go_ret
      exact ⟨by first|rfl|(simp [errW_none,errW_some] <;> rfl)|(simp only [← hji3];first|rfl|(simp [errW_none,errW_some] <;> rfl))|(simp [*,errW_none,errW_some] <;> rfl),Hu HB.out⟩
     ·rw [if_neg c8] at H
      have c8b0 : decide (t424 < t423)=false:=decide_eq_false c8
      clear c8
      have H':=Aside0.mk H
      clear H
      go_wp2_with (first|((with_reducible refine gate_callee (f:=84) rfl ?_);refine goesL_ (some 20) rfl rfl Tryd.func84 (by kernel_rfl) rfl #[.slice A0 l0.length c0,.int .i64 x5_1] rfl (by (try simp only [List.map_toArray,List.map_cons,List.map_nil]);first|done|rfl) ?_;(with_reducible refine (penumbraref01_limb.calls _ _ l0 x5_1 t423 _ ?side1 ?side2 A5.out).mono ?_);(case side1=>repeat (first|exact (Kd.C_below HR0.out HB.out)|(with_reducible refine Kd.C_alloc ?_ _)|(with_reducible refine Kd.C_drewN ?_ _)|(with_reducible refine Kd.C_drew ?_)));(case side2=>exact HC0.out);rintro e w' ⟨rfl,⟨nd,rfl⟩⟩;refine ⟨_,rfl,?_⟩)|((with_reducible refine gate_callee (f:=84) rfl ?_);refine goesL_ (some 23) rfl rfl Tryd.func84 (by kernel_rfl) rfl #[.slice A1 l1.length c1,.int .i64 x5_1] rfl (by (try simp only [List.map_toArray,List.map_cons,List.map_nil]);first|done|rfl) ?_;(with_reducible refine (penumbraref01_limb.calls _ _ l1 x5_1 t424 _ ?side1 ?side2 A6.out).mono ?_);(case side1=>repeat (first|exact (Kd.C_below HR1.out (Hu HB.out))|(with_reducible refine Kd.C_alloc ?_ _)|(with_reducible refine Kd.C_drewN ?_ _)|(with_reducible refine Kd.C_drew ?_)));(case side2=>exact HC1.out);rintro e w' ⟨rfl,⟨nd,rfl⟩⟩;refine ⟨_,rfl,?_⟩))
      go_roundg k1
      case measure=>have:=HK1.out;omega
      case rel=>exact ⟨(wrap64 (x5_1 - 1)),(by first|rfl|(simp;done)|(simp [*];done)),H',⟨by have:=HK1.out;omega⟩,⟨Hu HB.out⟩⟩
   ·rw [if_neg c4] at H
    have c4b0 : decide (0≤x5_1)=false:=decide_eq_false c4
    clear c4
    obtain rfl:=Option.some.inj H
    go_wp2
    go_ret
    exact ⟨by first|rfl|(simp [errW_none,errW_some] <;> rfl)|(simp only [← hji3];first|rfl|(simp [errW_none,errW_some] <;> rfl))|(simp [*,errW_none,errW_some] <;> rfl),Hu HB.out⟩
end Go.Proofs.YtncdiodnbkhacaaDoor.Pq
end
section
namespace Go.Proofs.YtncdiodnbkhacaaDoor.Pq
open Go.RowKit Go.Proofs.YtncdiodnbkhacaaDoorW.PrintWords Go.Proofs.YtncdiodnbkhacaaDoorW.PrintLast Go.Proofs.YtncdiodnbkhacaaDoorW.PrintMore
attribute [local go_sem] max2_int min2_int max_two min_two max_three min_three max_four min_four
set_option linter.unusedVariables false
set_option linter.unusedSimpArgs false
theorem penumbraref01_Double.mono_l : ∀ k,(∀ y0 y1 y2,LeO (penumbraref01_Double.j0 k y0 y1 y2) (penumbraref01_Double.j0 (k+1) y0 y1 y2))∧(∀ y0 y1 y2 y3,LeO (penumbraref01_Double.l0 k y0 y1 y2 y3) (penumbraref01_Double.l0 (k+1) y0 y1 y2 y3))
|0=>⟨fun _ _ _ r h=>by simp [penumbraref01_Double.j0] at h,fun _ _ _ _ r h=>by simp [penumbraref01_Double.l0] at h⟩
|k+1=>by
  obtain ⟨ih0,ih1⟩:=penumbraref01_Double.mono_l k
  refine ⟨?_,?_⟩
  ·intro y0 y1 y2
   unfold penumbraref01_Double.j0
   with_reducible repeat' first
  |exact ih0 _ _ _
  |exact ih1 _ _ _ _
  |exact penumbraref01_Norm.mono _ _
  |exact LeO.refl _
  |exact LeO.none _
  |refine LeO.ite ?_ ?_
  |refine LeO.bind ?_ (fun _=>?_)
  ·intro y0 y1 y2 y3
   unfold penumbraref01_Double.l0
   with_reducible repeat' first
  |exact ih0 _ _ _
  |exact ih1 _ _ _ _
  |exact penumbraref01_Norm.mono _ _
  |exact LeO.refl _
  |exact LeO.none _
  |refine LeO.ite ?_ ?_
  |refine LeO.bind ?_ (fun _=>?_)
theorem penumbraref01_Double.mono : ∀ a0 a1 k,LeO (penumbraref01_Double.f k a0 a1) (penumbraref01_Double.f (k+1) a0 a1):=by
 intro a0 a1 k
 obtain ⟨ih0,ih1⟩:=penumbraref01_Double.mono_l k
 unfold penumbraref01_Double.f
 with_reducible repeat' first
  |exact ih0 _ _ _
  |exact ih1 _ _ _ _
  |exact penumbraref01_Norm.mono _ _
  |exact LeO.refl _
  |exact LeO.none _
  |refine LeO.ite ?_ ?_
  |refine LeO.bind ?_ (fun _=>?_)
set_option maxHeartbeats 8000000 in
set_option maxRecDepth 100000 in
theorem penumbraref01_Double.calls (k : Nat) (A0 : Option Addr) (c0 : Nat) (l0 : List Int) (a1 : Bool) (r : List Int) (w : World) (hr0 : Kd.C (Kd.int .u32) w A0 l0.length l0) (hc0 : l0.length≤c0) (h : penumbraref01_Double.f k l0 a1=some r) :
  Calls Tryd.prog 70 #[.slice A0 l0.length c0,.bool a1] w fun e w'=>∃ v0_ : Value,e=.returned (v0_)∧Kd.R (Kd.int .u32) 35 w' w.heap.size (fun _=>True) v0_ r∧Below w.heap.size w w':=by
 have HR0:=Aside0.mk hr0
 have HC0:=Aside0.mk hc0
 clear hr0 hc0
 have HB:=Aside0.mk (Below.refl w.heap.size w)
 have H : ((some (([] : List Int) : List Int)).bind fun y466=>(if a1=true then (penumbraref01_Double.j0 k l0 y466 1) else (penumbraref01_Double.j0 k l0 y466 0)))=some r:=h
 clear h
 obtain ⟨y466,hy466⟩ : ∃ y_ : List Int,y_=(([] : List Int)):=⟨_,rfl⟩
 replace H : (if a1=true then (penumbraref01_Double.j0 k l0 y466 1) else (penumbraref01_Double.j0 k l0 y466 0))=some r:=by first|(rw [hy466];with_reducible exact H)|(have H2_:=(Option.bind_some _ _).symm.trans H;rw [hy466];with_reducible exact H2_)|(have H2_:=(Option.bind_some _ _).symm.trans H;with_reducible exact H2_)|with_reducible exact H|(rw [hy466];exact H)|exact H
 have Ny466:=Aside0.mk hy466
 clear hy466
 have HC3:=Aside0.mk H
 clear H
 go_enter Tryd.func70,Tryd.ntmps70
 go_upto_if 10 with (first|((with_reducible refine gate_dst (N:=9) rfl ?_);refine Kd.R_lit (Kd.int .u32) _ 35 ?hg (N:=9) ?hd (xs:=([] : List Int)) (inner:=[]) (ok:=fun _=>True) (okp:=fun _=>True) ?hr ?hp (fun _ hk=>hk) trivial (Below.refl _ _) (Nat.le_refl _) (by simp) ?_;(case hd=>rfl);(case hg=>rfl);(case hr=>first|(go_simp;done)|(go_simp;(with_reducible rfl))|(go_simp;rfl)|(go_simp;simp only [hu,Int.emod_sub_emod]));(case hp=>exact (Reps.none _ _));intro v467 w4 ho5 hb hg_ hnew_;clear hg_ hnew_;(first|rw [← Ny466.out] at ho5|(simp only [Int.reduceToNat] at ho5;rw [← Ny466.out] at ho5));have n0_:=Aside0.mk (Kd.R_lower ho5 (below_size (Hu HB.out)));have n1_:=Aside0.mk (below_step (Hu HB.out) hb);clear HB;have HO468:=n0_;have HB:=n1_;clear n0_ n1_;clear hb ho5))
 (try simp only [Act.put,s0,s1,s2])
 go_cut [6] (fun v6 wc=>∃ (kq : Nat) (x6_2 : Int),v6=.int .u64 x6_2∧Aside0 (penumbraref01_Double.j0 kq l0 y466 x6_2=some r)∧Aside0 (kq≤k)∧Aside0 (Kd.R (Kd.int .u32) 35 wc w.heap.size (fun _=>True) v467 y466)∧Aside0 (Below w.heap.size w wc))
 case first =>
  have H:=HC3.out
  clear HC3
  by_cases c6 : a1=true
  ·subst c6
   rw [if_pos rfl] at H
   have H':=Aside0.mk H
   clear H
   go_wp2
   go_meet
   case rel=>exact ⟨_,(1),(by first|rfl|(simp;done)|(simp [*];done)),H',⟨by first|omega|exact Nat.le_refl _⟩,⟨Ru HO468.out⟩,⟨Hu HB.out⟩⟩
  ·replace c6:=Bool.eq_false_iff.mpr c6
   subst c6
   rw [if_neg (show ¬ (false=true) by decide)] at H
   have H':=Aside0.mk H
   clear H
   go_wp2
   go_meet
   case rel=>exact ⟨_,(0),(by first|rfl|(simp;done)|(simp [*];done)),H',⟨by first|omega|exact Nat.le_refl _⟩,⟨Ru HO468.out⟩,⟨Hu HB.out⟩⟩
 case rest =>
  clear HC3
  obtain ⟨kq,x6_2,rfl,HA,HJ2,HO_5,HB⟩:=hcut
  cases kq with
 |zero=>exact absurd HA.out (by simp [penumbraref01_Double.j0])
 |succ kj2 =>
   have H:=HA.out
   clear HA
   simp only [penumbraref01_Double.j0] at H
   have H':=Aside0.mk H
   clear H
   go_wp2
   go_loopg [5,6,7] kj2 (fun kq v5 v6 v7 w'=>∃ (x5_2 : List Int) (x6_2 : Int) (x7_2 : Int),v6=.int .u64 x6_2∧v7=.int .i64 x7_2∧Aside0 (penumbraref01_Double.l0 kq l0 x5_2 x6_2 x7_2=some r)∧Aside0 (kq≤kj2)∧Aside0 (Kd.R (Kd.int .u32) 35 w' w.heap.size (fun _=>True) v5 x5_2)∧Aside0 (Below w.heap.size w w'))
   case atStart=>exact ⟨(y466),(x6_2),(0),(by first|rfl|(simp;done)|(simp [*];done)),(by first|rfl|(simp;done)|(simp [*];done)),H',⟨Nat.le_refl _⟩,⟨Ru HO_5.out⟩,⟨Hu HB.out⟩⟩
   case round =>
    clear H'
    obtain ⟨x5_2,x6_2,x7_2,rfl,rfl,HA,HK2,HO_5,HB⟩:=hrel
    cases gk with
   |zero=>exact absurd HA.out (by simp [penumbraref01_Double.l0])
   |succ k2 =>
     have H:=HA.out
     clear HA
     simp only [penumbraref01_Double.l0] at H
     by_cases c7 : x7_2 < (l0.length : Int)
     ·rw [if_pos c7] at H
      have c7b0 : decide (x7_2 < (l0.length : Int))=true:=decide_eq_true c7
      clear c7
      by_cases c8 : 0≤x7_2
      case neg =>rw [if_neg c8] at H;exact absurd H (by simp)
      rw [if_pos c8] at H
      have c8b0 : decide (0≤x7_2)=true:=decide_eq_true c8
      clear c8
      by_cases c9 : x5_2.length < 35184372088832
      case neg =>rw [if_neg c9] at H;exact absurd H (by simp)
      rw [if_pos c9] at H
      have LMc9:=Aside0.mk c9
      clear c9
      obtain ⟨y470,hy470⟩ : ∃ y_ : List Int,y_=(x5_2++[(Int.tmod (IntKind.u64.wrap ((IntKind.u64.wrap (2 * (IntKind.u64.wrap (rd l0 x7_2))))+x6_2)) 4294967296) % 4294967296]):=⟨_,rfl⟩
      replace H : (penumbraref01_Double.l0 k2 l0 y470 (IntKind.u64.wrap (Int.tdiv (IntKind.u64.wrap ((IntKind.u64.wrap (2 * (IntKind.u64.wrap (rd l0 x7_2))))+x6_2)) 4294967296)) (wrap64 (x7_2+1)))=some r:=by first|(rw [hy470];with_reducible exact H)|(have H2_:=(Option.bind_some _ _).symm.trans H;rw [hy470];with_reducible exact H2_)|(have H2_:=(Option.bind_some _ _).symm.trans H;with_reducible exact H2_)|with_reducible exact H|(rw [hy470];exact H)|exact H
      have Ny470:=Aside0.mk hy470
      clear hy470
      have H':=Aside0.mk H
      clear H
      have p469 : 0≤(x7_2 : Int):=of_decide_eq_true (by assumption)
      have q469 : x7_2 < (l0.length : Int):=of_decide_eq_true (by assumption)
      obtain ⟨ad469,e469,hx469_0⟩:=Kd.at_int HR0.out x7_2 p469 q469
      cases e469
      replace hx469_0:=(HB.out.cell (World.block_lt_of_cell? w _ hx469_0)).trans hx469_0
      replace p469:=eq_true p469
      replace q469:=eq_true q469
      go_wp2_with (first|((with_reducible refine gate_builtin (b:=.append) (xs:=#[.tmp 25,.tmp 29]) rfl ?_);at_builtin;refine Kd.R_append (Kd.int .u32) (w0:=w) w.heap.size rfl (.tmp 25) (.tmp 29) 23 35 (.int .u32 0) 4 rfl Tryd.underlying23 info35 rfl (by decide) (by omega) u5 x5_2 ((Int.tmod (IntKind.u64.wrap ((IntKind.u64.wrap (2 * (IntKind.u64.wrap (rd l0 x7_2))))+x6_2)) 4294967296) % 4294967296) [.int .u32 ((Int.tmod (IntKind.u64.wrap ((IntKind.u64.wrap (2 * (IntKind.u64.wrap (rd l0 x7_2))))+x6_2)) 4294967296) % 4294967296)] (fun _=>True) (fun _=>False) rfl rfl ?aP (fun _ hk=>hk.elim) ?aF ?aO ?aB ?aS ?aL ?_;(case aP=>exact rfl);(case aB=>exact (Hu HB.out));(case aF=>exact (fun _ _=>trivial));(case aO=>exact (Ru HO_5.out));(case aS=>exact (below_size (Hu HB.out)));(case aL=>have:=LMc9.out;omega);intro v471 w10 ho hb hg hat;rw [← Ny470.out] at ho;have n0_:=Aside0.mk (hb);have n1_:=Aside0.mk (ho);clear HB;clear HO_5;have HB:=n0_;have HO472:=n1_;clear n0_ n1_;clear ho hb hg hat))
      go_roundg k2
      case measure=>have:=HJ2.out;have:=HK2.out;omega
      case rel=>exact ⟨(y470),(IntKind.u64.wrap (Int.tdiv (IntKind.u64.wrap ((IntKind.u64.wrap (2 * (IntKind.u64.wrap (rd l0 x7_2))))+x6_2)) 4294967296)),(wrap64 (x7_2+1)),(by first|rfl|(simp;done)|(simp [*];done)),(by first|rfl|(simp;done)|(simp [*];done)),H',⟨by have:=HJ2.out;have:=HK2.out;omega⟩,⟨Ru HO472.out⟩,⟨Hu HB.out⟩⟩
     ·rw [if_neg c7] at H
      have c7b0 : decide (x7_2 < (l0.length : Int))=false:=decide_eq_false c7
      clear c7
      by_cases c11 : x5_2.length < 35184372088832
      case neg =>rw [if_neg c11] at H;exact absurd H (by simp)
      rw [if_pos c11] at H
      have LMc11:=Aside0.mk c11
      clear c11
      obtain ⟨y473,hy473⟩ : ∃ y_ : List Int,y_=(x5_2++[(x6_2) % 4294967296]):=⟨_,rfl⟩
      replace H : ((penumbraref01_Norm.f k2 y473).bind fun t476=>(some t476))=some r:=by first|(rw [hy473];with_reducible exact H)|(have H2_:=(Option.bind_some _ _).symm.trans H;rw [hy473];with_reducible exact H2_)|(have H2_:=(Option.bind_some _ _).symm.trans H;with_reducible exact H2_)|with_reducible exact H|(rw [hy473];exact H)|exact H
      have Ny473:=Aside0.mk hy473
      clear hy473
      replace H:=Option.bind_eq_some_iff.mp H
      obtain ⟨t476,A120,H⟩:=H
      try dsimp only at H
      have A12:=Aside0.mk A120
      clear A120
      obtain rfl:=Option.some.inj H
      go_wp2_with (first|((with_reducible refine gate_builtin (b:=.append) (xs:=#[.tmp 33,.tmp 36]) rfl ?_);at_builtin;refine Kd.R_append (Kd.int .u32) (w0:=w) w.heap.size rfl (.tmp 33) (.tmp 36) 23 35 (.int .u32 0) 4 rfl Tryd.underlying23 info35 rfl (by decide) (by omega) u5 x5_2 ((x6_2) % 4294967296) [.int .u32 ((x6_2) % 4294967296)] (fun _=>True) (fun _=>False) rfl rfl ?aP (fun _ hk=>hk.elim) ?aF ?aO ?aB ?aS ?aL ?_;(case aP=>exact rfl);(case aB=>exact (Hu HB.out));(case aF=>exact (fun _ _=>trivial));(case aO=>exact (Ru HO_5.out));(case aS=>exact (below_size (Hu HB.out)));(case aL=>have:=LMc11.out;omega);intro v474 w13 ho hb hg hat;rw [← Ny473.out] at ho;have n0_:=Aside0.mk (hb);have n1_:=Aside0.mk (ho);clear HB;clear HO_5;have HB:=n0_;have HO475:=n1_;clear n0_ n1_;clear ho hb hg hat;obtain ⟨Ao14,co14,eo14⟩:=Kd.R_slice HO475.out;subst eo14)|((with_reducible refine gate_callee (f:=58) rfl ?_);refine goesL_ (some 39) rfl rfl Tryd.func58 (by kernel_rfl) rfl #[.slice Ao14 y473.length co14] rfl (by (try simp only [List.map_toArray,List.map_cons,List.map_nil]);first|done|rfl) ?_;(with_reducible refine (penumbraref01_Norm.calls k2 _ _ y473 t476 _ ?side1 ?side2 A12.out).mono ?_);(case side1=>exact Cu (Kd.R_reads' HO475.out).2.2);(case side2=>exact (Kd.R_reads' HO475.out).2.1);rintro e w15 ⟨v477,rfl,ho0,hb⟩;refine ⟨_,rfl,?_⟩;have n0_:=Aside0.mk (Kd.R_elder' (Ru HO475.out) (Kd.R_base ho0) hb);have n1_:=Aside0.mk (Kd.R_lower (Kd.R_new' ho0 (Kd.R_lt (Ru HO475.out))) (below_size (Hu HB.out)));have n2_:=Aside0.mk (below_step (Hu HB.out) hb);clear HO475;clear HB;have HO475:=n0_;have HO478:=n1_;have HB:=n2_;clear n0_ n1_ n2_))
      go_ret
      exact ⟨_,by first|rfl|(simp [errW_none,errW_some] <;> rfl)|(simp [*,errW_none,errW_some] <;> rfl),by (with_reducible repeat (first|apply Ra|apply Rn|apply Rd));exact Kd.R_mono HO478.out (fun _ hk=>trivial),Hu HB.out⟩
end Go.Proofs.YtncdiodnbkhacaaDoor.Pq
end
section
namespace Go.Proofs.YtncdiodnbkhacaaDoor.Pq
open Go.RowKit Go.Proofs.YtncdiodnbkhacaaDoorW.PrintWords Go.Proofs.YtncdiodnbkhacaaDoorW.PrintLast Go.Proofs.YtncdiodnbkhacaaDoorW.PrintMore
attribute [local go_sem] max2_int min2_int max_two min_two max_three min_three max_four min_four
set_option linter.unusedVariables false
set_option linter.unusedSimpArgs false
theorem penumbraref01_Half.mono_l : ∀ k,(∀ y0 y1 y2,LeO (penumbraref01_Half.l0 k y0 y1 y2) (penumbraref01_Half.l0 (k+1) y0 y1 y2))
|0=>fun _ _ _ r h=>by simp [penumbraref01_Half.l0] at h
|k+1=>by
  have ih0:=penumbraref01_Half.mono_l k
  ·intro y0 y1 y2
   unfold penumbraref01_Half.l0
   with_reducible repeat' first
  |exact ih0 _ _ _
  |exact penumbraref01_Norm.mono _ _
  |exact LeO.refl _
  |exact LeO.none _
  |refine LeO.ite ?_ ?_
  |refine LeO.bind ?_ (fun _=>?_)
theorem penumbraref01_Half.mono : ∀ a0 k,LeO (penumbraref01_Half.f k a0) (penumbraref01_Half.f (k+1) a0):=by
 intro a0 k
 have ih0:=penumbraref01_Half.mono_l k
 unfold penumbraref01_Half.f
 with_reducible repeat' first
  |exact ih0 _ _ _
  |exact penumbraref01_Norm.mono _ _
  |exact LeO.refl _
  |exact LeO.none _
  |refine LeO.ite ?_ ?_
  |refine LeO.bind ?_ (fun _=>?_)
def penumbraref01_Half.T5 : Bool × List (List Nat × List Nat):=(true,[([],[]),([],[]),([],[]),([2],[2]),([1,3],[1,3]),([4],[4]),([5],[5]),([],[]),([],[]),([7,8],[7,8]),([9],[9]),([10],[10]),([6,11],[6,11]),([12],[12]),([13],[13]),([14],[14]),([0,15,4],[0,15]),([16,16,0,1,2,3,4,5,6,7,8,9,10,11,12,13,14,15,16],[0,16])])
def penumbraref01_Half.B5 : List Nat:=[0,0,0,4,14,30,62,0,0,384,896,1920,4094,8190,16382,32766,65535,131071]
theorem penumbraref01_Half.tab5 : rtab .any (opsOf Tryd.f73 5)=penumbraref01_Half.T5:=by kernel_rfl
theorem penumbraref01_Half.bits5 : waitsOk penumbraref01_Half.T5.2 penumbraref01_Half.B5=true:=by kernel_rfl
set_option maxHeartbeats 8000000 in
set_option maxRecDepth 100000 in
theorem penumbraref01_Half.calls (k : Nat) (A0 : Option Addr) (c0 : Nat) (l0 : List Int) (r : List Int) (w : World) (hr0 : Kd.C (Kd.int .u32) w A0 l0.length l0) (hc0 : l0.length≤c0) (h : penumbraref01_Half.f k l0=some r) :
  Calls Tryd.prog 73 #[.slice A0 l0.length c0] w fun e w'=>∃ v0_ : Value,e=.returned (v0_)∧Kd.R (Kd.int .u32) 35 w' w.heap.size (fun _=>True) v0_ r∧Below w.heap.size w w':=by
 have HR0:=Aside0.mk hr0
 have HC0:=Aside0.mk hc0
 clear hr0 hc0
 have HB:=Aside0.mk (Below.refl w.heap.size w)
 have H : (penumbraref01_Half.l0 k l0 (([] : List Int)) 0)=some r:=h
 clear h
 obtain ⟨y500,hy500⟩ : ∃ y_ : List Int,y_=(([] : List Int)):=⟨_,rfl⟩
 replace H : (penumbraref01_Half.l0 k l0 y500 0)=some r:=by first|(rw [hy500];with_reducible exact H)|(have H2_:=(Option.bind_some _ _).symm.trans H;rw [hy500];with_reducible exact H2_)|(have H2_:=(Option.bind_some _ _).symm.trans H;with_reducible exact H2_)|with_reducible exact H|(rw [hy500];exact H)|exact H
 have Ny500:=Aside0.mk hy500
 clear hy500
 have H':=Aside0.mk H
 clear H
 go_enter Tryd.func73,Tryd.ntmps73
 go_wp2_with (first|((with_reducible refine gate_dst (N:=5) rfl ?_);refine Kd.R_lit (Kd.int .u32) _ 35 ?hg (N:=5) ?hd (xs:=([] : List Int)) (inner:=[]) (ok:=fun _=>True) (okp:=fun _=>True) ?hr ?hp (fun _ hk=>hk) trivial (Below.refl _ _) (Nat.le_refl _) (by simp) ?_;(case hd=>rfl);(case hg=>rfl);(case hr=>first|(go_simp;done)|(go_simp;(with_reducible rfl))|(go_simp;rfl)|(go_simp;simp only [hu,Int.emod_sub_emod]));(case hp=>exact (Reps.none _ _));intro v501 w2 ho3 hb hg_ hnew_;clear hg_ hnew_;(first|rw [← Ny500.out] at ho3|(simp only [Int.reduceToNat] at ho3;rw [← Ny500.out] at ho3));have n0_:=Aside0.mk (Kd.R_lower ho3 (below_size (Hu HB.out)));have n1_:=Aside0.mk (below_step (Hu HB.out) hb);clear HB;have HO502:=n0_;have HB:=n1_;clear n0_ n1_;clear hb ho3))
 go_loopg [3,4] k (fun kq v3 v4 w'=>∃ (x3_1 : List Int) (x4_1 : Int),v4=.int .i64 x4_1∧Aside0 (penumbraref01_Half.l0 kq l0 x3_1 x4_1=some r)∧Aside0 (kq≤k)∧Aside0 (Kd.R (Kd.int .u32) 35 w' w.heap.size (fun _=>True) v3 x3_1)∧Aside0 (Below w.heap.size w w'))
 case atStart=>exact ⟨(y500),(0),(by first|rfl|(simp;done)|(simp [*];done)),H',⟨Nat.le_refl _⟩,⟨Ru HO502.out⟩,⟨Hu HB.out⟩⟩
 case round =>
  clear H'
  obtain ⟨x3_1,x4_1,rfl,HA,HK1,HO_3,HB⟩:=hrel
  cases gk with
 |zero=>exact absurd HA.out (by simp [penumbraref01_Half.l0])
 |succ k1 =>
   have H:=HA.out
   clear HA
   simp only [penumbraref01_Half.l0] at H
   by_cases c4 : x4_1 < (l0.length : Int)
   ·rw [if_pos c4] at H
    have c4b0 : decide (x4_1 < (l0.length : Int))=true:=decide_eq_true c4
    clear c4
    replace H:=Option.bind_eq_some_iff.mp H
    obtain ⟨t503,A50,H⟩:=H
    try dsimp only at H
    have A5:=Aside0.mk A50
    clear A50
    by_cases c6 : 0≤x4_1
    case neg =>rw [if_neg c6] at H;exact absurd H (by simp)
    rw [if_pos c6] at H
    have c6b0 : decide (0≤x4_1)=true:=decide_eq_true c6
    clear c6
    by_cases c7 : x3_1.length < 35184372088832
    case neg =>rw [if_neg c7] at H;exact absurd H (by simp)
    rw [if_pos c7] at H
    have LMc7:=Aside0.mk c7
    clear c7
    obtain ⟨y505,hy505⟩ : ∃ y_ : List Int,y_=(x3_1++[(IntKind.u64.wrap (Int.tdiv (IntKind.u64.wrap ((IntKind.u64.wrap ((Int.tmod t503 2) * 4294967296))+(IntKind.u64.wrap (rd l0 x4_1)))) 2)) % 4294967296]):=⟨_,rfl⟩
    replace H : (penumbraref01_Half.l0 k1 l0 y505 (wrap64 (x4_1+1)))=some r:=by first|(rw [hy505];with_reducible exact H)|(have H2_:=(Option.bind_some _ _).symm.trans H;rw [hy505];with_reducible exact H2_)|(have H2_:=(Option.bind_some _ _).symm.trans H;with_reducible exact H2_)|with_reducible exact H|(rw [hy505];exact H)|exact H
    have Ny505:=Aside0.mk hy505
    clear hy505
    have H':=Aside0.mk H
    clear H
    try go_wp2
    have n0_:=Aside0.mk (Rd HO_3.out)
    have n1_:=Aside0.mk (b1 HB.out)
    clear HO_3
    clear HB
    have HO_3:=n0_
    have HB:=n1_
    clear n0_ n1_
    have p504 : 0≤(x4_1 : Int):=of_decide_eq_true (by assumption)
    have q504 : x4_1 < (l0.length : Int):=of_decide_eq_true (by assumption)
    obtain ⟨ad504,e504,hx504_0⟩:=Kd.at_int HR0.out x4_1 p504 q504
    have hw504_0:=hx504_0
    cases e504
    replace hx504_0:=(HB.out.cell (World.block_lt_of_cell? w _ hx504_0)).trans hx504_0
    replace p504:=eq_true p504
    replace q504:=eq_true q504
    refine start_ (n:=18) (S:=fun w'=>w'.cell? (ad504.add (x4_1).toNat)=some (.int .u32 (rd l0 x4_1))) (ds:=[]) #[false,false,false,false,false,false,false,false,false,false,false,false,false,false,false,false,false,false] (by kernel_rfl) rfl rfl (((HB.out.cell (World.block_lt_of_cell? w _ hw504_0)).trans hw504_0)) (fun hHeld=>?_);refine with_tabW penumbraref01_Half.tab5 penumbraref01_Half.bits5 (fun HT_ HW_=>?_)
    generalize wr.drew=w8 at HO_3 HB hx504_0 hHeld ⊢
    refine pv (i:=0) (N:=some 12) (v:=?_) (a':=?_) rfl rfl (any_of HT_.out (by kernel_rfl)) (Or.inl ⟨by rfl,?_⟩) ?_ ?_
    rotate_left
    ·intro w'
     go_simp
     with_reducible rfl
    rotate_left
    ·simp only [Act.put,s0,s1,s2,i64_w,i32_w]
     rfl
    refine pv (i:=1) (N:=some 13) (v:=?_) (a':=?_) rfl rfl (any_of HT_.out (by kernel_rfl)) (Or.inl ⟨by rfl,?_⟩) ?_ ?_
    rotate_left
    ·intro w'
     go_simp
     with_reducible rfl
    rotate_left
    ·simp only [Act.put,s0,s1,s2,i64_w,i32_w]
     rfl
    refine pv (i:=2) (N:=some 14) (v:=?_) (a':=?_) rfl rfl (any_of HT_.out (by kernel_rfl)) (Or.inl ⟨by rfl,?_⟩) ?_ ?_
    rotate_left
    ·intro w'
     go_simp
     with_reducible rfl
    rotate_left
    ·simp only [Act.put,s0,s1,s2,i64_w,i32_w]
     rfl
    refine pv (i:=3) (N:=some 15) (v:=?_) (a':=?_) rfl rfl (any_of HT_.out (by kernel_rfl)) (Or.inl ⟨by rfl,?_⟩) ?_ ?_
    rotate_left
    ·intro w'
     go_simp
     with_reducible rfl
    rotate_left
    ·simp only [Act.put,s0,s1,s2,i64_w,i32_w]
     rfl
    refine pv (i:=7) (N:=some 19) (v:=?_) (a':=?_) rfl rfl (any_of HT_.out (by kernel_rfl)) (Or.inl ⟨by rfl,?_⟩) ?_ ?_
    rotate_left
    ·intro w'
     go_simp
     with_reducible rfl
    rotate_left
    ·simp only [Act.put,s0,s1,s2,i64_w,i32_w]
     rfl
    refine pv (i:=8) (N:=some 20) (v:=?_) (a':=?_) rfl rfl (any_of HT_.out (by kernel_rfl)) (Or.inl ⟨by rfl,?_⟩) ?_ ?_
    rotate_left
    ·intro w'
     go_simp
     with_reducible rfl
    rotate_left
    ·simp only [Act.put,s0,s1,s2,i64_w,i32_w]
     rfl
    refine pv (i:=9) (N:=some 21) (v:=?_) (a':=?_) rfl rfl (any_of HT_.out (by kernel_rfl)) (Or.inl ⟨by rfl,?_⟩) ?_ ?_
    rotate_left
    ·intro w'
     go_simp
     with_reducible rfl
    rotate_left
    ·simp only [Act.put,s0,s1,s2,i64_w,i32_w]
     rfl
    refine take_ (i:=10) (N:=some 22) (v:=?_) (a':=?_) #[true,true,true,true,false,false,false,true,true,true,true,false,false,false,false,false,false,false] rfl rfl (take_ofW HT_.out HW_.out (by kernel_rfl)) (fun _ _ _ h=>h) (Or.inl ⟨by rfl,?_⟩) hHeld ?_ ?_
    rotate_left
    ·intro w' s0
     go_simp
     with_reducible rfl
    rotate_left
    ·simp only [Act.put,s0,s1,s2,i64_w,i32_w]
     rfl
    refine pv (i:=11) (N:=some 23) (v:=?_) (a':=?_) rfl rfl (any_of HT_.out (by kernel_rfl)) (Or.inl ⟨by rfl,?_⟩) ?_ ?_
    rotate_left
    ·intro w'
     go_simp
     with_reducible rfl
    rotate_left
    ·simp only [Act.put,s0,s1,s2,i64_w,i32_w]
     rfl
    refine one_ (i:=4) (N:=some 16) #[true,true,true,true,true,false,false,true,true,true,true,true,false,false,false,false,false,false] rfl rfl (one_of HT_.out (by kernel_rfl)) (by decide) (fun K hK=>?_)
    refine goes_ Tryd.func84 (by kernel_rfl) rfl #[.slice (some ad504) l0.length c0,.int .i64 (wrap64 (x4_1+1))] (by rfl) rfl rfl (by (try simp only [List.map_toArray,List.map_cons,List.map_nil]);first|done|rfl) ?_
    with_reducible refine (penumbraref01_limb.calls _ _ l0 (wrap64 (x4_1+1)) t503 _ ?side1 ?side2 A5.out).mono ?_
    (case side1=>repeat (first|exact (Kd.C_below HR0.out HB.out)|(with_reducible refine Kd.C_alloc ?_ _)|(with_reducible refine Kd.C_drewN ?_ _)|(with_reducible refine Kd.C_drew ?_)))
    (case side2=>exact HC0.out)
    rintro e w' ⟨rfl,⟨nd,rfl⟩⟩
    refine ⟨_,rfl,?_⟩
    refine hK.out _ _ (((HB.out.cell (World.block_lt_of_cell? w _ hw504_0)).trans hw504_0)) (fun hHeld=>?_)
    clear hK K
    refine norm_ (a':=?_) ?_ ?_
    rotate_left
    ·show Act.put _ (some 16) _=_
     simp only [Act.put,s0,s1,s2,i64_w,i32_w]
     rfl
    refine pv (i:=5) (N:=some 17) (v:=?_) (a':=?_) rfl rfl (any_of HT_.out (by kernel_rfl)) (Or.inl ⟨by rfl,?_⟩) ?_ ?_
    rotate_left
    ·intro w'
     go_simp
     with_reducible rfl
    rotate_left
    ·simp only [Act.put,s0,s1,s2,i64_w,i32_w]
     rfl
    refine pv (i:=6) (N:=some 18) (v:=?_) (a':=?_) rfl rfl (any_of HT_.out (by kernel_rfl)) (Or.inl ⟨by rfl,?_⟩) ?_ ?_
    rotate_left
    ·intro w'
     go_simp
     with_reducible rfl
    rotate_left
    ·simp only [Act.put,s0,s1,s2,i64_w,i32_w]
     rfl
    refine pv (i:=12) (N:=some 24) (v:=?_) (a':=?_) rfl rfl (any_of HT_.out (by kernel_rfl)) (Or.inl ⟨by rfl,?_⟩) ?_ ?_
    rotate_left
    ·intro w'
     go_simp
     with_reducible rfl
    rotate_left
    ·simp only [Act.put,s0,s1,s2,i64_w,i32_w]
     rfl
    refine pv (i:=13) (N:=some 25) (v:=?_) (a':=?_) rfl rfl (any_of HT_.out (by kernel_rfl)) (Or.inl ⟨by rfl,?_⟩) ?_ ?_
    rotate_left
    ·intro w'
     go_simp
     with_reducible rfl
    rotate_left
    ·simp only [Act.put,s0,s1,s2,i64_w,i32_w]
     rfl
    refine pv (i:=14) (N:=some 26) (v:=?_) (a':=?_) rfl rfl (any_of HT_.out (by kernel_rfl)) (Or.inl ⟨by rfl,?_⟩) ?_ ?_
    rotate_left
    ·intro w'
     go_simp
     with_reducible rfl
    rotate_left
    ·simp only [Act.put,s0,s1,s2,i64_w,i32_w]
     rfl
    refine one_ (i:=15) (N:=some 27) #[true,true,true,true,true,true,true,true,true,true,true,true,true,true,true,true,false,false] rfl rfl (one_of HT_.out (by kernel_rfl)) (by decide) (fun K hK=>?_)
    refine value_ (w1:=?_) (v:=?_) (by rfl) rfl ?_ ?_
    rotate_left 2
    ·go_simp
     constructor
     ·rfl
     ·rfl
    refine hK.out _ _ ((World.cell?_alloc_lt _ _ _ (World.block_lt_of_cell? _ _ (((HB.out.cell (World.block_lt_of_cell? w _ hw504_0)).trans hw504_0)))).trans (((HB.out.cell (World.block_lt_of_cell? w _ hw504_0)).trans hw504_0))) (fun hHeld=>?_)
    clear hK K
    refine norm_ (a':=?_) ?_ ?_
    rotate_left
    ·show Act.put _ (some 27) _=_
     simp only [Act.put,s0,s1,s2,i64_w,i32_w]
     rfl
    refine one_ (i:=16) (N:=some 28) #[true,true,true,true,true,true,true,true,true,true,true,true,true,true,true,true,true,false] rfl rfl (one_of HT_.out (by kernel_rfl)) (by decide) (fun K hK=>?_)
    refine Kd.R_append_step (Kd.int .u32) (w0:=w) w.heap.size (by rfl) (.tmp 12) (.tmp 27) 23 35 (.int .u32 0) 4 rfl Tryd.underlying23 info35 rfl (by decide) (by omega) u3 x3_1 ((IntKind.u64.wrap (Int.tdiv (IntKind.u64.wrap ((IntKind.u64.wrap ((Int.tmod t503 2) * 4294967296))+(IntKind.u64.wrap (rd l0 x4_1)))) 2)) % 4294967296) [.int .u32 ((IntKind.u64.wrap (Int.tdiv (IntKind.u64.wrap ((IntKind.u64.wrap ((Int.tmod t503 2) * 4294967296))+(IntKind.u64.wrap (rd l0 x4_1)))) 2)) % 4294967296)] (fun _=>True) (fun _=>False) rfl rfl ?aP (fun _ hk=>hk.elim) ?aF ?aO ?aB ?aS ?aL ?_
    (case aP=>exact rfl)
    (case aB=>exact (Hu HB.out))
    (case aF=>exact (fun _ _=>trivial))
    (case aO=>exact (Ru HO_3.out))
    (case aS=>exact (below_size (Hu HB.out)))
    (case aL=>have:=LMc7.out;omega)
    intro v506 w9 ho hb hg hat
    rw [← Ny505.out] at ho
    have n0_:=Aside0.mk (hb)
    have n1_:=Aside0.mk (ho)
    clear HB
    clear HO_3
    have HB:=n0_
    have HO507:=n1_
    clear n0_ n1_
    clear ho hb hg hat
    refine hK.out _ _ (((HB.out.cell (World.block_lt_of_cell? w _ hw504_0)).trans hw504_0)) (fun hHeld=>?_)
    clear hK K
    refine norm_ (a':=?_) ?_ ?_
    rotate_left
    ·show Act.put _ (some 28) _=_
     simp only [Act.put,s0,s1,s2,i64_w,i32_w]
     rfl
    refine pv (i:=17) (N:=some 3) (v:=?_) (a':=?_) rfl rfl (any_of HT_.out (by kernel_rfl)) (Or.inl ⟨by rfl,?_⟩) ?_ ?_
    rotate_left
    ·intro w'
     go_simp
     with_reducible rfl
    rotate_left
    ·simp only [Act.put,s0,s1,s2,i64_w,i32_w]
     rfl
    refine done_ (done_of HT_.out (by kernel_rfl)) ?_
    try go_wp2
    go_roundg k1
    case measure=>have:=HK1.out;omega
    case rel=>exact ⟨(y505),(wrap64 (x4_1+1)),(by first|rfl|(simp;done)|(simp [*];done)),H',⟨by have:=HK1.out;omega⟩,⟨Ru HO507.out⟩,⟨Hu HB.out⟩⟩
   ·rw [if_neg c4] at H
    have c4b0 : decide (x4_1 < (l0.length : Int))=false:=decide_eq_false c4
    clear c4
    replace H:=Option.bind_eq_some_iff.mp H
    obtain ⟨t508,A100,H⟩:=H
    try dsimp only at H
    have A10:=Aside0.mk A100
    clear A100
    obtain rfl:=Option.some.inj H
    obtain ⟨Ao11,co11,eo11⟩:=Kd.R_slice HO_3.out
    subst eo11
    go_wp2_with (first|((with_reducible refine gate_callee (f:=58) rfl ?_);refine goesL_ (some 30) rfl rfl Tryd.func58 (by kernel_rfl) rfl #[.slice Ao11 x3_1.length co11] rfl (by (try simp only [List.map_toArray,List.map_cons,List.map_nil]);first|done|rfl) ?_;(with_reducible refine (penumbraref01_Norm.calls k1 _ _ x3_1 t508 _ ?side1 ?side2 A10.out).mono ?_);(case side1=>exact Cu (Kd.R_reads' HO_3.out).2.2);(case side2=>exact (Kd.R_reads' HO_3.out).2.1);rintro e w12 ⟨v509,rfl,ho0,hb⟩;refine ⟨_,rfl,?_⟩;have n0_:=Aside0.mk (Kd.R_elder' (Ru HO_3.out) (Kd.R_base ho0) hb);have n1_:=Aside0.mk (Kd.R_lower (Kd.R_new' ho0 (Kd.R_lt (Ru HO_3.out))) (below_size (Hu HB.out)));have n2_:=Aside0.mk (below_step (Hu HB.out) hb);clear HO_3;clear HB;have HO_3:=n0_;have HO510:=n1_;have HB:=n2_;clear n0_ n1_ n2_))
    go_ret
    exact ⟨_,by first|rfl|(simp [errW_none,errW_some] <;> rfl)|(simp [*,errW_none,errW_some] <;> rfl),by (with_reducible repeat (first|apply Ra|apply Rn|apply Rd));exact Kd.R_mono HO510.out (fun _ hk=>trivial),Hu HB.out⟩
end Go.Proofs.YtncdiodnbkhacaaDoor.Pq
end
section
namespace Go.Proofs.YtncdiodnbkhacaaDoor.Pq
open Go.RowKit Go.Proofs.YtncdiodnbkhacaaDoorW.PrintWords Go.Proofs.YtncdiodnbkhacaaDoorW.PrintLast Go.Proofs.YtncdiodnbkhacaaDoorW.PrintMore
attribute [local go_sem] max2_int min2_int max_two min_two max_three min_three max_four min_four
set_option linter.unusedVariables false
set_option linter.unusedSimpArgs false
theorem penumbraref01_Mul.mono_l : ∀ k,(∀ y0 y1 y2 y3,LeO (penumbraref01_Mul.l0 k y0 y1 y2 y3) (penumbraref01_Mul.l0 (k+1) y0 y1 y2 y3))∧(∀ y0 y1 y2 y3 y4 y5,LeO (penumbraref01_Mul.l1 k y0 y1 y2 y3 y4 y5) (penumbraref01_Mul.l1 (k+1) y0 y1 y2 y3 y4 y5))
|0=>⟨fun _ _ _ _ r h=>by simp [penumbraref01_Mul.l0] at h,fun _ _ _ _ _ _ r h=>by simp [penumbraref01_Mul.l1] at h⟩
|k+1=>by
  obtain ⟨ih0,ih1⟩:=penumbraref01_Mul.mono_l k
  refine ⟨?_,?_⟩
  ·intro y0 y1 y2 y3
   unfold penumbraref01_Mul.l0
   with_reducible repeat' first
  |exact ih0 _ _ _ _
  |exact ih1 _ _ _ _ _ _
  |exact penumbraref01_Norm.mono _ _
  |exact LeO.refl _
  |exact LeO.none _
  |refine LeO.ite ?_ ?_
  |refine LeO.bind ?_ (fun _=>?_)
  ·intro y0 y1 y2 y3 y4 y5
   unfold penumbraref01_Mul.l1
   with_reducible repeat' first
  |exact ih0 _ _ _ _
  |exact ih1 _ _ _ _ _ _
  |exact penumbraref01_Norm.mono _ _
  |exact LeO.refl _
  |exact LeO.none _
  |refine LeO.ite ?_ ?_
  |refine LeO.bind ?_ (fun _=>?_)
theorem penumbraref01_Mul.mono : ∀ a0 a1 k,LeO (penumbraref01_Mul.f k a0 a1) (penumbraref01_Mul.f (k+1) a0 a1):=by
 intro a0 a1 k
 obtain ⟨ih0,ih1⟩:=penumbraref01_Mul.mono_l k
 unfold penumbraref01_Mul.f
 with_reducible repeat' first
  |exact ih0 _ _ _ _
  |exact ih1 _ _ _ _ _ _
  |exact penumbraref01_Norm.mono _ _
  |exact LeO.refl _
  |exact LeO.none _
  |refine LeO.ite ?_ ?_
  |refine LeO.bind ?_ (fun _=>?_)
set_option maxHeartbeats 8000000 in
set_option maxRecDepth 100000 in
theorem penumbraref01_Mul.calls (k : Nat) (A0 : Option Addr) (c0 : Nat) (l0 : List Int) (A1 : Option Addr) (c1 : Nat) (l1 : List Int) (r : List Int) (w : World) (hr0 : Kd.C (Kd.int .u32) w A0 l0.length l0) (hc0 : l0.length≤c0) (hr1 : Kd.C (Kd.int .u32) w A1 l1.length l1) (hc1 : l1.length≤c1) (h : penumbraref01_Mul.f k l0 l1=some r) :
  Calls Tryd.prog 32 #[.slice A0 l0.length c0,.slice A1 l1.length c1] w fun e w'=>∃ v0_ : Value,e=.returned (v0_)∧Kd.R (Kd.int .u32) 35 w' w.heap.size (fun _=>True) v0_ r∧Below w.heap.size w w':=by
 have HR0:=Aside0.mk hr0
 have HC0:=Aside0.mk hc0
 clear hr0 hc0
 have HR1:=Aside0.mk hr1
 have HC1:=Aside0.mk hc1
 clear hr1 hc1
 have HB:=Aside0.mk (Below.refl w.heap.size w)
 have H : (if 0≤(wrap64 ((wrap64 ((l0.length : Int)+(l1.length : Int)))+1)) then (if (wrap64 ((wrap64 ((l0.length : Int)+(l1.length : Int)))+1) : Int).toNat≤70368744177664 then (penumbraref01_Mul.l0 k l0 l1 (List.replicate (wrap64 ((wrap64 ((l0.length : Int)+(l1.length : Int)))+1) : Int).toNat 0) 0) else (none)) else (none))=some r:=h
 clear h
 obtain ⟨ji3,hji3⟩ : ∃ j_ : Int,(wrap64 ((wrap64 ((l0.length : Int)+(l1.length : Int)))+1))=j_:=⟨_,rfl⟩
 replace H : (if 0≤(ji3) then (if (ji3 : Int).toNat≤70368744177664 then (penumbraref01_Mul.l0 k l0 l1 (List.replicate (ji3 : Int).toNat 0) 0) else (none)) else (none))=some r:=by first|(rw [hji3] at H;exact H)|(simp only [hji3] at H ⊢;exact H)
 have hji3w : (IntKind.i64.wrap ((wrap64 ((l0.length : Int)+(l1.length : Int)))+1))=ji3:=(i64_w _).trans hji3
 by_cases c4 : 0≤(ji3)
 case neg =>rw [if_neg c4] at H;exact absurd H (by simp)
 rw [if_pos c4] at H
 have c4b0:=eq_true c4
 have c4b1 : decide (0≤(ji3))=true:=decide_eq_true c4
 clear c4
 by_cases c5 : (ji3 : Int).toNat≤70368744177664
 case neg =>rw [if_neg c5] at H;exact absurd H (by simp)
 rw [if_pos c5] at H
 have c5b0:=eq_true c5
 have c5b1 : decide ((ji3 : Int).toNat≤70368744177664)=true:=decide_eq_true c5
 clear c5
 obtain ⟨y441,hy441⟩ : ∃ y_ : List Int,y_=(List.replicate (ji3 : Int).toNat 0):=⟨_,rfl⟩
 replace H : (penumbraref01_Mul.l0 k l0 l1 y441 0)=some r:=by first|(rw [hy441];with_reducible exact H)|(have H2_:=(Option.bind_some _ _).symm.trans H;rw [hy441];with_reducible exact H2_)|(have H2_:=(Option.bind_some _ _).symm.trans H;with_reducible exact H2_)|with_reducible exact H|(rw [hy441];exact H)|exact H
 have Ny441:=Aside0.mk hy441
 clear hy441
 have H':=Aside0.mk H
 clear H
 go_enter Tryd.func32,Tryd.ntmps32
 go_wp2_with (first|((with_reducible refine gate_dst (N:=16) rfl ?_);refine Kd.R_make (Kd.int .u32) _ 35 rfl (N:=16) rfl 23 _ _ rfl ji3 rfl rfl Tryd.underlying23 (.int .u32 0) 4 info35 rfl (by decide) (by omega) 0 (ok:=fun _=>True) (okp:=fun _=>True) rfl (fun _ hk=>hk) trivial (of_decide_eq_true (by assumption)) (Nat.le_trans (Nat.mul_le_mul_right _ (of_decide_eq_true (by assumption) : ji3.toNat≤70368744177664)) (by omega)) (Below.refl _ _) (Nat.le_refl _) ?_;intro v442 w6 ho7 hb hg_ hnew_;clear hg_ hnew_;(first|rw [← Ny441.out] at ho7|(simp only [Int.reduceToNat] at ho7;rw [← Ny441.out] at ho7));have n0_:=Aside0.mk (Kd.R_lower ho7 (below_size (Hu HB.out)));have n1_:=Aside0.mk (below_step (Hu HB.out) hb);clear HB;have HO443:=n0_;have HB:=n1_;clear n0_ n1_;clear hb ho7))
 go_loopg [6] k (fun kq v6 w'=>∃ (x5_1 : List Int) (x6_1 : Int),v6=.int .i64 x6_1∧Aside0 (penumbraref01_Mul.l0 kq l0 l1 x5_1 x6_1=some r)∧Aside0 (kq≤k)∧Aside0 (Kd.R (Kd.int .u32) 35 w' w.heap.size (fun _=>True) v442 x5_1)∧Aside0 (Below w.heap.size w w'))
 case atStart=>exact ⟨(y441),(0),(by first|rfl|(simp;done)|(simp [*];done)),H',⟨Nat.le_refl _⟩,⟨Ru HO443.out⟩,⟨Hu HB.out⟩⟩
 case round =>
  clear H'
  obtain ⟨x5_1,x6_1,rfl,HA,HK1,HO_5,HB⟩:=hrel
  cases gk with
 |zero=>exact absurd HA.out (by simp [penumbraref01_Mul.l0])
 |succ k1 =>
   have H:=HA.out
   clear HA
   simp only [penumbraref01_Mul.l0] at H
   by_cases c8 : x6_1 < (l0.length : Int)
   ·rw [if_pos c8] at H
    have c8b0 : decide (x6_1 < (l0.length : Int))=true:=decide_eq_true c8
    clear c8
    have H':=Aside0.mk H
    clear H
    go_wp2
    go_loopg [7,8] k1 (fun kq v7 v8 w'=>∃ (x5_2 : List Int) (x7_2 : Int) (x8_2 : Int),v7=.int .u64 x7_2∧v8=.int .i64 x8_2∧Aside0 (penumbraref01_Mul.l1 kq l0 l1 x5_2 x6_1 x7_2 x8_2=some r)∧Aside0 (kq≤k1)∧Aside0 (Kd.R (Kd.int .u32) 35 w' w.heap.size (fun _=>True) v442 x5_2)∧Aside0 (Below w.heap.size w w'))
    case atStart=>exact ⟨(x5_1),(0),(0),(by first|rfl|(simp;done)|(simp [*];done)),(by first|rfl|(simp;done)|(simp [*];done)),H',⟨Nat.le_refl _⟩,⟨Ru HO_5.out⟩,⟨Hu HB.out⟩⟩
    case round =>
     clear H'
     obtain ⟨x5_2,x7_2,x8_2,rfl,rfl,HA,HK2,HO_5,HB⟩:=hrel
     cases gk with
    |zero=>exact absurd HA.out (by simp [penumbraref01_Mul.l1])
    |succ k2 =>
      have H:=HA.out
      clear HA
      simp only [penumbraref01_Mul.l1] at H
      by_cases c9 : x8_2 < (l1.length : Int)
      ·rw [if_pos c9] at H
       have c9b0 : decide (x8_2 < (l1.length : Int))=true:=decide_eq_true c9
       clear c9
       by_cases c10 : 0≤x6_1
       case neg =>rw [if_neg c10] at H;exact absurd H (by simp)
       rw [if_pos c10] at H
       have c10b0 : decide (0≤x6_1)=true:=decide_eq_true c10
       clear c10
       by_cases c11 : x6_1 < (l0.length : Int)
       case neg =>rw [if_neg c11] at H;exact absurd H (by simp)
       rw [if_pos c11] at H
       have c11b0 : decide (x6_1 < (l0.length : Int))=true:=decide_eq_true c11
       clear c11
       by_cases c12 : 0≤x8_2
       case neg =>rw [if_neg c12] at H;exact absurd H (by simp)
       rw [if_pos c12] at H
       have c12b0 : decide (0≤x8_2)=true:=decide_eq_true c12
       clear c12
       obtain ⟨ji13,hji13⟩ : ∃ j_ : Int,(wrap64 (x6_1+x8_2))=j_:=⟨_,rfl⟩
       replace H : (if 0≤(ji13) then (if (ji13) < (x5_2.length : Int) then (penumbraref01_Mul.l1 k2 l0 l1 (x5_2.set ((ji13) : Int).toNat ((Int.tmod (IntKind.u64.wrap ((IntKind.u64.wrap ((IntKind.u64.wrap ((IntKind.u64.wrap (rd l0 x6_1)) * (IntKind.u64.wrap (rd l1 x8_2))))+(IntKind.u64.wrap (rd x5_2 (ji13)))))+x7_2)) 4294967296) % 4294967296)) x6_1 (IntKind.u64.wrap (Int.tdiv (IntKind.u64.wrap ((IntKind.u64.wrap ((IntKind.u64.wrap ((IntKind.u64.wrap (rd l0 x6_1)) * (IntKind.u64.wrap (rd l1 x8_2))))+(IntKind.u64.wrap (rd x5_2 (ji13)))))+x7_2)) 4294967296)) (wrap64 (x8_2+1))) else (none)) else (none))=some r:=by first|(rw [hji13] at H;exact H)|(simp only [hji13] at H ⊢;exact H)
       have hji13w : (IntKind.i64.wrap (x6_1+x8_2))=ji13:=(i64_w _).trans hji13
       by_cases c14 : 0≤(ji13)
       case neg =>rw [if_neg c14] at H;exact absurd H (by simp)
       rw [if_pos c14] at H
       have c14b0 : decide (0≤(ji13))=true:=decide_eq_true c14
       clear c14
       by_cases c15 : (ji13) < (x5_2.length : Int)
       case neg =>rw [if_neg c15] at H;exact absurd H (by simp)
       rw [if_pos c15] at H
       have c15b0 : decide ((ji13) < (x5_2.length : Int))=true:=decide_eq_true c15
       clear c15
       obtain ⟨y450,hy450⟩ : ∃ y_ : List Int,y_=(x5_2.set ((ji13) : Int).toNat ((Int.tmod (IntKind.u64.wrap ((IntKind.u64.wrap ((IntKind.u64.wrap ((IntKind.u64.wrap (rd l0 x6_1)) * (IntKind.u64.wrap (rd l1 x8_2))))+(IntKind.u64.wrap (rd x5_2 (ji13)))))+x7_2)) 4294967296) % 4294967296)):=⟨_,rfl⟩
       replace H : (penumbraref01_Mul.l1 k2 l0 l1 y450 x6_1 (IntKind.u64.wrap (Int.tdiv (IntKind.u64.wrap ((IntKind.u64.wrap ((IntKind.u64.wrap ((IntKind.u64.wrap (rd l0 x6_1)) * (IntKind.u64.wrap (rd l1 x8_2))))+(IntKind.u64.wrap (rd x5_2 (ji13)))))+x7_2)) 4294967296)) (wrap64 (x8_2+1)))=some r:=by first|(rw [hy450];with_reducible exact H)|(have H2_:=(Option.bind_some _ _).symm.trans H;rw [hy450];with_reducible exact H2_)|(have H2_:=(Option.bind_some _ _).symm.trans H;with_reducible exact H2_)|with_reducible exact H|(rw [hy450];exact H)|exact H
       have Ny450:=Aside0.mk hy450
       clear hy450
       have H':=Aside0.mk H
       clear H
       have p447 : 0≤(x6_1 : Int):=of_decide_eq_true (by assumption)
       have q447 : x6_1 < (l0.length : Int):=of_decide_eq_true (by assumption)
       obtain ⟨ad447,e447,hx447_0⟩:=Kd.at_int HR0.out x6_1 p447 q447
       cases e447
       replace hx447_0:=(HB.out.cell (World.block_lt_of_cell? w _ hx447_0)).trans hx447_0
       replace p447:=eq_true p447
       replace q447:=eq_true q447
       have p448 : 0≤(x8_2 : Int):=of_decide_eq_true (by assumption)
       have q448 : x8_2 < (l1.length : Int):=of_decide_eq_true (by assumption)
       obtain ⟨ad448,e448,hx448_0⟩:=Kd.at_int HR1.out x8_2 p448 q448
       cases e448
       replace hx448_0:=(HB.out.cell (World.block_lt_of_cell? w _ hx448_0)).trans hx448_0
       replace p448:=eq_true p448
       replace q448:=eq_true q448
       obtain ⟨Ao17,co17,eo17⟩:=Kd.R_slice HO_5.out
       subst eo17
       have p449 : 0≤((ji13) : Int):=of_decide_eq_true (by assumption)
       have q449 : (ji13) < (x5_2.length : Int):=of_decide_eq_true (by assumption)
       obtain ⟨ad449,e449,hx449_0⟩:=Kd.at_int (Kd.R_reads' HO_5.out).2.2 (ji13) p449 q449
       cases e449
       replace p449:=eq_true p449
       replace q449:=eq_true q449
       have p16 : 0≤((ji13) : Int):=of_decide_eq_true (by assumption)
       have q16 : ((ji13) : Int) < ((x5_2.length : Int) : Int):=of_decide_eq_true (by assumption)
       obtain ⟨go16,co16,eo16,gb16,gl16,cl16,HG16⟩:=Kd.R_form HO_5.out (by omega)
       (first|cases eo16|(injection eo16 with ea_ en_ ec_;(first|subst ea_|(injection ea_ with ea_;subst ea_));subst ec_;clear en_))
       have GB16:=Aside0.mk gb16
       have GG16:=Aside0.mk HG16
       clear gb16 gl16 HG16
       (first|simp only [add_plain] at hx449_0|skip)
       obtain ⟨hx16_0,hf16_0⟩:=Kd.R_celln 0 HO_5.out ((ji13) : Int) p16 q16
       replace p16:=eq_true p16
       replace q16:=eq_true q16
       obtain ⟨hy18_,hz18_⟩:=Kd.R_celln 0 HO_5.out ((ji13) : Int) (of_decide_eq_true (by assumption)) (of_decide_eq_true (by assumption))
       have HP18:=Kd.R_putg HO_5.out ((ji13) : Int) ((Int.tmod (IntKind.u64.wrap ((IntKind.u64.wrap ((IntKind.u64.wrap ((IntKind.u64.wrap (rd l0 x6_1)) * (IntKind.u64.wrap (rd l1 x8_2))))+(IntKind.u64.wrap (rd x5_2 (ji13)))))+x7_2)) 4294967296) % 4294967296)
       go_wp2_with (first|((with_reducible refine gate_store (t:=35) (p:=57) rfl ?_);(try (rw [drewN_self wr];generalize hq_ : World.drewN wr _=wr;have n0_:=Aside0.mk (Kd.R_at hq_ HO_5.out);have n1_:=Aside0.mk (below_at hq_ HB.out);clear hq_ HO_5 HB;have HO_5:=n0_;have HB:=n1_;clear n0_ n1_;(try (obtain ⟨hy18_,hz18_⟩:=Kd.R_celln 0 HO_5.out ((ji13) : Int) (of_decide_eq_true (by assumption)) (of_decide_eq_true (by assumption))));(try (have HP18:=Kd.R_putg HO_5.out ((ji13) : Int) ((Int.tmod (IntKind.u64.wrap ((IntKind.u64.wrap ((IntKind.u64.wrap ((IntKind.u64.wrap (rd l0 x6_1)) * (IntKind.u64.wrap (rd l1 x8_2))))+(IntKind.u64.wrap (rd x5_2 (ji13)))))+x7_2)) 4294967296) % 4294967296)))));refine store_event (t:=35) (p:=57) (v:=?vo_w19) (w1:=(wr.setCell ⟨go16,((ji13) : Int).toNat,none⟩ (.int .u32 ((Int.tmod (IntKind.u64.wrap ((IntKind.u64.wrap ((IntKind.u64.wrap ((IntKind.u64.wrap (rd l0 x6_1)) * (IntKind.u64.wrap (rd l1 x8_2))))+(IntKind.u64.wrap (rd x5_2 (ji13)))))+x7_2)) 4294967296) % 4294967296)))) ?hg ?ho ?hn ?hr ?_;(case ho=>rfl);(case hg=>rfl);(case hn=>rfl);(case hr=>first|(go_simp;done)|(go_simp;(with_reducible rfl))|(go_simp;rfl)|(go_simp;simp only [hu,Int.emod_sub_emod]));intro w19 hw;have hg : wr.grownBy w19 (some go16):=(by rw [hw];exact HP18.2);have hp_ : Kd.R (Kd.int .u32) 35 w19 w.heap.size (fun _=>True) (.slice (some ⟨go16,0,none⟩) x5_2.length co17) y450:=(by rw [hw,Ny450.out];exact HP18.1);clear HP18;have n0_:=Aside0.mk (hp_);have n1_:=Aside0.mk ((by rw [hw];exact below_set (HB.out) GB16.out : Below w.heap.size w w19));clear HO_5;clear HB;have HO_5:=n0_;have HB:=n1_;clear n0_ n1_;clear hg hw hp_))
       repeat (go_quiet (first|((with_reducible refine gate_store (t:=35) (p:=57) rfl ?_);(try (rw [drewN_self wr];generalize hq_ : World.drewN wr _=wr;have n0_:=Aside0.mk (Kd.R_at hq_ HO_5.out);have n1_:=Aside0.mk (below_at hq_ HB.out);clear hq_ HO_5 HB;have HO_5:=n0_;have HB:=n1_;clear n0_ n1_;(try (obtain ⟨hy18_,hz18_⟩:=Kd.R_celln 0 HO_5.out ((ji13) : Int) (of_decide_eq_true (by first|(with_reducible assumption)|assumption)) (of_decide_eq_true (by first|(with_reducible assumption)|assumption))));(try (have HP18:=Kd.R_putg HO_5.out ((ji13) : Int) ((Int.tmod (IntKind.u64.wrap ((IntKind.u64.wrap ((IntKind.u64.wrap ((IntKind.u64.wrap (rd l0 x6_1)) * (IntKind.u64.wrap (rd l1 x8_2))))+(IntKind.u64.wrap (rd x5_2 (ji13)))))+x7_2)) 4294967296) % 4294967296)))));refine store_event (t:=35) (p:=57) (v:=?vo_w19) (w1:=(wr.setCell ⟨go16,((ji13) : Int).toNat,none⟩ (.int .u32 ((Int.tmod (IntKind.u64.wrap ((IntKind.u64.wrap ((IntKind.u64.wrap ((IntKind.u64.wrap (rd l0 x6_1)) * (IntKind.u64.wrap (rd l1 x8_2))))+(IntKind.u64.wrap (rd x5_2 (ji13)))))+x7_2)) 4294967296) % 4294967296)))) ?hg ?ho ?hn ?hr ?_;(case ho=>rfl);(case hg=>rfl);(case hn=>rfl);(case hr=>first|(go_simp;done)|(go_simp;(with_reducible rfl))|(go_simp;rfl)|(go_simp;have hu_ : ∀ x : Int,IntKind.u32.wrap x=HMod.hMod x (4294967296 : Int):=(fun x=>by simp only [IntKind.wrap,IntKind.bits,IntKind.signed];simp);simp only [hu_,Int.emod_sub_emod]));intro w19 hw;have hg : wr.grownBy w19 (some go16):=(by rw [hw];exact HP18.2);have hp_ : Kd.R (Kd.int .u32) 35 w19 w.heap.size (fun _=>True) (.slice (some ⟨go16,0,none⟩) x5_2.length co17) y450:=(by rw [hw,Ny450.out];exact HP18.1);clear HP18;have n0_:=Aside0.mk (hp_);have n1_:=Aside0.mk ((by rw [hw];exact below_set (HB.out) GB16.out : Below w.heap.size w w19));clear HO_5;clear HB;have HO_5:=n0_;have HB:=n1_;clear n0_ n1_;clear hg hw hp_));try go_wp2_with (first|((with_reducible refine gate_store (t:=35) (p:=57) rfl ?_);(try (rw [drewN_self wr];generalize hq_ : World.drewN wr _=wr;have n0_:=Aside0.mk (Kd.R_at hq_ HO_5.out);have n1_:=Aside0.mk (below_at hq_ HB.out);clear hq_ HO_5 HB;have HO_5:=n0_;have HB:=n1_;clear n0_ n1_;(try (obtain ⟨hy18_,hz18_⟩:=Kd.R_celln 0 HO_5.out ((ji13) : Int) (of_decide_eq_true (by first|(with_reducible assumption)|assumption)) (of_decide_eq_true (by first|(with_reducible assumption)|assumption))));(try (have HP18:=Kd.R_putg HO_5.out ((ji13) : Int) ((Int.tmod (IntKind.u64.wrap ((IntKind.u64.wrap ((IntKind.u64.wrap ((IntKind.u64.wrap (rd l0 x6_1)) * (IntKind.u64.wrap (rd l1 x8_2))))+(IntKind.u64.wrap (rd x5_2 (ji13)))))+x7_2)) 4294967296) % 4294967296)))));refine store_event (t:=35) (p:=57) (v:=?vo_w19) (w1:=(wr.setCell ⟨go16,((ji13) : Int).toNat,none⟩ (.int .u32 ((Int.tmod (IntKind.u64.wrap ((IntKind.u64.wrap ((IntKind.u64.wrap ((IntKind.u64.wrap (rd l0 x6_1)) * (IntKind.u64.wrap (rd l1 x8_2))))+(IntKind.u64.wrap (rd x5_2 (ji13)))))+x7_2)) 4294967296) % 4294967296)))) ?hg ?ho ?hn ?hr ?_;(case ho=>rfl);(case hg=>rfl);(case hn=>rfl);(case hr=>first|(go_simp;done)|(go_simp;(with_reducible rfl))|(go_simp;rfl)|(go_simp;have hu_ : ∀ x : Int,IntKind.u32.wrap x=HMod.hMod x (4294967296 : Int):=(fun x=>by simp only [IntKind.wrap,IntKind.bits,IntKind.signed];simp);simp only [hu_,Int.emod_sub_emod]));intro w19 hw;have hg : wr.grownBy w19 (some go16):=(by rw [hw];exact HP18.2);have hp_ : Kd.R (Kd.int .u32) 35 w19 w.heap.size (fun _=>True) (.slice (some ⟨go16,0,none⟩) x5_2.length co17) y450:=(by rw [hw,Ny450.out];exact HP18.1);clear HP18;have n0_:=Aside0.mk (hp_);have n1_:=Aside0.mk ((by rw [hw];exact below_set (HB.out) GB16.out : Below w.heap.size w w19));clear HO_5;clear HB;have HO_5:=n0_;have HB:=n1_;clear n0_ n1_;clear hg hw hp_)))
       go_roundg k2
       case measure=>have:=HK1.out;have:=HK2.out;omega
       case rel=>exact ⟨(y450),(IntKind.u64.wrap (Int.tdiv (IntKind.u64.wrap ((IntKind.u64.wrap ((IntKind.u64.wrap ((IntKind.u64.wrap (rd l0 x6_1)) * (IntKind.u64.wrap (rd l1 x8_2))))+(IntKind.u64.wrap (rd x5_2 (ji13)))))+x7_2)) 4294967296)),(wrap64 (x8_2+1)),(by first|rfl|(simp;done)|(simp only [← hji13] <;> (first|rfl|simp))|(simp [*];done)),(by first|rfl|(simp;done)|(simp [*];done)),H',⟨by have:=HK1.out;have:=HK2.out;omega⟩,⟨Ru HO_5.out⟩,⟨Hu HB.out⟩⟩
      ·rw [if_neg c9] at H
       have c9b0 : decide (x8_2 < (l1.length : Int))=false:=decide_eq_false c9
       clear c9
       obtain ⟨ji20,hji20⟩ : ∃ j_ : Int,(wrap64 (x6_1+(l1.length : Int)))=j_:=⟨_,rfl⟩
       replace H : (if 0≤(ji20) then (if (ji20) < (x5_2.length : Int) then (penumbraref01_Mul.l0 k2 l0 l1 (x5_2.set ((ji20) : Int).toNat ((x7_2) % 4294967296)) (wrap64 (x6_1+1))) else (none)) else (none))=some r:=by first|(rw [hji20] at H;exact H)|(simp only [hji20] at H ⊢;exact H)
       have hji20w : (IntKind.i64.wrap (x6_1+(l1.length : Int)))=ji20:=(i64_w _).trans hji20
       by_cases c21 : 0≤(ji20)
       case neg =>rw [if_neg c21] at H;exact absurd H (by simp)
       rw [if_pos c21] at H
       have c21b0 : decide (0≤(ji20))=true:=decide_eq_true c21
       clear c21
       by_cases c22 : (ji20) < (x5_2.length : Int)
       case neg =>rw [if_neg c22] at H;exact absurd H (by simp)
       rw [if_pos c22] at H
       have c22b0 : decide ((ji20) < (x5_2.length : Int))=true:=decide_eq_true c22
       clear c22
       obtain ⟨y451,hy451⟩ : ∃ y_ : List Int,y_=(x5_2.set ((ji20) : Int).toNat ((x7_2) % 4294967296)):=⟨_,rfl⟩
       replace H : (penumbraref01_Mul.l0 k2 l0 l1 y451 (wrap64 (x6_1+1)))=some r:=by first|(rw [hy451];with_reducible exact H)|(have H2_:=(Option.bind_some _ _).symm.trans H;rw [hy451];with_reducible exact H2_)|(have H2_:=(Option.bind_some _ _).symm.trans H;with_reducible exact H2_)|with_reducible exact H|(rw [hy451];exact H)|exact H
       have Ny451:=Aside0.mk hy451
       clear hy451
       have H':=Aside0.mk H
       clear H
       have p23 : 0≤((ji20) : Int):=of_decide_eq_true (by assumption)
       have q23 : ((ji20) : Int) < ((x5_2.length : Int) : Int):=of_decide_eq_true (by assumption)
       obtain ⟨go23,co23,eo23,gb23,gl23,cl23,HG23⟩:=Kd.R_form HO_5.out (by omega)
       (first|cases eo23|(injection eo23 with ea_ en_ ec_;(first|subst ea_|(injection ea_ with ea_;subst ea_));subst ec_;clear en_))
       have GB23:=Aside0.mk gb23
       have GG23:=Aside0.mk HG23
       clear gb23 gl23 HG23
       obtain ⟨hx23_0,hf23_0⟩:=Kd.R_celln 0 HO_5.out ((ji20) : Int) p23 q23
       replace p23:=eq_true p23
       replace q23:=eq_true q23
       obtain ⟨hy24_,hz24_⟩:=Kd.R_celln 0 HO_5.out ((ji20) : Int) (of_decide_eq_true (by assumption)) (of_decide_eq_true (by assumption))
       have HP24:=Kd.R_putg HO_5.out ((ji20) : Int) ((x7_2) % 4294967296)
       go_wp2_with (first|((with_reducible refine gate_store (t:=35) (p:=67) rfl ?_);(try (rw [drewN_self wr];generalize hq_ : World.drewN wr _=wr;have n0_:=Aside0.mk (Kd.R_at hq_ HO_5.out);have n1_:=Aside0.mk (below_at hq_ HB.out);clear hq_ HO_5 HB;have HO_5:=n0_;have HB:=n1_;clear n0_ n1_;(try (obtain ⟨hy24_,hz24_⟩:=Kd.R_celln 0 HO_5.out ((ji20) : Int) (of_decide_eq_true (by assumption)) (of_decide_eq_true (by assumption))));(try (have HP24:=Kd.R_putg HO_5.out ((ji20) : Int) ((x7_2) % 4294967296)))));refine store_event (t:=35) (p:=67) (v:=?vo_w25) (w1:=(wr.setCell ⟨go23,((ji20) : Int).toNat,none⟩ (.int .u32 ((x7_2) % 4294967296)))) ?hg ?ho ?hn ?hr ?_;(case ho=>rfl);(case hg=>rfl);(case hn=>rfl);(case hr=>first|(go_simp;done)|(go_simp;(with_reducible rfl))|(go_simp;rfl)|(go_simp;simp only [hu,Int.emod_sub_emod]));intro w25 hw;have hg : wr.grownBy w25 (some go23):=(by rw [hw];exact HP24.2);have hp_ : Kd.R (Kd.int .u32) 35 w25 w.heap.size (fun _=>True) (.slice (some ⟨go23,0,none⟩) x5_2.length co23) y451:=(by rw [hw,Ny451.out];exact HP24.1);clear HP24;have n0_:=Aside0.mk (hp_);have n1_:=Aside0.mk ((by rw [hw];exact below_set (HB.out) GB23.out : Below w.heap.size w w25));clear HO_5;clear HB;have HO_5:=n0_;have HB:=n1_;clear n0_ n1_;clear hg hw hp_))
       go_roundg k2
       case measure=>have:=HK1.out;have:=HK2.out;omega
       case rel=>exact ⟨(y451),(wrap64 (x6_1+1)),(by first|rfl|(simp;done)|(simp [*];done)),H',⟨by have:=HK1.out;have:=HK2.out;omega⟩,⟨Ru HO_5.out⟩,⟨Hu HB.out⟩⟩
   ·rw [if_neg c8] at H
    have c8b0 : decide (x6_1 < (l0.length : Int))=false:=decide_eq_false c8
    clear c8
    replace H:=Option.bind_eq_some_iff.mp H
    obtain ⟨t444,A260,H⟩:=H
    try dsimp only at H
    have A26:=Aside0.mk A260
    clear A260
    obtain rfl:=Option.some.inj H
    obtain ⟨Ao27,co27,eo27⟩:=Kd.R_slice HO_5.out
    subst eo27
    go_wp2_with (first|(go_at_call 58;(with_reducible refine (penumbraref01_Norm.calls k1 _ _ x5_1 t444 _ ?side1 ?side2 A26.out).mono ?_);(case side1=>exact Cu (Kd.R_reads' HO_5.out).2.2);(case side2=>exact (Kd.R_reads' HO_5.out).2.1);rintro e w28 ⟨v445,rfl,ho0,hb⟩;have n0_:=Aside0.mk (Kd.R_elder' (Ru HO_5.out) (Kd.R_base ho0) hb);have n1_:=Aside0.mk (Kd.R_lower (Kd.R_new' ho0 (Kd.R_lt (Ru HO_5.out))) (below_size (Hu HB.out)));have n2_:=Aside0.mk (below_step (Hu HB.out) hb);clear HO_5;clear HB;have HO_5:=n0_;have HO446:=n1_;have HB:=n2_;clear n0_ n1_ n2_))
    go_ret
    exact ⟨_,by first|rfl|(simp [errW_none,errW_some] <;> rfl)|(simp only [← hji3];first|rfl|(simp [errW_none,errW_some] <;> rfl))|(simp [*,errW_none,errW_some] <;> rfl),by (with_reducible repeat (first|apply Ra|apply Rn|apply Rd));exact Kd.R_mono HO446.out (fun _ hk=>trivial),Hu HB.out⟩
end Go.Proofs.YtncdiodnbkhacaaDoor.Pq
end
section
namespace Go.Proofs.YtncdiodnbkhacaaDoor.Pq
open Go.RowKit Go.Proofs.YtncdiodnbkhacaaDoorW.PrintWords Go.Proofs.YtncdiodnbkhacaaDoorW.PrintLast Go.Proofs.YtncdiodnbkhacaaDoorW.PrintMore
attribute [local go_sem] max2_int min2_int max_two min_two max_three min_three max_four min_four
set_option linter.unusedVariables false
set_option linter.unusedSimpArgs false
theorem penumbraref01_Sub.mono_l : ∀ k,(∀ y0 y1 y2 y3 y4,LeO (penumbraref01_Sub.l0 k y0 y1 y2 y3 y4) (penumbraref01_Sub.l0 (k+1) y0 y1 y2 y3 y4))
|0=>fun _ _ _ _ _ r h=>by simp [penumbraref01_Sub.l0] at h
|k+1=>by
  have ih0:=penumbraref01_Sub.mono_l k
  ·intro y0 y1 y2 y3 y4
   unfold penumbraref01_Sub.l0
   with_reducible repeat' first
  |exact ih0 _ _ _ _ _
  |exact penumbraref01_Cmp.mono _ _ _
  |exact penumbraref01_Norm.mono _ _
  |exact LeO.refl _
  |exact LeO.none _
  |refine LeO.ite ?_ ?_
  |refine LeO.bind ?_ (fun _=>?_)
theorem penumbraref01_Sub.mono : ∀ a0 a1 k,LeO (penumbraref01_Sub.f k a0 a1) (penumbraref01_Sub.f (k+1) a0 a1):=by
 intro a0 a1 k
 have ih0:=penumbraref01_Sub.mono_l k
 unfold penumbraref01_Sub.f
 with_reducible repeat' first
  |exact ih0 _ _ _ _ _
  |exact penumbraref01_Cmp.mono _ _ _
  |exact penumbraref01_Norm.mono _ _
  |exact LeO.refl _
  |exact LeO.none _
  |refine LeO.ite ?_ ?_
  |refine LeO.bind ?_ (fun _=>?_)
set_option maxHeartbeats 8000000 in
set_option maxRecDepth 100000 in
theorem penumbraref01_Sub.calls (k : Nat) (A0 : Option Addr) (c0 : Nat) (l0 : List Int) (A1 : Option Addr) (c1 : Nat) (l1 : List Int) (r1 : List Int) (r2 : Bool) (w : World) (hr0 : Kd.C (Kd.int .u32) w A0 l0.length l0) (hc0 : l0.length≤c0) (hr1 : Kd.C (Kd.int .u32) w A1 l1.length l1) (hc1 : l1.length≤c1) (h : penumbraref01_Sub.f k l0 l1=some (r1,r2)) :
  Calls Tryd.prog 72 #[.slice A0 l0.length c0,.slice A1 l1.length c1] w fun e w'=>∃ v0_ : Value,e=.returned (.tuple #[v0_,.bool r2])∧Kd.R (Kd.int .u32) 35 w' w.heap.size (fun _=>True) v0_ r1∧Below w.heap.size w w':=by
 have HR0:=Aside0.mk hr0
 have HC0:=Aside0.mk hc0
 clear hr0 hc0
 have HR1:=Aside0.mk hr1
 have HC1:=Aside0.mk hc1
 clear hr1 hc1
 have HB:=Aside0.mk (Below.refl w.heap.size w)
 have H : ((penumbraref01_Cmp.f k l0 l1).bind fun t488=>(if t488 < 0 then (some (([] : List Int),false)) else (penumbraref01_Sub.l0 k l0 l1 (([] : List Int)) 0 0)))=some (r1,r2):=h
 clear h
 replace H:=Option.bind_eq_some_iff.mp H
 obtain ⟨t488,A30,H⟩:=H
 try dsimp only at H
 have A3:=Aside0.mk A30
 clear A30
 by_cases c4 : t488 < 0
 ·rw [if_pos c4] at H
  have c4b0 : decide (t488 < 0)=true:=decide_eq_true c4
  clear c4
  simp only [Option.some.injEq,Prod.mk.injEq] at H
  obtain ⟨rfl,rfl⟩:=H
  go_enter Tryd.func72,Tryd.ntmps72
  go_wp2_with (first|((with_reducible refine gate_callee (f:=59) rfl ?_);refine goesL_ (some 12) rfl rfl Tryd.func59 (by kernel_rfl) rfl #[.slice A0 l0.length c0,.slice A1 l1.length c1] rfl (by (try simp only [List.map_toArray,List.map_cons,List.map_nil]);first|done|rfl) ?_;(with_reducible refine (penumbraref01_Cmp.calls k _ _ l0 _ _ l1 t488 _ ?side1 ?side2 ?side3 ?side4 A3.out).mono ?_);(case side1=>exact Cu HR0.out);(case side2=>exact HC0.out);(case side3=>exact Cu HR1.out);(case side4=>exact HC1.out);rintro e w5 ⟨rfl,hb⟩;refine ⟨_,rfl,?_⟩;have n0_:=Aside0.mk (below_step (Hu HB.out) hb);clear HB;have HB:=n0_;clear n0_))
  go_ret2
  exact ⟨_,by first|rfl|(simp [errW_none,errW_some] <;> rfl)|(simp [*,errW_none,errW_some] <;> rfl),by first|exact Kd.R_nil _ _ _ _ _|exact Kd.N_nil _ _ _ _ _|exact Kd.V_nil _ _ _ _ _|exact Kd.Q_nil _ _ _ _ _|exact Kd.S_nil _ _ _ _ _,Hu HB.out⟩
 ·rw [if_neg c4] at H
  have c4b0 : decide (t488 < 0)=false:=decide_eq_false c4
  clear c4
  obtain ⟨y489,hy489⟩ : ∃ y_ : List Int,y_=(([] : List Int)):=⟨_,rfl⟩
  replace H : (penumbraref01_Sub.l0 k l0 l1 y489 0 0)=some (r1,r2):=by first|(rw [hy489];with_reducible exact H)|(have H2_:=(Option.bind_some _ _).symm.trans H;rw [hy489];with_reducible exact H2_)|(have H2_:=(Option.bind_some _ _).symm.trans H;with_reducible exact H2_)|with_reducible exact H|(rw [hy489];exact H)|exact H
  have Ny489:=Aside0.mk hy489
  clear hy489
  have H':=Aside0.mk H
  clear H
  go_enter Tryd.func72,Tryd.ntmps72
  go_wp2_with (first|((with_reducible refine gate_callee (f:=59) rfl ?_);refine goesL_ (some 12) rfl rfl Tryd.func59 (by kernel_rfl) rfl #[.slice A0 l0.length c0,.slice A1 l1.length c1] rfl (by (try simp only [List.map_toArray,List.map_cons,List.map_nil]);first|done|rfl) ?_;(with_reducible refine (penumbraref01_Cmp.calls k _ _ l0 _ _ l1 t488 _ ?side1 ?side2 ?side3 ?side4 A3.out).mono ?_);(case side1=>exact Cu HR0.out);(case side2=>exact HC0.out);(case side3=>exact Cu HR1.out);(case side4=>exact HC1.out);rintro e w6 ⟨rfl,hb⟩;refine ⟨_,rfl,?_⟩;have n0_:=Aside0.mk (below_step (Hu HB.out) hb);clear HB;have HB:=n0_;clear n0_)|((with_reducible refine gate_dst (N:=14) rfl ?_);refine Kd.R_lit (Kd.int .u32) _ 35 ?hg (N:=14) ?hd (xs:=([] : List Int)) (inner:=[]) (ok:=fun _=>True) (okp:=fun _=>True) ?hr ?hp (fun _ hk=>hk) trivial (Below.refl _ _) (Nat.le_refl _) (by simp) ?_;(case hd=>rfl);(case hg=>rfl);(case hr=>first|(go_simp;done)|(go_simp;(with_reducible rfl))|(go_simp;rfl)|(go_simp;simp only [hu,Int.emod_sub_emod]));(case hp=>exact (Reps.none _ _));intro v490 w7 ho8 hb hg_ hnew_;clear hg_ hnew_;(first|rw [← Ny489.out] at ho8|(simp only [Int.reduceToNat] at ho8;rw [← Ny489.out] at ho8));have n0_:=Aside0.mk (Kd.R_lower ho8 (below_size (Hu HB.out)));have n1_:=Aside0.mk (below_step (Hu HB.out) hb);clear HB;have HO491:=n0_;have HB:=n1_;clear n0_ n1_;clear hb ho8))
  go_loopg [6,7,8] k (fun kq v6 v7 v8 w'=>∃ (x6_1 : List Int) (x7_1 : Int) (x8_1 : Int),v7=.int .u64 x7_1∧v8=.int .i64 x8_1∧Aside0 (penumbraref01_Sub.l0 kq l0 l1 x6_1 x7_1 x8_1=some (r1,r2))∧Aside0 (kq≤k)∧Aside0 (Kd.R (Kd.int .u32) 35 w' w.heap.size (fun _=>True) v6 x6_1)∧Aside0 (Below w.heap.size w w'))
  case atStart=>exact ⟨(y489),(0),(0),(by first|rfl|(simp;done)|(simp [*];done)),(by first|rfl|(simp;done)|(simp [*];done)),H',⟨Nat.le_refl _⟩,⟨Ru HO491.out⟩,⟨Hu HB.out⟩⟩
  case round =>
   clear H'
   obtain ⟨x6_1,x7_1,x8_1,rfl,rfl,HA,HK1,HO_6,HB⟩:=hrel
   cases gk with
  |zero=>exact absurd HA.out (by simp [penumbraref01_Sub.l0])
  |succ k1 =>
    have H:=HA.out
    clear HA
    simp only [penumbraref01_Sub.l0] at H
    by_cases c9 : x8_1 < (l0.length : Int)
    ·rw [if_pos c9] at H
     have c9b0 : decide (x8_1 < (l0.length : Int))=true:=decide_eq_true c9
     clear c9
     replace H:=Option.bind_eq_some_iff.mp H
     obtain ⟨t492,A100,H⟩:=H
     try dsimp only at H
     have A10:=Aside0.mk A100
     clear A100
     replace H:=Option.bind_eq_some_iff.mp H
     obtain ⟨t493,A110,H⟩:=H
     try dsimp only at H
     have A11:=Aside0.mk A110
     clear A110
     by_cases c12 : x6_1.length < 35184372088832
     case neg =>rw [if_neg c12] at H;exact absurd H (by simp)
     rw [if_pos c12] at H
     have LMc12:=Aside0.mk c12
     clear c12
     obtain ⟨y494,hy494⟩ : ∃ y_ : List Int,y_=(x6_1++[(Int.tmod (IntKind.u64.wrap ((IntKind.u64.wrap ((IntKind.u64.wrap (4294967296+t492)) - t493)) - x7_1)) 4294967296) % 4294967296]):=⟨_,rfl⟩
     replace H : (penumbraref01_Sub.l0 k1 l0 l1 y494 (IntKind.u64.wrap (1 - (IntKind.u64.wrap (Int.tdiv (IntKind.u64.wrap ((IntKind.u64.wrap ((IntKind.u64.wrap (4294967296+t492)) - t493)) - x7_1)) 4294967296)))) (wrap64 (x8_1+1)))=some (r1,r2):=by first|(rw [hy494];with_reducible exact H)|(have H2_:=(Option.bind_some _ _).symm.trans H;rw [hy494];with_reducible exact H2_)|(have H2_:=(Option.bind_some _ _).symm.trans H;with_reducible exact H2_)|with_reducible exact H|(rw [hy494];exact H)|exact H
     have Ny494:=Aside0.mk hy494
     clear hy494
     have H':=Aside0.mk H
     clear H
     go_wp2_with (first|((with_reducible refine gate_callee (f:=84) rfl ?_);refine goesL_ (some 23) rfl rfl Tryd.func84 (by kernel_rfl) rfl #[.slice A0 l0.length c0,.int .i64 x8_1] rfl (by (try simp only [List.map_toArray,List.map_cons,List.map_nil]);first|done|rfl) ?_;(with_reducible refine (penumbraref01_limb.calls _ _ l0 x8_1 t492 _ ?side1 ?side2 A10.out).mono ?_);(case side1=>repeat (first|exact (Kd.C_below HR0.out HB.out)|(with_reducible refine Kd.C_alloc ?_ _)|(with_reducible refine Kd.C_drewN ?_ _)|(with_reducible refine Kd.C_drew ?_)));(case side2=>exact HC0.out);rintro e w' ⟨rfl,⟨nd,rfl⟩⟩;refine ⟨_,rfl,?_⟩)|((with_reducible refine gate_callee (f:=84) rfl ?_);refine goesL_ (some 27) rfl rfl Tryd.func84 (by kernel_rfl) rfl #[.slice A1 l1.length c1,.int .i64 x8_1] rfl (by (try simp only [List.map_toArray,List.map_cons,List.map_nil]);first|done|rfl) ?_;(with_reducible refine (penumbraref01_limb.calls _ _ l1 x8_1 t493 _ ?side1 ?side2 A11.out).mono ?_);(case side1=>repeat (first|exact (Kd.C_below HR1.out (Hu HB.out))|(with_reducible refine Kd.C_alloc ?_ _)|(with_reducible refine Kd.C_drewN ?_ _)|(with_reducible refine Kd.C_drew ?_)));(case side2=>exact HC1.out);rintro e w' ⟨rfl,⟨nd,rfl⟩⟩;refine ⟨_,rfl,?_⟩)|((with_reducible refine gate_builtin (b:=.append) (xs:=#[.tmp 31,.tmp 35]) rfl ?_);at_builtin;refine Kd.R_append (Kd.int .u32) (w0:=w) w.heap.size rfl (.tmp 31) (.tmp 35) 23 35 (.int .u32 0) 4 rfl Tryd.underlying23 info35 rfl (by decide) (by omega) u6 x6_1 ((Int.tmod (IntKind.u64.wrap ((IntKind.u64.wrap ((IntKind.u64.wrap (4294967296+t492)) - t493)) - x7_1)) 4294967296) % 4294967296) [.int .u32 ((Int.tmod (IntKind.u64.wrap ((IntKind.u64.wrap ((IntKind.u64.wrap (4294967296+t492)) - t493)) - x7_1)) 4294967296) % 4294967296)] (fun _=>True) (fun _=>False) rfl rfl ?aP (fun _ hk=>hk.elim) ?aF ?aO ?aB ?aS ?aL ?_;(case aP=>exact rfl);(case aB=>exact (Hu HB.out));(case aF=>exact (fun _ _=>trivial));(case aO=>exact (Ru HO_6.out));(case aS=>exact (below_size (Hu HB.out)));(case aL=>have:=LMc12.out;omega);intro v495 w13 ho hb hg hat;rw [← Ny494.out] at ho;have n0_:=Aside0.mk (hb);have n1_:=Aside0.mk (ho);clear HB;clear HO_6;have HB:=n0_;have HO496:=n1_;clear n0_ n1_;clear ho hb hg hat))
     go_roundg k1
     case measure=>have:=HK1.out;omega
     case rel=>exact ⟨(y494),(IntKind.u64.wrap (1 - (IntKind.u64.wrap (Int.tdiv (IntKind.u64.wrap ((IntKind.u64.wrap ((IntKind.u64.wrap (4294967296+t492)) - t493)) - x7_1)) 4294967296)))),(wrap64 (x8_1+1)),(by first|rfl|(simp;done)|(simp [*];done)),(by first|rfl|(simp;done)|(simp [*];done)),H',⟨by have:=HK1.out;omega⟩,⟨Ru HO496.out⟩,⟨Hu HB.out⟩⟩
    ·rw [if_neg c9] at H
     have c9b0 : decide (x8_1 < (l0.length : Int))=false:=decide_eq_false c9
     clear c9
     replace H:=Option.bind_eq_some_iff.mp H
     obtain ⟨t497,A140,H⟩:=H
     try dsimp only at H
     have A14:=Aside0.mk A140
     clear A140
     simp only [Option.some.injEq,Prod.mk.injEq] at H
     obtain ⟨rfl,rfl⟩:=H
     obtain ⟨Ao15,co15,eo15⟩:=Kd.R_slice HO_6.out
     subst eo15
     go_wp2_with (first|((with_reducible refine gate_callee (f:=58) rfl ?_);refine goesL_ (some 41) rfl rfl Tryd.func58 (by kernel_rfl) rfl #[.slice Ao15 x6_1.length co15] rfl (by (try simp only [List.map_toArray,List.map_cons,List.map_nil]);first|done|rfl) ?_;(with_reducible refine (penumbraref01_Norm.calls k1 _ _ x6_1 t497 _ ?side1 ?side2 A14.out).mono ?_);(case side1=>exact Cu (Kd.R_reads' HO_6.out).2.2);(case side2=>exact (Kd.R_reads' HO_6.out).2.1);rintro e w16 ⟨v498,rfl,ho0,hb⟩;refine ⟨_,rfl,?_⟩;have n0_:=Aside0.mk (Kd.R_elder' (Ru HO_6.out) (Kd.R_base ho0) hb);have n1_:=Aside0.mk (Kd.R_lower (Kd.R_new' ho0 (Kd.R_lt (Ru HO_6.out))) (below_size (Hu HB.out)));have n2_:=Aside0.mk (below_step (Hu HB.out) hb);clear HO_6;clear HB;have HO_6:=n0_;have HO499:=n1_;have HB:=n2_;clear n0_ n1_ n2_))
     go_ret2
     exact ⟨_,by first|rfl|(simp [errW_none,errW_some] <;> rfl)|(simp [*,errW_none,errW_some] <;> rfl),by (with_reducible repeat (first|apply Ra|apply Rn|apply Rd));exact Kd.R_mono HO499.out (fun _ hk=>trivial),Hu HB.out⟩
end Go.Proofs.YtncdiodnbkhacaaDoor.Pq
end
