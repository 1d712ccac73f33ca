import Derived.Test.YtncdiodnbkhacaaDoorDBack4
set_option linter.unusedVariables false
set_option linter.unusedSimpArgs false
section
namespace Go.Proofs.YtncdiodnbkhacaaDoor.Pq
open Go.RowKit Go.Proofs.YtncdiodnbkhacaaDoorW.PrintWords Go.Proofs.YtncdiodnbkhacaaDoorW.PrintLast Go.Proofs.YtncdiodnbkhacaaDoorW.PrintMore
attribute [local go_sem] max2_int min2_int max_two min_two max_three min_three max_four min_four
set_option linter.unusedVariables false
set_option linter.unusedSimpArgs false
def rat_Cmp.T6 : Bool × List (List Nat × List Nat):=(true,[([],[]),([],[]),([1],[1]),([],[]),([3],[3]),([2,4],[2,4]),([],[]),([6],[6]),([],[]),([8],[8]),([7,9,5],[7,9]),([5,10,10],[5,10]),([0,11],[0,11]),([12,11,0,1,2,3,4,5,6,7,8,9,10,11,12],[12])])
def rat_Cmp.B6 : List Nat:=[0,0,2,0,8,30,0,64,0,256,1022,2046,4095,8191]
theorem rat_Cmp.tab6 : rtab .any (opsOf Tryd.f46 6)=rat_Cmp.T6:=by kernel_rfl
theorem rat_Cmp.bits6 : waitsOk rat_Cmp.T6.2 rat_Cmp.B6=true:=by kernel_rfl
set_option maxHeartbeats 8000000 in
set_option maxRecDepth 100000 in
theorem rat_Cmp.calls (k : Nat) (a0_0 : Bool) (A0_1 : Option Addr) (c0_1 : Nat) (l0_1 : List Int) (A0_2 : Option Addr) (c0_2 : Nat) (l0_2 : List Int) (a1_0 : Bool) (A1_1 : Option Addr) (c1_1 : Nat) (l1_1 : List Int) (A1_2 : Option Addr) (c1_2 : Nat) (l1_2 : List Int) (r : Int) (w : World) (hr0_1 : Kd.C (Kd.int .u32) w A0_1 l0_1.length l0_1) (hc0_1 : l0_1.length≤c0_1) (hr0_2 : Kd.C (Kd.int .u32) w A0_2 l0_2.length l0_2) (hc0_2 : l0_2.length≤c0_2) (hr1_1 : Kd.C (Kd.int .u32) w A1_1 l1_1.length l1_1) (hc1_1 : l1_1.length≤c1_1) (hr1_2 : Kd.C (Kd.int .u32) w A1_2 l1_2.length l1_2) (hc1_2 : l1_2.length≤c1_2) (h : rat_Cmp.f k a0_0 l0_1 l0_2 a1_0 l1_1 l1_2=some r) :
  Calls Tryd.prog 46 #[.agg #[.bool a0_0,.slice A0_1 l0_1.length c0_1,.slice A0_2 l0_2.length c0_2],.agg #[.bool a1_0,.slice A1_1 l1_1.length c1_1,.slice A1_2 l1_2.length c1_2]] w fun e w'=>e=.returned (.int .i64 r)∧Below w.heap.size w w':=by
 have hu25:=Tryd.underlying25
 have HR0_1:=Aside0.mk hr0_1
 have HC0_1:=Aside0.mk hc0_1
 clear hr0_1 hc0_1
 have HR0_2:=Aside0.mk hr0_2
 have HC0_2:=Aside0.mk hc0_2
 clear hr0_2 hc0_2
 have HR1_1:=Aside0.mk hr1_1
 have HC1_1:=Aside0.mk hc1_1
 clear hr1_1 hc1_1
 have HR1_2:=Aside0.mk hr1_2
 have HC1_2:=Aside0.mk hc1_2
 clear hr1_2 hc1_2
 have HB:=Aside0.mk (Below.refl w.heap.size w)
 have H : ((rat_Sign.f k a0_0 l0_1 l0_2).bind fun t899=>((rat_Sign.f k a1_0 l1_1 l1_2).bind fun t900=>(if t899=t900 then ((nat_Mul.f k l0_1 l1_2).bind fun t901=>((nat_Mul.f k l1_1 l0_2).bind fun t904=>((nat_Cmp.f k t901 t904).bind fun t907=>(some (wrap64 (t899 * t907)))))) else (if t899 < t900 then (some (-1)) else (some 1)))))=some r:=h
 clear h
 replace H:=Option.bind_eq_some_iff.mp H
 obtain ⟨t899,A30,H⟩:=H
 try dsimp only at H
 have A3:=Aside0.mk A30
 clear A30
 replace H:=Option.bind_eq_some_iff.mp H
 obtain ⟨t900,A40,H⟩:=H
 try dsimp only at H
 have A4:=Aside0.mk A40
 clear A40
 by_cases c5 : t899=t900
 ·rw [if_pos c5] at H
  have c5b0 : (t899 == t900)=true:=beq_iff_eq.mpr c5
  have c5b1 : (t899 != t900)=false:=bne_eq_false_iff_eq.mpr c5
  clear c5
  replace H:=Option.bind_eq_some_iff.mp H
  obtain ⟨t901,A60,H⟩:=H
  try dsimp only at H
  have A6:=Aside0.mk A60
  clear A60
  replace H:=Option.bind_eq_some_iff.mp H
  obtain ⟨t904,A70,H⟩:=H
  try dsimp only at H
  have A7:=Aside0.mk A70
  clear A70
  replace H:=Option.bind_eq_some_iff.mp H
  obtain ⟨t907,A80,H⟩:=H
  try dsimp only at H
  have A8:=Aside0.mk A80
  clear A80
  obtain rfl:=Option.some.inj H
  go_enter Tryd.func46,Tryd.ntmps46
  try go_wp2_with (first|((with_reducible refine gate_dst (N:=2) rfl ?_);refine box_event ?hg (N:=2) ?hd (cs:=#[.bool a0_0,.slice A0_1 l0_1.length c0_1,.slice A0_2 l0_2.length c0_2]) (t:=25) ?hr ?_;(case hd=>rfl);(case hg=>rfl);(case hr=>first|(go_simp;done)|(go_simp;(with_reducible rfl))|(go_simp;rfl)|(go_simp;simp only [hu,Int.emod_sub_emod]));intro gb897 hg w9 hbox hb;have n0_:=Aside0.mk (below_step (Hu HB.out) hb);have n1_:=Aside0.mk (hbox);have n2_:=Aside0.mk ((by rw [hg];exact (below_size (Hu HB.out)) : w.heap.size≤gb897));have n3_:=Aside0.mk ((by rw [hg];exact (below_size (Hu HB.out)) : w.heap.size≤gb897));clear HB;have HB:=n0_;have BK897:=n1_;have GW897:=n2_;have GE897:=n3_;clear n0_ n1_ n2_ n3_;clear hb hbox hg)|((with_reducible refine gate_dst (N:=3) rfl ?_);refine box_event ?hg (N:=3) ?hd (cs:=#[.bool a1_0,.slice A1_1 l1_1.length c1_1,.slice A1_2 l1_2.length c1_2]) (t:=25) ?hr ?_;(case hd=>rfl);(case hg=>rfl);(case hr=>first|(go_simp;done)|(go_simp;(with_reducible rfl))|(go_simp;rfl)|(go_simp;simp only [hu,Int.emod_sub_emod]));intro gb898 hg w10 hbox hb;have n0_:=Aside0.mk (blk_below (g:=gb897) (o:=.cells #[.bool a0_0,.slice A0_1 l0_1.length c0_1,.slice A0_2 l0_2.length c0_2] 25 (0,0)) (Bu BK897.out) hb);have n1_:=Aside0.mk (below_step (by repeat (first|with_reducible exact HB.out|apply ba|apply bn|apply b1|refine below_set ?_ GE897.out)) hb);have n2_:=Aside0.mk (hbox);have n3_:=Aside0.mk ((by rw [hg];exact (below_size (by repeat (first|with_reducible exact HB.out|apply ba|apply bn|apply b1|refine below_set ?_ GE897.out))) : w.heap.size≤gb898));have n4_:=Aside0.mk ((by rw [hg];exact (below_size (by repeat (first|with_reducible exact HB.out|apply ba|apply bn|apply b1|refine below_set ?_ GE897.out))) : w.heap.size≤gb898));have n5_:=Aside0.mk ((by rw [hg];exact Nat.ne_of_lt (blk_lt (g:=gb897) (o:=.cells #[.bool a0_0,.slice A0_1 l0_1.length c0_1,.slice A0_2 l0_2.length c0_2] 25 (0,0)) (Bu BK897.out)) : gb897≠gb898));have n6_:=Aside0.mk ((by rw [hg];exact Nat.ne_of_gt (blk_lt (g:=gb897) (o:=.cells #[.bool a0_0,.slice A0_1 l0_1.length c0_1,.slice A0_2 l0_2.length c0_2] 25 (0,0)) (Bu BK897.out)) : gb898≠gb897));clear BK897;clear HB;have BK897:=n0_;have HB:=n1_;have BK898:=n2_;have GW898:=n3_;have GE898:=n4_;have NB897_898:=n5_;have NB898_897:=n6_;clear n0_ n1_ n2_ n3_ n4_ n5_ n6_;clear hb hbox hg))
  have n0_:=Aside0.mk (blk_drew BK897.out)
  have n1_:=Aside0.mk (blk_drew BK898.out)
  have n2_:=Aside0.mk (b1 HB.out)
  clear BK897
  clear BK898
  clear HB
  have BK897:=n0_
  have BK898:=n1_
  have HB:=n2_
  clear n0_ n1_ n2_
  refine start_ (n:=6) (S:=fun w'=>w'.cell? ⟨gb897,0,none⟩=some (.bool a0_0)∧w'.cell? ⟨gb897,1,none⟩=some (.slice A0_1 l0_1.length c0_1)∧w'.cell? ⟨gb897,2,none⟩=some (.slice A0_2 l0_2.length c0_2)∧w'.cell? ⟨gb898,0,none⟩=some (.bool a1_0)∧w'.cell? ⟨gb898,1,none⟩=some (.slice A1_1 l1_1.length c1_1)∧w'.cell? ⟨gb898,2,none⟩=some (.slice A1_2 l1_2.length c1_2)) (ds:=[]) #[false,false,false,false,false,false] (by kernel_rfl) rfl rfl ⟨(blk_cell BK897.out 0).trans rfl,(blk_cell BK897.out 1).trans rfl,(blk_cell BK897.out 2).trans rfl,(blk_cell BK898.out 0).trans rfl,(blk_cell BK898.out 1).trans rfl,(blk_cell BK898.out 2).trans rfl⟩ (fun hHeld=>?_)
  generalize w10.drew=w11 at BK897 BK898 HB hHeld ⊢
  refine take_ (i:=0) (N:=some 7) (v:=?_) (a':=?_) #[true,false,false,false,false,false] rfl rfl (by kernel_rfl) (fun _ _ _ h=>h) (Or.inl ⟨by rfl,?_⟩) hHeld ?_ ?_
  rotate_left
  ·rintro w' ⟨s0,s1,s2,s3,s4,s5⟩
   go_simp
   with_reducible rfl
  rotate_left
  ·simp only [Act.put,s0,s1,s2,i64_w,i32_w]
   rfl
  refine take_ (i:=2) (N:=some 9) (v:=?_) (a':=?_) #[true,false,true,false,false,false] rfl rfl (by kernel_rfl) (fun _ _ _ h=>h) (Or.inl ⟨by rfl,?_⟩) hHeld ?_ ?_
  rotate_left
  ·rintro w' ⟨s0,s1,s2,s3,s4,s5⟩
   go_simp
   with_reducible rfl
  rotate_left
  ·simp only [Act.put,s0,s1,s2,i64_w,i32_w]
   rfl
  refine one_ (i:=1) (N:=some 8) #[true,true,true,false,false,false] rfl rfl (by kernel_rfl) (by decide) (fun K hK=>?_)
  refine goes_ Tryd.func75 (by kernel_rfl) rfl #[.agg #[.bool a0_0,.slice A0_1 l0_1.length c0_1,.slice A0_2 l0_2.length c0_2]] (by rfl) rfl rfl (by (try simp only [List.map_toArray,List.map_cons,List.map_nil]);first|done|rfl) ?_
  with_reducible refine (rat_Sign.calls k a0_0 _ _ l0_1 _ _ l0_2 t899 _ ?side1 ?side2 ?side3 ?side4 A3.out).mono ?_
  (case side1=>repeat (first|exact (Kd.C_below HR0_1.out HB.out)|(with_reducible refine Kd.C_alloc ?_ _)|(with_reducible refine Kd.C_drewN ?_ _)|(with_reducible refine Kd.C_drew ?_)))
  (case side2=>exact HC0_1.out)
  (case side3=>repeat (first|exact (Kd.C_below HR0_2.out HB.out)|(with_reducible refine Kd.C_alloc ?_ _)|(with_reducible refine Kd.C_drewN ?_ _)|(with_reducible refine Kd.C_drew ?_)))
  (case side4=>exact HC0_2.out)
  rintro e w12 ⟨rfl,hb⟩
  refine ⟨_,rfl,?_⟩
  have n0_:=Aside0.mk (blk_below (g:=gb897) (o:=.cells #[.bool a0_0,.slice A0_1 l0_1.length c0_1,.slice A0_2 l0_2.length c0_2] 25 (0,0)) (Bu BK897.out) hb)
  have n1_:=Aside0.mk (blk_below (g:=gb898) (o:=.cells #[.bool a1_0,.slice A1_1 l1_1.length c1_1,.slice A1_2 l1_2.length c1_2] 25 (0,0)) (Bu BK898.out) hb)
  have n2_:=Aside0.mk (below_step (by repeat (first|with_reducible exact HB.out|apply ba|apply bn|apply b1|refine below_set ?_ GE897.out|refine below_set ?_ GE898.out)) hb)
  clear BK897
  clear BK898
  clear HB
  have BK897:=n0_
  have BK898:=n1_
  have HB:=n2_
  clear n0_ n1_ n2_
  (try clear hb)
  (try clear hb2)
  (try clear hk)
  (try clear hi)
  refine hK.out _ _ ⟨(blk_cell BK897.out 0).trans rfl,(blk_cell BK897.out 1).trans rfl,(blk_cell BK897.out 2).trans rfl,(blk_cell BK898.out 0).trans rfl,(blk_cell BK898.out 1).trans rfl,(blk_cell BK898.out 2).trans rfl⟩ (fun hHeld=>?_)
  clear hK K
  refine norm_ (a':=?_) ?_ ?_
  rotate_left
  ·show Act.put _ (some 8) _=_
   simp only [Act.put,s0,s1,s2,i64_w,i32_w]
   rfl
  refine one_ (i:=3) (N:=some 10) #[true,true,true,true,false,false] rfl rfl (by kernel_rfl) (by decide) (fun K hK=>?_)
  refine goes_ Tryd.func75 (by kernel_rfl) rfl #[.agg #[.bool a1_0,.slice A1_1 l1_1.length c1_1,.slice A1_2 l1_2.length c1_2]] (by rfl) rfl rfl (by (try simp only [List.map_toArray,List.map_cons,List.map_nil]);first|done|rfl) ?_
  with_reducible refine (rat_Sign.calls k a1_0 _ _ l1_1 _ _ l1_2 t900 _ ?side1 ?side2 ?side3 ?side4 A4.out).mono ?_
  (case side1=>repeat (first|exact (Kd.C_below HR1_1.out HB.out)|(with_reducible refine Kd.C_alloc ?_ _)|(with_reducible refine Kd.C_drewN ?_ _)|(with_reducible refine Kd.C_drew ?_)))
  (case side2=>exact HC1_1.out)
  (case side3=>repeat (first|exact (Kd.C_below HR1_2.out HB.out)|(with_reducible refine Kd.C_alloc ?_ _)|(with_reducible refine Kd.C_drewN ?_ _)|(with_reducible refine Kd.C_drew ?_)))
  (case side4=>exact HC1_2.out)
  rintro e w13 ⟨rfl,hb⟩
  refine ⟨_,rfl,?_⟩
  have n0_:=Aside0.mk (blk_below (g:=gb897) (o:=.cells #[.bool a0_0,.slice A0_1 l0_1.length c0_1,.slice A0_2 l0_2.length c0_2] 25 (0,0)) (Bu BK897.out) hb)
  have n1_:=Aside0.mk (blk_below (g:=gb898) (o:=.cells #[.bool a1_0,.slice A1_1 l1_1.length c1_1,.slice A1_2 l1_2.length c1_2] 25 (0,0)) (Bu BK898.out) hb)
  have n2_:=Aside0.mk (below_step (by repeat (first|with_reducible exact HB.out|apply ba|apply bn|apply b1|refine below_set ?_ GE897.out|refine below_set ?_ GE898.out)) hb)
  clear BK897
  clear BK898
  clear HB
  have BK897:=n0_
  have BK898:=n1_
  have HB:=n2_
  clear n0_ n1_ n2_
  (try clear hb)
  (try clear hb2)
  (try clear hk)
  (try clear hi)
  refine hK.out _ _ ⟨(blk_cell BK897.out 0).trans rfl,(blk_cell BK897.out 1).trans rfl,(blk_cell BK897.out 2).trans rfl,(blk_cell BK898.out 0).trans rfl,(blk_cell BK898.out 1).trans rfl,(blk_cell BK898.out 2).trans rfl⟩ (fun hHeld=>?_)
  clear hK K
  refine norm_ (a':=?_) ?_ ?_
  rotate_left
  ·show Act.put _ (some 10) _=_
   simp only [Act.put,s0,s1,s2,i64_w,i32_w]
   rfl
  refine pure_ (i:=4) (N:=some 5) (v:=?_) (a':=?_) #[true,true,true,true,true,false] rfl rfl (by kernel_rfl) (fun _ _ _ h=>h) (Or.inl ⟨by rfl,?_⟩) ?_ ?_
  rotate_left
  ·intro w'
   go_simp
   with_reducible rfl
  rotate_left
  ·simp only [Act.put,s0,s1,s2,i64_w,i32_w]
   rfl
  refine pure_ (i:=5) (N:=some 6) (v:=?_) (a':=?_) #[true,true,true,true,true,true] rfl rfl (by kernel_rfl) (fun _ _ _ h=>h) (Or.inl ⟨by rfl,?_⟩) ?_ ?_
  rotate_left
  ·intro w'
   go_simp
   with_reducible rfl
  rotate_left
  ·simp only [Act.put,s0,s1,s2,i64_w,i32_w]
   rfl
  refine done_ (by kernel_rfl) ?_
  try go_wp2
  have n0_:=Aside0.mk (blk_drew BK897.out)
  have n1_:=Aside0.mk (blk_drew BK898.out)
  have n2_:=Aside0.mk (b1 HB.out)
  clear BK897
  clear BK898
  clear HB
  have BK897:=n0_
  have BK898:=n1_
  have HB:=n2_
  clear n0_ n1_ n2_
  refine start_ (n:=14) (S:=fun w'=>w'.cell? ⟨gb897,0,none⟩=some (.bool a0_0)∧w'.cell? ⟨gb897,1,none⟩=some (.slice A0_1 l0_1.length c0_1)∧w'.cell? ⟨gb897,2,none⟩=some (.slice A0_2 l0_2.length c0_2)∧w'.cell? ⟨gb898,0,none⟩=some (.bool a1_0)∧w'.cell? ⟨gb898,1,none⟩=some (.slice A1_1 l1_1.length c1_1)∧w'.cell? ⟨gb898,2,none⟩=some (.slice A1_2 l1_2.length c1_2)) (ds:=[]) #[false,false,false,false,false,false,false,false,false,false,false,false,false,false] (by kernel_rfl) rfl rfl ⟨(blk_cell BK897.out 0).trans rfl,(blk_cell BK897.out 1).trans rfl,(blk_cell BK897.out 2).trans rfl,(blk_cell BK898.out 0).trans rfl,(blk_cell BK898.out 1).trans rfl,(blk_cell BK898.out 2).trans rfl⟩ (fun hHeld=>?_);refine with_tabW rat_Cmp.tab6 rat_Cmp.bits6 (fun HT_ HW_=>?_)
  generalize w13.drew=w14 at BK897 BK898 HB hHeld ⊢
  refine pv (i:=0) (N:=some 17) (v:=?_) (a':=?_) rfl rfl (any_of HT_.out (by kernel_rfl)) (Or.inl ⟨by rfl,?_⟩) ?_ ?_
  rotate_left
  ·intro w'
   go_simp
   with_reducible rfl
  rotate_left
  ·simp only [Act.put,s0,s1,s2,i64_w,i32_w]
   rfl
  refine pv (i:=1) (N:=some 18) (v:=?_) (a':=?_) rfl rfl (any_of HT_.out (by kernel_rfl)) (Or.inl ⟨by rfl,?_⟩) ?_ ?_
  rotate_left
  ·intro w'
   go_simp
   with_reducible rfl
  rotate_left
  ·simp only [Act.put,s0,s1,s2,i64_w,i32_w]
   rfl
  refine pv (i:=3) (N:=some 20) (v:=?_) (a':=?_) rfl rfl (any_of HT_.out (by kernel_rfl)) (Or.inl ⟨by rfl,?_⟩) ?_ ?_
  rotate_left
  ·intro w'
   go_simp
   with_reducible rfl
  rotate_left
  ·simp only [Act.put,s0,s1,s2,i64_w,i32_w]
   rfl
  refine pv (i:=6) (N:=some 23) (v:=?_) (a':=?_) rfl rfl (any_of HT_.out (by kernel_rfl)) (Or.inl ⟨by rfl,?_⟩) ?_ ?_
  rotate_left
  ·intro w'
   go_simp
   with_reducible rfl
  rotate_left
  ·simp only [Act.put,s0,s1,s2,i64_w,i32_w]
   rfl
  refine pv (i:=8) (N:=some 25) (v:=?_) (a':=?_) rfl rfl (any_of HT_.out (by kernel_rfl)) (Or.inl ⟨by rfl,?_⟩) ?_ ?_
  rotate_left
  ·intro w'
   go_simp
   with_reducible rfl
  rotate_left
  ·simp only [Act.put,s0,s1,s2,i64_w,i32_w]
   rfl
  refine take_ (i:=2) (N:=some 19) (v:=?_) (a':=?_) #[true,true,true,true,false,false,true,false,true,false,false,false,false,false] rfl rfl (take_ofW HT_.out HW_.out (by kernel_rfl)) (fun _ _ _ h=>h) (Or.inl ⟨by rfl,?_⟩) hHeld ?_ ?_
  rotate_left
  ·rintro w' ⟨s0,s1,s2,s3,s4,s5⟩
   go_simp
   with_reducible rfl
  rotate_left
  ·simp only [Act.put,s0,s1,s2,i64_w,i32_w]
   rfl
  refine take_ (i:=4) (N:=some 21) (v:=?_) (a':=?_) #[true,true,true,true,true,false,true,false,true,false,false,false,false,false] rfl rfl (take_ofW HT_.out HW_.out (by kernel_rfl)) (fun _ _ _ h=>h) (Or.inl ⟨by rfl,?_⟩) hHeld ?_ ?_
  rotate_left
  ·rintro w' ⟨s0,s1,s2,s3,s4,s5⟩
   go_simp
   with_reducible rfl
  rotate_left
  ·simp only [Act.put,s0,s1,s2,i64_w,i32_w]
   rfl
  refine take_ (i:=7) (N:=some 24) (v:=?_) (a':=?_) #[true,true,true,true,true,false,true,true,true,false,false,false,false,false] rfl rfl (take_ofW HT_.out HW_.out (by kernel_rfl)) (fun _ _ _ h=>h) (Or.inl ⟨by rfl,?_⟩) hHeld ?_ ?_
  rotate_left
  ·rintro w' ⟨s0,s1,s2,s3,s4,s5⟩
   go_simp
   with_reducible rfl
  rotate_left
  ·simp only [Act.put,s0,s1,s2,i64_w,i32_w]
   rfl
  refine take_ (i:=9) (N:=some 26) (v:=?_) (a':=?_) #[true,true,true,true,true,false,true,true,true,true,false,false,false,false] rfl rfl (take_ofW HT_.out HW_.out (by kernel_rfl)) (fun _ _ _ h=>h) (Or.inl ⟨by rfl,?_⟩) hHeld ?_ ?_
  rotate_left
  ·rintro w' ⟨s0,s1,s2,s3,s4,s5⟩
   go_simp
   with_reducible rfl
  rotate_left
  ·simp only [Act.put,s0,s1,s2,i64_w,i32_w]
   rfl
  refine one_ (i:=5) (N:=some 22) #[true,true,true,true,true,true,true,true,true,true,false,false,false,false] rfl rfl (one_of HT_.out (by kernel_rfl)) (by decide) (fun K hK=>?_)
  refine goes_ Tryd.func16 (by kernel_rfl) rfl #[.slice A0_1 l0_1.length c0_1,.slice A1_2 l1_2.length c1_2] (by rfl) rfl rfl (by (try simp only [List.map_toArray,List.map_cons,List.map_nil]);first|done|rfl) ?_
  with_reducible refine (nat_Mul.calls k _ _ l0_1 _ _ l1_2 t901 _ ?side1 ?side2 ?side3 ?side4 A6.out).mono ?_
  (case side1=>repeat (first|exact (Kd.C_below HR0_1.out HB.out)|(with_reducible refine Kd.C_alloc ?_ _)|(with_reducible refine Kd.C_drewN ?_ _)|(with_reducible refine Kd.C_drew ?_)))
  (case side2=>exact HC0_1.out)
  (case side3=>repeat (first|exact (Kd.C_below HR1_2.out HB.out)|(with_reducible refine Kd.C_alloc ?_ _)|(with_reducible refine Kd.C_drewN ?_ _)|(with_reducible refine Kd.C_drew ?_)))
  (case side4=>exact HC1_2.out)
  rintro e w15 ⟨v902,rfl,ho0,hb⟩
  refine ⟨_,rfl,?_⟩
  have n0_:=Aside0.mk (Kd.R_lower ho0 (below_size (by repeat (first|with_reducible exact HB.out|apply ba|apply bn|apply b1|refine below_set ?_ GE897.out|refine below_set ?_ GE898.out))))
  have n1_:=Aside0.mk (blk_below (g:=gb897) (o:=.cells #[.bool a0_0,.slice A0_1 l0_1.length c0_1,.slice A0_2 l0_2.length c0_2] 25 (0,0)) (Bu BK897.out) hb)
  have n2_:=Aside0.mk (blk_below (g:=gb898) (o:=.cells #[.bool a1_0,.slice A1_1 l1_1.length c1_1,.slice A1_2 l1_2.length c1_2] 25 (0,0)) (Bu BK898.out) hb)
  have n3_:=Aside0.mk (below_step (by repeat (first|with_reducible exact HB.out|apply ba|apply bn|apply b1|refine below_set ?_ GE897.out|refine below_set ?_ GE898.out)) hb)
  clear BK897
  clear BK898
  clear HB
  have HO903:=n0_
  have BK897:=n1_
  have BK898:=n2_
  have HB:=n3_
  clear n0_ n1_ n2_ n3_
  (try clear hb)
  (try clear hb2)
  (try clear hk)
  (try clear hi)
  (try clear ho0)
  refine hK.out _ _ ⟨(blk_cell BK897.out 0).trans rfl,(blk_cell BK897.out 1).trans rfl,(blk_cell BK897.out 2).trans rfl,(blk_cell BK898.out 0).trans rfl,(blk_cell BK898.out 1).trans rfl,(blk_cell BK898.out 2).trans rfl⟩ (fun hHeld=>?_)
  clear hK K
  refine norm_ (a':=?_) ?_ ?_
  rotate_left
  ·show Act.put _ (some 22) _=_
   simp only [Act.put,s0,s1,s2,i64_w,i32_w]
   rfl
  refine one_ (i:=10) (N:=some 27) #[true,true,true,true,true,true,true,true,true,true,true,false,false,false] rfl rfl (one_of HT_.out (by kernel_rfl)) (by decide) (fun K hK=>?_)
  refine goes_ Tryd.func16 (by kernel_rfl) rfl #[.slice A1_1 l1_1.length c1_1,.slice A0_2 l0_2.length c0_2] (by rfl) rfl rfl (by (try simp only [List.map_toArray,List.map_cons,List.map_nil]);first|done|rfl) ?_
  with_reducible refine (nat_Mul.calls k _ _ l1_1 _ _ l0_2 t904 _ ?side1 ?side2 ?side3 ?side4 A7.out).mono ?_
  (case side1=>repeat (first|exact (Kd.C_below HR1_1.out HB.out)|(with_reducible refine Kd.C_alloc ?_ _)|(with_reducible refine Kd.C_drewN ?_ _)|(with_reducible refine Kd.C_drew ?_)))
  (case side2=>exact HC1_1.out)
  (case side3=>repeat (first|exact (Kd.C_below HR0_2.out HB.out)|(with_reducible refine Kd.C_alloc ?_ _)|(with_reducible refine Kd.C_drewN ?_ _)|(with_reducible refine Kd.C_drew ?_)))
  (case side4=>exact HC0_2.out)
  rintro e w16 ⟨v905,rfl,ho0,hb⟩
  refine ⟨_,rfl,?_⟩
  have n0_:=Aside0.mk (Kd.R_elder' (Ru HO903.out) (Kd.R_base ho0) hb)
  have n1_:=Aside0.mk (Kd.R_lower (Kd.R_new' ho0 (Kd.R_lt (Ru HO903.out))) (below_size (by repeat (first|with_reducible exact HB.out|apply ba|apply bn|apply b1|refine below_set ?_ GE897.out|refine below_set ?_ GE898.out))))
  have n2_:=Aside0.mk (blk_below (g:=gb897) (o:=.cells #[.bool a0_0,.slice A0_1 l0_1.length c0_1,.slice A0_2 l0_2.length c0_2] 25 (0,0)) (Bu BK897.out) hb)
  have n3_:=Aside0.mk (blk_below (g:=gb898) (o:=.cells #[.bool a1_0,.slice A1_1 l1_1.length c1_1,.slice A1_2 l1_2.length c1_2] 25 (0,0)) (Bu BK898.out) hb)
  have n4_:=Aside0.mk (below_step (by repeat (first|with_reducible exact HB.out|apply ba|apply bn|apply b1|refine below_set ?_ GE897.out|refine below_set ?_ GE898.out)) hb)
  clear HO903
  clear BK897
  clear BK898
  clear HB
  have HO903:=n0_
  have HO906:=n1_
  have BK897:=n2_
  have BK898:=n3_
  have HB:=n4_
  clear n0_ n1_ n2_ n3_ n4_
  (try clear hb)
  (try clear hb2)
  (try clear hk)
  (try clear hi)
  (try clear ho0)
  obtain ⟨Ao17,co17,eo17⟩:=Kd.R_slice HO903.out
  (first|subst eo17|(injection eo17 with f1_ f2_ f3_;have f4_:=f1_.symm;have f5_:=f3_.symm;clear f1_ f2_ f3_;subst f4_;subst f5_))
  obtain ⟨Ao18,co18,eo18⟩:=Kd.R_slice HO906.out
  (first|subst eo18|(injection eo18 with f1_ f2_ f3_;have f4_:=f1_.symm;have f5_:=f3_.symm;clear f1_ f2_ f3_;subst f4_;subst f5_))
  refine hK.out _ _ ⟨(blk_cell BK897.out 0).trans rfl,(blk_cell BK897.out 1).trans rfl,(blk_cell BK897.out 2).trans rfl,(blk_cell BK898.out 0).trans rfl,(blk_cell BK898.out 1).trans rfl,(blk_cell BK898.out 2).trans rfl⟩ (fun hHeld=>?_)
  clear hK K
  refine norm_ (a':=?_) ?_ ?_
  rotate_left
  ·show Act.put _ (some 27) _=_
   simp only [Act.put,s0,s1,s2,i64_w,i32_w]
   rfl
  refine one_ (i:=11) (N:=some 28) #[true,true,true,true,true,true,true,true,true,true,true,true,false,false] rfl rfl (one_of HT_.out (by kernel_rfl)) (by decide) (fun K hK=>?_)
  refine goes_ Tryd.func61 (by kernel_rfl) rfl #[.slice Ao17 t901.length co17,.slice Ao18 t904.length co18] (by rfl) rfl rfl (by (try simp only [List.map_toArray,List.map_cons,List.map_nil]);first|done|rfl) ?_
  with_reducible refine (nat_Cmp.calls k _ _ t901 _ _ t904 t907 _ ?side1 ?side2 ?side3 ?side4 A8.out).mono ?_
  (case side1=>exact Cu (Kd.R_reads' HO903.out).2.2)
  (case side2=>exact (Kd.R_reads' HO903.out).2.1)
  (case side3=>exact Cu (Kd.R_reads' HO906.out).2.2)
  (case side4=>exact (Kd.R_reads' HO906.out).2.1)
  rintro e w' ⟨rfl,⟨nd,rfl⟩⟩
  refine ⟨_,rfl,?_⟩
  refine hK.out _ _ ⟨(blk_cell BK897.out 0).trans rfl,(blk_cell BK897.out 1).trans rfl,(blk_cell BK897.out 2).trans rfl,(blk_cell BK898.out 0).trans rfl,(blk_cell BK898.out 1).trans rfl,(blk_cell BK898.out 2).trans rfl⟩ (fun hHeld=>?_)
  clear hK K
  refine norm_ (a':=?_) ?_ ?_
  rotate_left
  ·show Act.put _ (some 28) _=_
   simp only [Act.put,s0,s1,s2,i64_w,i32_w]
   rfl
  refine pv (i:=12) (N:=some 29) (v:=?_) (a':=?_) rfl rfl (any_of HT_.out (by kernel_rfl)) (Or.inl ⟨by rfl,?_⟩) ?_ ?_
  rotate_left
  ·intro w'
   go_simp
   with_reducible rfl
  rotate_left
  ·simp only [Act.put,s0,s1,s2,i64_w,i32_w]
   rfl
  refine pv (i:=13) (N:=some 4) (v:=?_) (a':=?_) rfl rfl (any_of HT_.out (by kernel_rfl)) (Or.inl ⟨by rfl,?_⟩) ?_ ?_
  rotate_left
  ·intro w'
   go_simp
   with_reducible rfl
  rotate_left
  ·simp only [Act.put,s0,s1,s2,i64_w,i32_w]
   rfl
  refine done_ (done_of HT_.out (by kernel_rfl)) ?_
  try go_wp2
  go_ret
  exact ⟨by first|rfl|(simp [errW_none,errW_some] <;> rfl)|(simp [*,errW_none,errW_some] <;> rfl),by repeat (first|with_reducible exact HB.out|apply ba|apply bn|apply b1|refine below_set ?_ GE897.out|refine below_set ?_ GE898.out)⟩
 ·rw [if_neg c5] at H
  have c5b0 : (t899 == t900)=false:=beq_eq_false_iff_ne.mpr c5
  have c5b1 : (t899 != t900)=true:=bne_iff_ne.mpr c5
  by_cases c19 : t899 < t900
  ·rw [if_pos c19] at H
   have c19b0 : decide (t899 < t900)=true:=decide_eq_true c19
   clear c19
   obtain rfl:=Option.some.inj H
   go_enter Tryd.func46,Tryd.ntmps46
   try go_wp2_with (first|((with_reducible refine gate_dst (N:=2) rfl ?_);refine box_event ?hg (N:=2) ?hd (cs:=#[.bool a0_0,.slice A0_1 l0_1.length c0_1,.slice A0_2 l0_2.length c0_2]) (t:=25) ?hr ?_;(case hd=>rfl);(case hg=>rfl);(case hr=>first|(go_simp;done)|(go_simp;(with_reducible rfl))|(go_simp;rfl)|(go_simp;simp only [hu,Int.emod_sub_emod]));intro gb897 hg w20 hbox hb;have n0_:=Aside0.mk (below_step (Hu HB.out) hb);have n1_:=Aside0.mk (hbox);have n2_:=Aside0.mk ((by rw [hg];exact (below_size (Hu HB.out)) : w.heap.size≤gb897));have n3_:=Aside0.mk ((by rw [hg];exact (below_size (Hu HB.out)) : w.heap.size≤gb897));clear HB;have HB:=n0_;have BK897:=n1_;have GW897:=n2_;have GE897:=n3_;clear n0_ n1_ n2_ n3_;clear hb hbox hg)|((with_reducible refine gate_dst (N:=3) rfl ?_);refine box_event ?hg (N:=3) ?hd (cs:=#[.bool a1_0,.slice A1_1 l1_1.length c1_1,.slice A1_2 l1_2.length c1_2]) (t:=25) ?hr ?_;(case hd=>rfl);(case hg=>rfl);(case hr=>first|(go_simp;done)|(go_simp;(with_reducible rfl))|(go_simp;rfl)|(go_simp;simp only [hu,Int.emod_sub_emod]));intro gb898 hg w21 hbox hb;have n0_:=Aside0.mk (blk_below (g:=gb897) (o:=.cells #[.bool a0_0,.slice A0_1 l0_1.length c0_1,.slice A0_2 l0_2.length c0_2] 25 (0,0)) (Bu BK897.out) hb);have n1_:=Aside0.mk (below_step (by repeat (first|with_reducible exact HB.out|apply ba|apply bn|apply b1|refine below_set ?_ GE897.out)) hb);have n2_:=Aside0.mk (hbox);have n3_:=Aside0.mk ((by rw [hg];exact (below_size (by repeat (first|with_reducible exact HB.out|apply ba|apply bn|apply b1|refine below_set ?_ GE897.out))) : w.heap.size≤gb898));have n4_:=Aside0.mk ((by rw [hg];exact (below_size (by repeat (first|with_reducible exact HB.out|apply ba|apply bn|apply b1|refine below_set ?_ GE897.out))) : w.heap.size≤gb898));have n5_:=Aside0.mk ((by rw [hg];exact Nat.ne_of_lt (blk_lt (g:=gb897) (o:=.cells #[.bool a0_0,.slice A0_1 l0_1.length c0_1,.slice A0_2 l0_2.length c0_2] 25 (0,0)) (Bu BK897.out)) : gb897≠gb898));have n6_:=Aside0.mk ((by rw [hg];exact Nat.ne_of_gt (blk_lt (g:=gb897) (o:=.cells #[.bool a0_0,.slice A0_1 l0_1.length c0_1,.slice A0_2 l0_2.length c0_2] 25 (0,0)) (Bu BK897.out)) : gb898≠gb897));clear BK897;clear HB;have BK897:=n0_;have HB:=n1_;have BK898:=n2_;have GW898:=n3_;have GE898:=n4_;have NB897_898:=n5_;have NB898_897:=n6_;clear n0_ n1_ n2_ n3_ n4_ n5_ n6_;clear hb hbox hg))
   have n0_:=Aside0.mk (blk_drew BK897.out)
   have n1_:=Aside0.mk (blk_drew BK898.out)
   have n2_:=Aside0.mk (b1 HB.out)
   clear BK897
   clear BK898
   clear HB
   have BK897:=n0_
   have BK898:=n1_
   have HB:=n2_
   clear n0_ n1_ n2_
   refine start_ (n:=6) (S:=fun w'=>w'.cell? ⟨gb897,0,none⟩=some (.bool a0_0)∧w'.cell? ⟨gb897,1,none⟩=some (.slice A0_1 l0_1.length c0_1)∧w'.cell? ⟨gb897,2,none⟩=some (.slice A0_2 l0_2.length c0_2)∧w'.cell? ⟨gb898,0,none⟩=some (.bool a1_0)∧w'.cell? ⟨gb898,1,none⟩=some (.slice A1_1 l1_1.length c1_1)∧w'.cell? ⟨gb898,2,none⟩=some (.slice A1_2 l1_2.length c1_2)) (ds:=[]) #[false,false,false,false,false,false] (by kernel_rfl) rfl rfl ⟨(blk_cell BK897.out 0).trans rfl,(blk_cell BK897.out 1).trans rfl,(blk_cell BK897.out 2).trans rfl,(blk_cell BK898.out 0).trans rfl,(blk_cell BK898.out 1).trans rfl,(blk_cell BK898.out 2).trans rfl⟩ (fun hHeld=>?_)
   generalize w21.drew=w22 at BK897 BK898 HB hHeld ⊢
   refine take_ (i:=0) (N:=some 7) (v:=?_) (a':=?_) #[true,false,false,false,false,false] rfl rfl (by kernel_rfl) (fun _ _ _ h=>h) (Or.inl ⟨by rfl,?_⟩) hHeld ?_ ?_
   rotate_left
   ·rintro w' ⟨s0,s1,s2,s3,s4,s5⟩
    go_simp
    with_reducible rfl
   rotate_left
   ·simp only [Act.put,s0,s1,s2,i64_w,i32_w]
    rfl
   refine take_ (i:=2) (N:=some 9) (v:=?_) (a':=?_) #[true,false,true,false,false,false] rfl rfl (by kernel_rfl) (fun _ _ _ h=>h) (Or.inl ⟨by rfl,?_⟩) hHeld ?_ ?_
   rotate_left
   ·rintro w' ⟨s0,s1,s2,s3,s4,s5⟩
    go_simp
    with_reducible rfl
   rotate_left
   ·simp only [Act.put,s0,s1,s2,i64_w,i32_w]
    rfl
   refine one_ (i:=1) (N:=some 8) #[true,true,true,false,false,false] rfl rfl (by kernel_rfl) (by decide) (fun K hK=>?_)
   refine goes_ Tryd.func75 (by kernel_rfl) rfl #[.agg #[.bool a0_0,.slice A0_1 l0_1.length c0_1,.slice A0_2 l0_2.length c0_2]] (by rfl) rfl rfl (by (try simp only [List.map_toArray,List.map_cons,List.map_nil]);first|done|rfl) ?_
   with_reducible refine (rat_Sign.calls k a0_0 _ _ l0_1 _ _ l0_2 t899 _ ?side1 ?side2 ?side3 ?side4 A3.out).mono ?_
   (case side1=>repeat (first|exact (Kd.C_below HR0_1.out HB.out)|(with_reducible refine Kd.C_alloc ?_ _)|(with_reducible refine Kd.C_drewN ?_ _)|(with_reducible refine Kd.C_drew ?_)))
   (case side2=>exact HC0_1.out)
   (case side3=>repeat (first|exact (Kd.C_below HR0_2.out HB.out)|(with_reducible refine Kd.C_alloc ?_ _)|(with_reducible refine Kd.C_drewN ?_ _)|(with_reducible refine Kd.C_drew ?_)))
   (case side4=>exact HC0_2.out)
   rintro e w23 ⟨rfl,hb⟩
   refine ⟨_,rfl,?_⟩
   have n0_:=Aside0.mk (blk_below (g:=gb897) (o:=.cells #[.bool a0_0,.slice A0_1 l0_1.length c0_1,.slice A0_2 l0_2.length c0_2] 25 (0,0)) (Bu BK897.out) hb)
   have n1_:=Aside0.mk (blk_below (g:=gb898) (o:=.cells #[.bool a1_0,.slice A1_1 l1_1.length c1_1,.slice A1_2 l1_2.length c1_2] 25 (0,0)) (Bu BK898.out) hb)
   have n2_:=Aside0.mk (below_step (by repeat (first|with_reducible exact HB.out|apply ba|apply bn|apply b1|refine below_set ?_ GE897.out|refine below_set ?_ GE898.out)) hb)
   clear BK897
   clear BK898
   clear HB
   have BK897:=n0_
   have BK898:=n1_
   have HB:=n2_
   clear n0_ n1_ n2_
   (try clear hb)
   (try clear hb2)
   (try clear hk)
   (try clear hi)
   refine hK.out _ _ ⟨(blk_cell BK897.out 0).trans rfl,(blk_cell BK897.out 1).trans rfl,(blk_cell BK897.out 2).trans rfl,(blk_cell BK898.out 0).trans rfl,(blk_cell BK898.out 1).trans rfl,(blk_cell BK898.out 2).trans rfl⟩ (fun hHeld=>?_)
   clear hK K
   refine norm_ (a':=?_) ?_ ?_
   rotate_left
   ·show Act.put _ (some 8) _=_
    simp only [Act.put,s0,s1,s2,i64_w,i32_w]
    rfl
   refine one_ (i:=3) (N:=some 10) #[true,true,true,true,false,false] rfl rfl (by kernel_rfl) (by decide) (fun K hK=>?_)
   refine goes_ Tryd.func75 (by kernel_rfl) rfl #[.agg #[.bool a1_0,.slice A1_1 l1_1.length c1_1,.slice A1_2 l1_2.length c1_2]] (by rfl) rfl rfl (by (try simp only [List.map_toArray,List.map_cons,List.map_nil]);first|done|rfl) ?_
   with_reducible refine (rat_Sign.calls k a1_0 _ _ l1_1 _ _ l1_2 t900 _ ?side1 ?side2 ?side3 ?side4 A4.out).mono ?_
   (case side1=>repeat (first|exact (Kd.C_below HR1_1.out HB.out)|(with_reducible refine Kd.C_alloc ?_ _)|(with_reducible refine Kd.C_drewN ?_ _)|(with_reducible refine Kd.C_drew ?_)))
   (case side2=>exact HC1_1.out)
   (case side3=>repeat (first|exact (Kd.C_below HR1_2.out HB.out)|(with_reducible refine Kd.C_alloc ?_ _)|(with_reducible refine Kd.C_drewN ?_ _)|(with_reducible refine Kd.C_drew ?_)))
   (case side4=>exact HC1_2.out)
   rintro e w24 ⟨rfl,hb⟩
   refine ⟨_,rfl,?_⟩
   have n0_:=Aside0.mk (blk_below (g:=gb897) (o:=.cells #[.bool a0_0,.slice A0_1 l0_1.length c0_1,.slice A0_2 l0_2.length c0_2] 25 (0,0)) (Bu BK897.out) hb)
   have n1_:=Aside0.mk (blk_below (g:=gb898) (o:=.cells #[.bool a1_0,.slice A1_1 l1_1.length c1_1,.slice A1_2 l1_2.length c1_2] 25 (0,0)) (Bu BK898.out) hb)
   have n2_:=Aside0.mk (below_step (by repeat (first|with_reducible exact HB.out|apply ba|apply bn|apply b1|refine below_set ?_ GE897.out|refine below_set ?_ GE898.out)) hb)
   clear BK897
   clear BK898
   clear HB
   have BK897:=n0_
   have BK898:=n1_
   have HB:=n2_
   clear n0_ n1_ n2_
   (try clear hb)
   (try clear hb2)
   (try clear hk)
   (try clear hi)
   refine hK.out _ _ ⟨(blk_cell BK897.out 0).trans rfl,(blk_cell BK897.out 1).trans rfl,(blk_cell BK897.out 2).trans rfl,(blk_cell BK898.out 0).trans rfl,(blk_cell BK898.out 1).trans rfl,(blk_cell BK898.out 2).trans rfl⟩ (fun hHeld=>?_)
   clear hK K
   refine norm_ (a':=?_) ?_ ?_
   rotate_left
   ·show Act.put _ (some 10) _=_
    simp only [Act.put,s0,s1,s2,i64_w,i32_w]
    rfl
   refine pure_ (i:=4) (N:=some 5) (v:=?_) (a':=?_) #[true,true,true,true,true,false] rfl rfl (by kernel_rfl) (fun _ _ _ h=>h) (Or.inl ⟨by rfl,?_⟩) ?_ ?_
   rotate_left
   ·intro w'
    go_simp
    with_reducible rfl
   rotate_left
   ·simp only [Act.put,s0,s1,s2,i64_w,i32_w]
    rfl
   refine pure_ (i:=5) (N:=some 6) (v:=?_) (a':=?_) #[true,true,true,true,true,true] rfl rfl (by kernel_rfl) (fun _ _ _ h=>h) (Or.inl ⟨by rfl,?_⟩) ?_ ?_
   rotate_left
   ·intro w'
    go_simp
    with_reducible rfl
   rotate_left
   ·simp only [Act.put,s0,s1,s2,i64_w,i32_w]
    rfl
   refine done_ (by kernel_rfl) ?_
   try go_wp2
   go_ret
   exact ⟨by first|rfl|(simp [errW_none,errW_some] <;> rfl)|(simp [*,errW_none,errW_some] <;> rfl),by repeat (first|with_reducible exact HB.out|apply ba|apply bn|apply b1|refine below_set ?_ GE897.out|refine below_set ?_ GE898.out)⟩
  ·rw [if_neg c19] at H
   have c19b0 : decide (t899 < t900)=false:=decide_eq_false c19
   clear c19
   obtain rfl:=Option.some.inj H
   go_enter Tryd.func46,Tryd.ntmps46
   try go_wp2_with (first|((with_reducible refine gate_dst (N:=2) rfl ?_);refine box_event ?hg (N:=2) ?hd (cs:=#[.bool a0_0,.slice A0_1 l0_1.length c0_1,.slice A0_2 l0_2.length c0_2]) (t:=25) ?hr ?_;(case hd=>rfl);(case hg=>rfl);(case hr=>first|(go_simp;done)|(go_simp;(with_reducible rfl))|(go_simp;rfl)|(go_simp;simp only [hu,Int.emod_sub_emod]));intro gb897 hg w25 hbox hb;have n0_:=Aside0.mk (below_step (Hu HB.out) hb);have n1_:=Aside0.mk (hbox);have n2_:=Aside0.mk ((by rw [hg];exact (below_size (Hu HB.out)) : w.heap.size≤gb897));have n3_:=Aside0.mk ((by rw [hg];exact (below_size (Hu HB.out)) : w.heap.size≤gb897));clear HB;have HB:=n0_;have BK897:=n1_;have GW897:=n2_;have GE897:=n3_;clear n0_ n1_ n2_ n3_;clear hb hbox hg)|((with_reducible refine gate_dst (N:=3) rfl ?_);refine box_event ?hg (N:=3) ?hd (cs:=#[.bool a1_0,.slice A1_1 l1_1.length c1_1,.slice A1_2 l1_2.length c1_2]) (t:=25) ?hr ?_;(case hd=>rfl);(case hg=>rfl);(case hr=>first|(go_simp;done)|(go_simp;(with_reducible rfl))|(go_simp;rfl)|(go_simp;simp only [hu,Int.emod_sub_emod]));intro gb898 hg w26 hbox hb;have n0_:=Aside0.mk (blk_below (g:=gb897) (o:=.cells #[.bool a0_0,.slice A0_1 l0_1.length c0_1,.slice A0_2 l0_2.length c0_2] 25 (0,0)) (Bu BK897.out) hb);have n1_:=Aside0.mk (below_step (by repeat (first|with_reducible exact HB.out|apply ba|apply bn|apply b1|refine below_set ?_ GE897.out)) hb);have n2_:=Aside0.mk (hbox);have n3_:=Aside0.mk ((by rw [hg];exact (below_size (by repeat (first|with_reducible exact HB.out|apply ba|apply bn|apply b1|refine below_set ?_ GE897.out))) : w.heap.size≤gb898));have n4_:=Aside0.mk ((by rw [hg];exact (below_size (by repeat (first|with_reducible exact HB.out|apply ba|apply bn|apply b1|refine below_set ?_ GE897.out))) : w.heap.size≤gb898));have n5_:=Aside0.mk ((by rw [hg];exact Nat.ne_of_lt (blk_lt (g:=gb897) (o:=.cells #[.bool a0_0,.slice A0_1 l0_1.length c0_1,.slice A0_2 l0_2.length c0_2] 25 (0,0)) (Bu BK897.out)) : gb897≠gb898));have n6_:=Aside0.mk ((by rw [hg];exact Nat.ne_of_gt (blk_lt (g:=gb897) (o:=.cells #[.bool a0_0,.slice A0_1 l0_1.length c0_1,.slice A0_2 l0_2.length c0_2] 25 (0,0)) (Bu BK897.out)) : gb898≠gb897));clear BK897;clear HB;have BK897:=n0_;have HB:=n1_;have BK898:=n2_;have GW898:=n3_;have GE898:=n4_;have NB897_898:=n5_;have NB898_897:=n6_;clear n0_ n1_ n2_ n3_ n4_ n5_ n6_;clear hb hbox hg))
   have n0_:=Aside0.mk (blk_drew BK897.out)
   have n1_:=Aside0.mk (blk_drew BK898.out)
   have n2_:=Aside0.mk (b1 HB.out)
   clear BK897
   clear BK898
   clear HB
   have BK897:=n0_
   have BK898:=n1_
   have HB:=n2_
   clear n0_ n1_ n2_
   refine start_ (n:=6) (S:=fun w'=>w'.cell? ⟨gb897,0,none⟩=some (.bool a0_0)∧w'.cell? ⟨gb897,1,none⟩=some (.slice A0_1 l0_1.length c0_1)∧w'.cell? ⟨gb897,2,none⟩=some (.slice A0_2 l0_2.length c0_2)∧w'.cell? ⟨gb898,0,none⟩=some (.bool a1_0)∧w'.cell? ⟨gb898,1,none⟩=some (.slice A1_1 l1_1.length c1_1)∧w'.cell? ⟨gb898,2,none⟩=some (.slice A1_2 l1_2.length c1_2)) (ds:=[]) #[false,false,false,false,false,false] (by kernel_rfl) rfl rfl ⟨(blk_cell BK897.out 0).trans rfl,(blk_cell BK897.out 1).trans rfl,(blk_cell BK897.out 2).trans rfl,(blk_cell BK898.out 0).trans rfl,(blk_cell BK898.out 1).trans rfl,(blk_cell BK898.out 2).trans rfl⟩ (fun hHeld=>?_)
   generalize w26.drew=w27 at BK897 BK898 HB hHeld ⊢
   refine take_ (i:=0) (N:=some 7) (v:=?_) (a':=?_) #[true,false,false,false,false,false] rfl rfl (by kernel_rfl) (fun _ _ _ h=>h) (Or.inl ⟨by rfl,?_⟩) hHeld ?_ ?_
   rotate_left
   ·rintro w' ⟨s0,s1,s2,s3,s4,s5⟩
    go_simp
    with_reducible rfl
   rotate_left
   ·simp only [Act.put,s0,s1,s2,i64_w,i32_w]
    rfl
   refine take_ (i:=2) (N:=some 9) (v:=?_) (a':=?_) #[true,false,true,false,false,false] rfl rfl (by kernel_rfl) (fun _ _ _ h=>h) (Or.inl ⟨by rfl,?_⟩) hHeld ?_ ?_
   rotate_left
   ·rintro w' ⟨s0,s1,s2,s3,s4,s5⟩
    go_simp
    with_reducible rfl
   rotate_left
   ·simp only [Act.put,s0,s1,s2,i64_w,i32_w]
    rfl
   refine one_ (i:=1) (N:=some 8) #[true,true,true,false,false,false] rfl rfl (by kernel_rfl) (by decide) (fun K hK=>?_)
   refine goes_ Tryd.func75 (by kernel_rfl) rfl #[.agg #[.bool a0_0,.slice A0_1 l0_1.length c0_1,.slice A0_2 l0_2.length c0_2]] (by rfl) rfl rfl (by (try simp only [List.map_toArray,List.map_cons,List.map_nil]);first|done|rfl) ?_
   with_reducible refine (rat_Sign.calls k a0_0 _ _ l0_1 _ _ l0_2 t899 _ ?side1 ?side2 ?side3 ?side4 A3.out).mono ?_
   (case side1=>repeat (first|exact (Kd.C_below HR0_1.out HB.out)|(with_reducible refine Kd.C_alloc ?_ _)|(with_reducible refine Kd.C_drewN ?_ _)|(with_reducible refine Kd.C_drew ?_)))
   (case side2=>exact HC0_1.out)
   (case side3=>repeat (first|exact (Kd.C_below HR0_2.out HB.out)|(with_reducible refine Kd.C_alloc ?_ _)|(with_reducible refine Kd.C_drewN ?_ _)|(with_reducible refine Kd.C_drew ?_)))
   (case side4=>exact HC0_2.out)
   rintro e w28 ⟨rfl,hb⟩
   refine ⟨_,rfl,?_⟩
   have n0_:=Aside0.mk (blk_below (g:=gb897) (o:=.cells #[.bool a0_0,.slice A0_1 l0_1.length c0_1,.slice A0_2 l0_2.length c0_2] 25 (0,0)) (Bu BK897.out) hb)
   have n1_:=Aside0.mk (blk_below (g:=gb898) (o:=.cells #[.bool a1_0,.slice A1_1 l1_1.length c1_1,.slice A1_2 l1_2.length c1_2] 25 (0,0)) (Bu BK898.out) hb)
   have n2_:=Aside0.mk (below_step (by repeat (first|with_reducible exact HB.out|apply ba|apply bn|apply b1|refine below_set ?_ GE897.out|refine below_set ?_ GE898.out)) hb)
   clear BK897
   clear BK898
   clear HB
   have BK897:=n0_
   have BK898:=n1_
   have HB:=n2_
   clear n0_ n1_ n2_
   (try clear hb)
   (try clear hb2)
   (try clear hk)
   (try clear hi)
   refine hK.out _ _ ⟨(blk_cell BK897.out 0).trans rfl,(blk_cell BK897.out 1).trans rfl,(blk_cell BK897.out 2).trans rfl,(blk_cell BK898.out 0).trans rfl,(blk_cell BK898.out 1).trans rfl,(blk_cell BK898.out 2).trans rfl⟩ (fun hHeld=>?_)
   clear hK K
   refine norm_ (a':=?_) ?_ ?_
   rotate_left
   ·show Act.put _ (some 8) _=_
    simp only [Act.put,s0,s1,s2,i64_w,i32_w]
    rfl
   refine one_ (i:=3) (N:=some 10) #[true,true,true,true,false,false] rfl rfl (by kernel_rfl) (by decide) (fun K hK=>?_)
   refine goes_ Tryd.func75 (by kernel_rfl) rfl #[.agg #[.bool a1_0,.slice A1_1 l1_1.length c1_1,.slice A1_2 l1_2.length c1_2]] (by rfl) rfl rfl (by (try simp only [List.map_toArray,List.map_cons,List.map_nil]);first|done|rfl) ?_
   with_reducible refine (rat_Sign.calls k a1_0 _ _ l1_1 _ _ l1_2 t900 _ ?side1 ?side2 ?side3 ?side4 A4.out).mono ?_
   (case side1=>repeat (first|exact (Kd.C_below HR1_1.out HB.out)|(with_reducible refine Kd.C_alloc ?_ _)|(with_reducible refine Kd.C_drewN ?_ _)|(with_reducible refine Kd.C_drew ?_)))
   (case side2=>exact HC1_1.out)
   (case side3=>repeat (first|exact (Kd.C_below HR1_2.out HB.out)|(with_reducible refine Kd.C_alloc ?_ _)|(with_reducible refine Kd.C_drewN ?_ _)|(with_reducible refine Kd.C_drew ?_)))
   (case side4=>exact HC1_2.out)
   rintro e w29 ⟨rfl,hb⟩
   refine ⟨_,rfl,?_⟩
   have n0_:=Aside0.mk (blk_below (g:=gb897) (o:=.cells #[.bool a0_0,.slice A0_1 l0_1.length c0_1,.slice A0_2 l0_2.length c0_2] 25 (0,0)) (Bu BK897.out) hb)
   have n1_:=Aside0.mk (blk_below (g:=gb898) (o:=.cells #[.bool a1_0,.slice A1_1 l1_1.length c1_1,.slice A1_2 l1_2.length c1_2] 25 (0,0)) (Bu BK898.out) hb)
   have n2_:=Aside0.mk (below_step (by repeat (first|with_reducible exact HB.out|apply ba|apply bn|apply b1|refine below_set ?_ GE897.out|refine below_set ?_ GE898.out)) hb)
   clear BK897
   clear BK898
   clear HB
   have BK897:=n0_
   have BK898:=n1_
   have HB:=n2_
   clear n0_ n1_ n2_
   (try clear hb)
   (try clear hb2)
   (try clear hk)
   (try clear hi)
   refine hK.out _ _ ⟨(blk_cell BK897.out 0).trans rfl,(blk_cell BK897.out 1).trans rfl,(blk_cell BK897.out 2).trans rfl,(blk_cell BK898.out 0).trans rfl,(blk_cell BK898.out 1).trans rfl,(blk_cell BK898.out 2).trans rfl⟩ (fun hHeld=>?_)
   clear hK K
   refine norm_ (a':=?_) ?_ ?_
   rotate_left
   ·show Act.put _ (some 10) _=_
    simp only [Act.put,s0,s1,s2,i64_w,i32_w]
    rfl
   refine pure_ (i:=4) (N:=some 5) (v:=?_) (a':=?_) #[true,true,true,true,true,false] rfl rfl (by kernel_rfl) (fun _ _ _ h=>h) (Or.inl ⟨by rfl,?_⟩) ?_ ?_
   rotate_left
   ·intro w'
    go_simp
    with_reducible rfl
   rotate_left
   ·simp only [Act.put,s0,s1,s2,i64_w,i32_w]
    rfl
   refine pure_ (i:=5) (N:=some 6) (v:=?_) (a':=?_) #[true,true,true,true,true,true] rfl rfl (by kernel_rfl) (fun _ _ _ h=>h) (Or.inl ⟨by rfl,?_⟩) ?_ ?_
   rotate_left
   ·intro w'
    go_simp
    with_reducible rfl
   rotate_left
   ·simp only [Act.put,s0,s1,s2,i64_w,i32_w]
    rfl
   refine done_ (by kernel_rfl) ?_
   try go_wp2
   go_ret
   exact ⟨by first|rfl|(simp [errW_none,errW_some] <;> rfl)|(simp [*,errW_none,errW_some] <;> rfl),by repeat (first|with_reducible exact HB.out|apply ba|apply bn|apply b1|refine below_set ?_ GE897.out|refine below_set ?_ GE898.out)⟩
end Go.Proofs.YtncdiodnbkhacaaDoor.Pq
end
section
namespace Go.Proofs.YtncdiodnbkhacaaDoor.Pq
open Go.RowKit Go.Proofs.YtncdiodnbkhacaaDoorW.PrintWords Go.Proofs.YtncdiodnbkhacaaDoorW.PrintLast Go.Proofs.YtncdiodnbkhacaaDoorW.PrintMore
attribute [local go_sem] max2_int min2_int max_two min_two max_three min_three max_four min_four
set_option linter.unusedVariables false
set_option linter.unusedSimpArgs false
set_option maxHeartbeats 8000000 in
set_option maxRecDepth 100000 in
theorem rat_Same.calls (k : Nat) (a0_0 : Bool) (A0_1 : Option Addr) (c0_1 : Nat) (l0_1 : List Int) (A0_2 : Option Addr) (c0_2 : Nat) (l0_2 : List Int) (a1_0 : Bool) (A1_1 : Option Addr) (c1_1 : Nat) (l1_1 : List Int) (A1_2 : Option Addr) (c1_2 : Nat) (l1_2 : List Int) (r : Bool) (w : World) (hr0_1 : Kd.C (Kd.int .u32) w A0_1 l0_1.length l0_1) (hc0_1 : l0_1.length≤c0_1) (hr0_2 : Kd.C (Kd.int .u32) w A0_2 l0_2.length l0_2) (hc0_2 : l0_2.length≤c0_2) (hr1_1 : Kd.C (Kd.int .u32) w A1_1 l1_1.length l1_1) (hc1_1 : l1_1.length≤c1_1) (hr1_2 : Kd.C (Kd.int .u32) w A1_2 l1_2.length l1_2) (hc1_2 : l1_2.length≤c1_2) (h : rat_Same.f k a0_0 l0_1 l0_2 a1_0 l1_1 l1_2=some r) :
  Calls Tryd.prog 19 #[.agg #[.bool a0_0,.slice A0_1 l0_1.length c0_1,.slice A0_2 l0_2.length c0_2],.agg #[.bool a1_0,.slice A1_1 l1_1.length c1_1,.slice A1_2 l1_2.length c1_2]] w fun e w'=>e=.returned (.bool r)∧Below w.heap.size w w':=by
 have hu25:=Tryd.underlying25
 have HR0_1:=Aside0.mk hr0_1
 have HC0_1:=Aside0.mk hc0_1
 clear hr0_1 hc0_1
 have HR0_2:=Aside0.mk hr0_2
 have HC0_2:=Aside0.mk hc0_2
 clear hr0_2 hc0_2
 have HR1_1:=Aside0.mk hr1_1
 have HC1_1:=Aside0.mk hc1_1
 clear hr1_1 hc1_1
 have HR1_2:=Aside0.mk hr1_2
 have HC1_2:=Aside0.mk hc1_2
 clear hr1_2 hc1_2
 have HB:=Aside0.mk (Below.refl w.heap.size w)
 have H : ((rat_Cmp.f k a0_0 l0_1 l0_2 a1_0 l1_1 l1_2).bind fun t910=>(some (t910 == 0)))=some r:=h
 clear h
 replace H:=Option.bind_eq_some_iff.mp H
 obtain ⟨t910,A30,H⟩:=H
 try dsimp only at H
 have A3:=Aside0.mk A30
 clear A30
 obtain rfl:=Option.some.inj H
 go_enter Tryd.func19,Tryd.ntmps19
 go_wp2_with (first|((with_reducible refine gate_dst (N:=2) rfl ?_);refine box_event ?hg (N:=2) ?hd (cs:=#[.bool a0_0,.slice A0_1 l0_1.length c0_1,.slice A0_2 l0_2.length c0_2]) (t:=25) ?hr ?_;(case hd=>rfl);(case hg=>rfl);(case hr=>first|(go_simp;done)|(go_simp;(with_reducible rfl))|(go_simp;rfl)|(go_simp;simp only [hu,Int.emod_sub_emod]));intro gb908 hg w4 hbox hb;have n0_:=Aside0.mk (below_step (by repeat (first|with_reducible exact HB.out|apply ba|apply bn|apply b1)) hb);have n1_:=Aside0.mk (hbox);have n2_:=Aside0.mk ((by rw [hg];exact (below_size (by repeat (first|with_reducible exact HB.out|apply ba|apply bn|apply b1))) : w.heap.size≤gb908));have n3_:=Aside0.mk ((by rw [hg];exact (below_size (by repeat (first|with_reducible exact HB.out|apply ba|apply bn|apply b1))) : w.heap.size≤gb908));clear HB;have HB:=n0_;have BK908:=n1_;have GW908:=n2_;have GE908:=n3_;clear n0_ n1_ n2_ n3_;clear hb hbox hg)|((with_reducible refine gate_dst (N:=3) rfl ?_);refine box_event ?hg (N:=3) ?hd (cs:=#[.bool a1_0,.slice A1_1 l1_1.length c1_1,.slice A1_2 l1_2.length c1_2]) (t:=25) ?hr ?_;(case hd=>rfl);(case hg=>rfl);(case hr=>first|(go_simp;done)|(go_simp;(with_reducible rfl))|(go_simp;rfl)|(go_simp;simp only [hu,Int.emod_sub_emod]));intro gb909 hg w5 hbox hb;have n0_:=Aside0.mk (blk_below (g:=gb908) (o:=.cells #[.bool a0_0,.slice A0_1 l0_1.length c0_1,.slice A0_2 l0_2.length c0_2] 25 (0,0)) (by (with_reducible repeat (first|refine blk_drewN ?_ _|refine blk_drew ?_|refine blk_alloc ?_ _));exact BK908.out) hb);have n1_:=Aside0.mk (below_step (by repeat (first|with_reducible exact HB.out|apply ba|apply bn|apply b1|refine below_set ?_ GE908.out)) hb);have n2_:=Aside0.mk (hbox);have n3_:=Aside0.mk ((by rw [hg];exact (below_size (by repeat (first|with_reducible exact HB.out|apply ba|apply bn|apply b1|refine below_set ?_ GE908.out))) : w.heap.size≤gb909));have n4_:=Aside0.mk ((by rw [hg];exact (below_size (by repeat (first|with_reducible exact HB.out|apply ba|apply bn|apply b1|refine below_set ?_ GE908.out))) : w.heap.size≤gb909));have n5_:=Aside0.mk ((by rw [hg];exact Nat.ne_of_lt (blk_lt (g:=gb908) (o:=.cells #[.bool a0_0,.slice A0_1 l0_1.length c0_1,.slice A0_2 l0_2.length c0_2] 25 (0,0)) (by (with_reducible repeat (first|refine blk_drewN ?_ _|refine blk_drew ?_|refine blk_alloc ?_ _));exact BK908.out)) : gb908≠gb909));have n6_:=Aside0.mk ((by rw [hg];exact Nat.ne_of_gt (blk_lt (g:=gb908) (o:=.cells #[.bool a0_0,.slice A0_1 l0_1.length c0_1,.slice A0_2 l0_2.length c0_2] 25 (0,0)) (by (with_reducible repeat (first|refine blk_drewN ?_ _|refine blk_drew ?_|refine blk_alloc ?_ _));exact BK908.out)) : gb909≠gb908));clear BK908;clear HB;have BK908:=n0_;have HB:=n1_;have BK909:=n2_;have GW909:=n3_;have GE909:=n4_;have NB908_909:=n5_;have NB909_908:=n6_;clear n0_ n1_ n2_ n3_ n4_ n5_ n6_;clear hb hbox hg;have hnb6:=NB908_909.out;have hnc6:=NB909_908.out;have hcz7_0 : w5.cell? ⟨gb908,0,none⟩=some (.bool a0_0):=(blk_cell BK908.out 0).trans rfl;have hcz7_1 : w5.cell? ⟨gb908,1,none⟩=some (.slice A0_1 l0_1.length c0_1):=(blk_cell BK908.out 1).trans rfl;have hcz7_2 : w5.cell? ⟨gb908,2,none⟩=some (.slice A0_2 l0_2.length c0_2):=(blk_cell BK908.out 2).trans rfl;have hfz7_0:=blk_frozen BK908.out 0;have hfz7_1:=blk_frozen BK908.out 1;have hfz7_2:=blk_frozen BK908.out 2;have hcz8_0 : w5.cell? ⟨gb909,0,none⟩=some (.bool a1_0):=(blk_cell BK909.out 0).trans rfl;have hcz8_1 : w5.cell? ⟨gb909,1,none⟩=some (.slice A1_1 l1_1.length c1_1):=(blk_cell BK909.out 1).trans rfl;have hcz8_2 : w5.cell? ⟨gb909,2,none⟩=some (.slice A1_2 l1_2.length c1_2):=(blk_cell BK909.out 2).trans rfl;have hfz8_0:=blk_frozen BK909.out 0;have hfz8_1:=blk_frozen BK909.out 1;have hfz8_2:=blk_frozen BK909.out 2)|((with_reducible refine gate_callee (f:=46) rfl ?_);refine goesL_ (some 7) rfl rfl Tryd.func46 (by kernel_rfl) rfl #[.agg #[.bool a0_0,.slice A0_1 l0_1.length c0_1,.slice A0_2 l0_2.length c0_2],.agg #[.bool a1_0,.slice A1_1 l1_1.length c1_1,.slice A1_2 l1_2.length c1_2]] rfl (by (try simp only [List.map_toArray,List.map_cons,List.map_nil]);first|done|rfl) ?_;(with_reducible refine (rat_Cmp.calls k a0_0 _ _ l0_1 _ _ l0_2 a1_0 _ _ l1_1 _ _ l1_2 t910 _ ?side1 ?side2 ?side3 ?side4 ?side5 ?side6 ?side7 ?side8 A3.out).mono ?_);(case side1=>repeat (first|exact (Kd.C_below HR0_1.out HB.out)|(with_reducible refine Kd.C_alloc ?_ _)|(with_reducible refine Kd.C_drewN ?_ _)|(with_reducible refine Kd.C_drew ?_)));(case side2=>exact HC0_1.out);(case side3=>repeat (first|exact (Kd.C_below HR0_2.out HB.out)|(with_reducible refine Kd.C_alloc ?_ _)|(with_reducible refine Kd.C_drewN ?_ _)|(with_reducible refine Kd.C_drew ?_)));(case side4=>exact HC0_2.out);(case side5=>repeat (first|exact (Kd.C_below HR1_1.out HB.out)|(with_reducible refine Kd.C_alloc ?_ _)|(with_reducible refine Kd.C_drewN ?_ _)|(with_reducible refine Kd.C_drew ?_)));(case side6=>exact HC1_1.out);(case side7=>repeat (first|exact (Kd.C_below HR1_2.out HB.out)|(with_reducible refine Kd.C_alloc ?_ _)|(with_reducible refine Kd.C_drewN ?_ _)|(with_reducible refine Kd.C_drew ?_)));(case side8=>exact HC1_2.out);rintro e w9 ⟨rfl,hb⟩;refine ⟨_,rfl,?_⟩;have n0_:=Aside0.mk (blk_below (g:=gb908) (o:=.cells #[.bool a0_0,.slice A0_1 l0_1.length c0_1,.slice A0_2 l0_2.length c0_2] 25 (0,0)) (by (with_reducible repeat (first|refine blk_drewN ?_ _|refine blk_drew ?_|refine blk_alloc ?_ _));exact BK908.out) hb);have n1_:=Aside0.mk (blk_below (g:=gb909) (o:=.cells #[.bool a1_0,.slice A1_1 l1_1.length c1_1,.slice A1_2 l1_2.length c1_2] 25 (0,0)) (by (with_reducible repeat (first|refine blk_drewN ?_ _|refine blk_drew ?_|refine blk_alloc ?_ _));exact BK909.out) hb);have n2_:=Aside0.mk (below_step (by repeat (first|with_reducible exact HB.out|apply ba|apply bn|apply b1|refine below_set ?_ GE908.out|refine below_set ?_ GE909.out)) hb);clear BK908;clear BK909;clear HB;have BK908:=n0_;have BK909:=n1_;have HB:=n2_;clear n0_ n1_ n2_))
 go_ret
 exact ⟨by first|rfl|(simp [errW_none,errW_some] <;> rfl)|(simp [*,errW_none,errW_some] <;> rfl),by repeat (first|with_reducible exact HB.out|apply ba|apply bn|apply b1|refine below_set ?_ GE908.out|refine below_set ?_ GE909.out)⟩
end Go.Proofs.YtncdiodnbkhacaaDoor.Pq
end
section
namespace Go.Proofs.YtncdiodnbkhacaaDoor.Pq
open Go.RowKit Go.Proofs.YtncdiodnbkhacaaDoorW.PrintWords Go.Proofs.YtncdiodnbkhacaaDoorW.PrintLast Go.Proofs.YtncdiodnbkhacaaDoorW.PrintMore
attribute [local go_sem] max2_int min2_int max_two min_two max_three min_three max_four min_four
set_option linter.unusedVariables false
set_option linter.unusedSimpArgs false
def penumbralaw04_DecimalBack.T5 : Bool × List (List Nat × List Nat):=(true,[([],[]),([0,0],[0]),([1],[1]),([2,1],[1,2]),([1,3],[1,3]),([4,1],[4]),([5],[5]),([5],[5]),([7,5,5],[5,7]),([6,8,8,5],[5,6,8]),([5,9],[5,9]),([10,9],[10]),([11],[11]),([11],[11]),([12,13,11],[11,12,13]),([11],[11]),([11],[11]),([15,16,11,11],[11,15,16]),([14,17,11],[11,14,17]),([11,18],[11,18]),([19,17,0,1,2,3,4,5,6,7,8,9,10,11,12,13,14,15,16,17,18,19],[19])])
def penumbralaw04_DecimalBack.B5 : List Nat:=[0,1,3,7,15,31,63,63,191,511,1023,2047,4095,4095,16383,4095,4095,102399,262143,524287,1048575]
theorem penumbralaw04_DecimalBack.tab5 : rtab .any (opsOf Tryd.f6 5)=penumbralaw04_DecimalBack.T5:=by kernel_rfl
theorem penumbralaw04_DecimalBack.bits5 : waitsOk penumbralaw04_DecimalBack.T5.2 penumbralaw04_DecimalBack.B5=true:=by kernel_rfl
set_option maxHeartbeats 8000000 in
set_option maxRecDepth 100000 in
theorem penumbralaw04_DecimalBack.calls (k : Nat) (a0_0 : Bool) (A0_1 : Option Addr) (c0_1 : Nat) (l0_1 : List Int) (A0_2 : Option Addr) (c0_2 : Nat) (l0_2 : List Int) (a1_0 : Bool) (A1_1 : Option Addr) (c1_1 : Nat) (l1_1 : List Int) (A1_2 : Option Addr) (c1_2 : Nat) (l1_2 : List Int) (r : Bool) (w : World) (hr0_1 : Kd.C (Kd.int .u32) w A0_1 l0_1.length l0_1) (hc0_1 : l0_1.length≤c0_1) (hr0_2 : Kd.C (Kd.int .u32) w A0_2 l0_2.length l0_2) (hc0_2 : l0_2.length≤c0_2) (hr1_1 : Kd.C (Kd.int .u32) w A1_1 l1_1.length l1_1) (hc1_1 : l1_1.length≤c1_1) (hr1_2 : Kd.C (Kd.int .u32) w A1_2 l1_2.length l1_2) (hc1_2 : l1_2.length≤c1_2) (h : penumbralaw04_DecimalBack.f k a0_0 l0_1 l0_2 a1_0 l1_1 l1_2=some r) :
  Calls Tryd.prog 6 #[.agg #[.bool a0_0,.slice A0_1 l0_1.length c0_1,.slice A0_2 l0_2.length c0_2],.agg #[.bool a1_0,.slice A1_1 l1_1.length c1_1,.slice A1_2 l1_2.length c1_2]] w fun e w'=>e=.returned (.bool r)∧Below w.heap.size w w':=by
 have hu25:=Tryd.underlying25
 have HR0_1:=Aside0.mk hr0_1
 have HC0_1:=Aside0.mk hc0_1
 clear hr0_1 hc0_1
 have HR0_2:=Aside0.mk hr0_2
 have HC0_2:=Aside0.mk hc0_2
 clear hr0_2 hc0_2
 have HR1_1:=Aside0.mk hr1_1
 have HC1_1:=Aside0.mk hc1_1
 clear hr1_1 hc1_1
 have HR1_2:=Aside0.mk hr1_2
 have HC1_2:=Aside0.mk hc1_2
 clear hr1_2 hc1_2
 have HB:=Aside0.mk (Below.refl w.heap.size w)
 have H : (if (l0_1.length : Int) > 100 then (penumbralaw04_DecimalBack.j0 k true a0_0 l0_1 l0_2 a1_0 l1_1 l1_2) else (if (l0_2.length : Int) > 100 then (penumbralaw04_DecimalBack.j0 k true a0_0 l0_1 l0_2 a1_0 l1_1 l1_2) else (if (l1_1.length : Int) > 100 then (penumbralaw04_DecimalBack.j0 k true a0_0 l0_1 l0_2 a1_0 l1_1 l1_2) else (penumbralaw04_DecimalBack.j0 k (decide ((l1_2.length : Int) > 100)) a0_0 l0_1 l0_2 a1_0 l1_1 l1_2))))=some r:=h
 clear h
 have HC3:=Aside0.mk H
 clear H
 go_enter Tryd.func6,Tryd.ntmps6
 go_upto_region 1 with (first|((with_reducible refine gate_dst (N:=2) rfl ?_);(try (refine gate_guard (by rfl) ?_;dsimp only));refine box_event ?hg (N:=2) ?hd (cs:=#[.bool a0_0,.slice A0_1 l0_1.length c0_1,.slice A0_2 l0_2.length c0_2]) (t:=25) ?hr ?_;(case hd=>rfl);(case hg=>rfl);(case hr=>first|(go_simp;done)|(go_simp;(with_reducible rfl))|(go_simp;rfl)|(go_simp;simp only [hu,Int.emod_sub_emod]));intro gb911 hg w4 hbox hb;have n0_:=Aside0.mk (below_step (Hu HB.out) hb);have n1_:=Aside0.mk (hbox);have n2_:=Aside0.mk ((by rw [hg];exact (below_size (Hu HB.out)) : w.heap.size≤gb911));have n3_:=Aside0.mk ((by rw [hg];exact (below_size (Hu HB.out)) : w.heap.size≤gb911));clear HB;have HB:=n0_;have BK911:=n1_;have GW911:=n2_;have GE911:=n3_;clear n0_ n1_ n2_ n3_;clear hb hbox hg)|((with_reducible refine gate_dst (N:=3) rfl ?_);(try (refine gate_guard (by rfl) ?_;dsimp only));refine box_event ?hg (N:=3) ?hd (cs:=#[.bool a1_0,.slice A1_1 l1_1.length c1_1,.slice A1_2 l1_2.length c1_2]) (t:=25) ?hr ?_;(case hd=>rfl);(case hg=>rfl);(case hr=>first|(go_simp;done)|(go_simp;(with_reducible rfl))|(go_simp;rfl)|(go_simp;simp only [hu,Int.emod_sub_emod]));intro gb912 hg w5 hbox hb;have n0_:=Aside0.mk (blk_below (g:=gb911) (o:=.cells #[.bool a0_0,.slice A0_1 l0_1.length c0_1,.slice A0_2 l0_2.length c0_2] 25 (0,0)) (Bu BK911.out) hb);have n1_:=Aside0.mk (below_step (by repeat (first|with_reducible exact HB.out|apply ba|apply bn|apply b1|refine below_set ?_ GE911.out)) hb);have n2_:=Aside0.mk (hbox);have n3_:=Aside0.mk ((by rw [hg];exact (below_size (by repeat (first|with_reducible exact HB.out|apply ba|apply bn|apply b1|refine below_set ?_ GE911.out))) : w.heap.size≤gb912));have n4_:=Aside0.mk ((by rw [hg];exact (below_size (by repeat (first|with_reducible exact HB.out|apply ba|apply bn|apply b1|refine below_set ?_ GE911.out))) : w.heap.size≤gb912));have n5_:=Aside0.mk ((by rw [hg];exact Nat.ne_of_lt (blk_lt (g:=gb911) (o:=.cells #[.bool a0_0,.slice A0_1 l0_1.length c0_1,.slice A0_2 l0_2.length c0_2] 25 (0,0)) (Bu BK911.out)) : gb911≠gb912));have n6_:=Aside0.mk ((by rw [hg];exact Nat.ne_of_gt (blk_lt (g:=gb911) (o:=.cells #[.bool a0_0,.slice A0_1 l0_1.length c0_1,.slice A0_2 l0_2.length c0_2] 25 (0,0)) (Bu BK911.out)) : gb912≠gb911));clear BK911;clear HB;have BK911:=n0_;have HB:=n1_;have BK912:=n2_;have GW912:=n3_;have GE912:=n4_;have NB911_912:=n5_;have NB912_911:=n6_;clear n0_ n1_ n2_ n3_ n4_ n5_ n6_;clear hb hbox hg))
 (try simp only [Act.put,s0,s1,s2])
 go_cut [30] (fun v30 wc=>∃ (kq : Nat) (x30_2 : Bool),v30=.bool x30_2∧Aside0 (penumbralaw04_DecimalBack.j0 kq x30_2 a0_0 l0_1 l0_2 a1_0 l1_1 l1_2=some r)∧Aside0 (kq≤k)∧Aside0 (wc.heap[gb911]? = some (.cells #[.bool a0_0,(.slice A0_1 l0_1.length c0_1),(.slice A0_2 l0_2.length c0_2)] 25 (0,0)))∧Aside0 (wc.heap[gb912]? = some (.cells #[.bool a1_0,(.slice A1_1 l1_1.length c1_1),(.slice A1_2 l1_2.length c1_2)] 25 (0,0)))∧Aside0 (Below w.heap.size w wc))
 case first =>
  have H:=HC3.out
  clear HC3
  by_cases c6 : (l0_1.length : Int) > 100
  ·rw [if_pos c6] at H
   have c6b0 : decide (100 < (l0_1.length : Int))=true:=decide_eq_true c6
   have c6b1 : decide (100 < l0_1.length)=true:=decide_eq_true (by omega)
   clear c6
   (first|rw [c6b0]|(simp only [i64_w,i32_w];rw [c6b0])|skip)
   have H':=Aside0.mk H
   clear H
   have hnb7:=NB911_912.out
   have hnc7:=NB912_911.out
   have hcz8_0 : w5.cell? ⟨gb911,0,none⟩=some (.bool a0_0):=(blk_cell BK911.out 0).trans rfl
   have hcz8_1 : w5.cell? ⟨gb911,1,none⟩=some (.slice A0_1 l0_1.length c0_1):=(blk_cell BK911.out 1).trans rfl
   have hcz8_2 : w5.cell? ⟨gb911,2,none⟩=some (.slice A0_2 l0_2.length c0_2):=(blk_cell BK911.out 2).trans rfl
   have hfz8_0:=blk_frozen BK911.out 0
   have hfz8_1:=blk_frozen BK911.out 1
   have hfz8_2:=blk_frozen BK911.out 2
   go_wp2
   go_meet
   case rel=>exact ⟨_,(true),(by first|rfl|(simp;done)|(simp [*];done)),H',⟨by first|omega|exact Nat.le_refl _⟩,⟨Bu BK911.out⟩,⟨Bu BK912.out⟩,⟨by repeat (first|with_reducible exact HB.out|apply ba|apply bn|apply b1|refine below_set ?_ GE911.out|refine below_set ?_ GE912.out)⟩⟩
  ·rw [if_neg c6] at H
   have c6b0 : decide (100 < (l0_1.length : Int))=false:=decide_eq_false c6
   have c6b1 : decide (100 < l0_1.length)=false:=decide_eq_false (by omega)
   clear c6
   (first|rw [c6b0]|(simp only [i64_w,i32_w];rw [c6b0])|skip)
   by_cases c9 : (l0_2.length : Int) > 100
   ·rw [if_pos c9] at H
    have c9b0 : decide (100 < (l0_2.length : Int))=true:=decide_eq_true c9
    have c9b1 : decide (100 < l0_2.length)=true:=decide_eq_true (by omega)
    clear c9
    have H':=Aside0.mk H
    clear H
    have hnb10:=NB911_912.out
    have hnc10:=NB912_911.out
    have hcz11_0 : w5.cell? ⟨gb911,0,none⟩=some (.bool a0_0):=(blk_cell BK911.out 0).trans rfl
    have hcz11_1 : w5.cell? ⟨gb911,1,none⟩=some (.slice A0_1 l0_1.length c0_1):=(blk_cell BK911.out 1).trans rfl
    have hcz11_2 : w5.cell? ⟨gb911,2,none⟩=some (.slice A0_2 l0_2.length c0_2):=(blk_cell BK911.out 2).trans rfl
    have hfz11_0:=blk_frozen BK911.out 0
    have hfz11_1:=blk_frozen BK911.out 1
    have hfz11_2:=blk_frozen BK911.out 2
    go_wp2
    go_meet
    case rel=>exact ⟨_,(true),(by first|rfl|(simp;done)|(simp [*];done)),H',⟨by first|omega|exact Nat.le_refl _⟩,⟨Bu BK911.out⟩,⟨Bu BK912.out⟩,⟨by repeat (first|with_reducible exact HB.out|apply ba|apply bn|apply b1|refine below_set ?_ GE911.out|refine below_set ?_ GE912.out)⟩⟩
   ·rw [if_neg c9] at H
    have c9b0 : decide (100 < (l0_2.length : Int))=false:=decide_eq_false c9
    have c9b1 : decide (100 < l0_2.length)=false:=decide_eq_false (by omega)
    clear c9
    by_cases c12 : (l1_1.length : Int) > 100
    ·rw [if_pos c12] at H
     have c12b0 : decide (100 < (l1_1.length : Int))=true:=decide_eq_true c12
     have c12b1 : decide (100 < l1_1.length)=true:=decide_eq_true (by omega)
     clear c12
     have H':=Aside0.mk H
     clear H
     have hnb13:=NB911_912.out
     have hnc13:=NB912_911.out
     have hcz14_0 : w5.cell? ⟨gb911,0,none⟩=some (.bool a0_0):=(blk_cell BK911.out 0).trans rfl
     have hcz14_1 : w5.cell? ⟨gb911,1,none⟩=some (.slice A0_1 l0_1.length c0_1):=(blk_cell BK911.out 1).trans rfl
     have hcz14_2 : w5.cell? ⟨gb911,2,none⟩=some (.slice A0_2 l0_2.length c0_2):=(blk_cell BK911.out 2).trans rfl
     have hfz14_0:=blk_frozen BK911.out 0
     have hfz14_1:=blk_frozen BK911.out 1
     have hfz14_2:=blk_frozen BK911.out 2
     have hcz15_0 : w5.cell? ⟨gb912,0,none⟩=some (.bool a1_0):=(blk_cell BK912.out 0).trans rfl
     have hcz15_1 : w5.cell? ⟨gb912,1,none⟩=some (.slice A1_1 l1_1.length c1_1):=(blk_cell BK912.out 1).trans rfl
     have hcz15_2 : w5.cell? ⟨gb912,2,none⟩=some (.slice A1_2 l1_2.length c1_2):=(blk_cell BK912.out 2).trans rfl
     have hfz15_0:=blk_frozen BK912.out 0
     have hfz15_1:=blk_frozen BK912.out 1
     have hfz15_2:=blk_frozen BK912.out 2
     go_wp2
     go_meet
     case rel=>exact ⟨_,(true),(by first|rfl|(simp;done)|(simp [*];done)),H',⟨by first|omega|exact Nat.le_refl _⟩,⟨Bu BK911.out⟩,⟨Bu BK912.out⟩,⟨by repeat (first|with_reducible exact HB.out|apply ba|apply bn|apply b1|refine below_set ?_ GE911.out|refine below_set ?_ GE912.out)⟩⟩
    ·rw [if_neg c12] at H
     have c12b0 : decide (100 < (l1_1.length : Int))=false:=decide_eq_false c12
     have c12b1 : decide (100 < l1_1.length)=false:=decide_eq_false (by omega)
     clear c12
     have H':=Aside0.mk H
     clear H
     have hnb16:=NB911_912.out
     have hnc16:=NB912_911.out
     have hcz17_0 : w5.cell? ⟨gb911,0,none⟩=some (.bool a0_0):=(blk_cell BK911.out 0).trans rfl
     have hcz17_1 : w5.cell? ⟨gb911,1,none⟩=some (.slice A0_1 l0_1.length c0_1):=(blk_cell BK911.out 1).trans rfl
     have hcz17_2 : w5.cell? ⟨gb911,2,none⟩=some (.slice A0_2 l0_2.length c0_2):=(blk_cell BK911.out 2).trans rfl
     have hfz17_0:=blk_frozen BK911.out 0
     have hfz17_1:=blk_frozen BK911.out 1
     have hfz17_2:=blk_frozen BK911.out 2
     have hcz18_0 : w5.cell? ⟨gb912,0,none⟩=some (.bool a1_0):=(blk_cell BK912.out 0).trans rfl
     have hcz18_1 : w5.cell? ⟨gb912,1,none⟩=some (.slice A1_1 l1_1.length c1_1):=(blk_cell BK912.out 1).trans rfl
     have hcz18_2 : w5.cell? ⟨gb912,2,none⟩=some (.slice A1_2 l1_2.length c1_2):=(blk_cell BK912.out 2).trans rfl
     have hfz18_0:=blk_frozen BK912.out 0
     have hfz18_1:=blk_frozen BK912.out 1
     have hfz18_2:=blk_frozen BK912.out 2
     go_wp2
     go_meet
     case rel=>exact ⟨_,(decide ((l1_2.length : Int) > 100)),(by first|rfl|(simp;done)|(simp [*];done)),H',⟨by first|omega|exact Nat.le_refl _⟩,⟨Bu BK911.out⟩,⟨Bu BK912.out⟩,⟨by repeat (first|with_reducible exact HB.out|apply ba|apply bn|apply b1|refine below_set ?_ GE911.out|refine below_set ?_ GE912.out)⟩⟩
 case rest =>
  clear HC3
  obtain ⟨kq,x30_2,rfl,HA,HJ2,BK911,BK912,HB⟩:=hcut
  cases kq with
 |zero=>exact absurd HA.out (by simp [penumbralaw04_DecimalBack.j0])
 |succ kj2 =>
   have H:=HA.out
   clear HA
   simp only [penumbralaw04_DecimalBack.j0] at H
   by_cases c19 : x30_2=true
   ·subst c19
    rw [if_pos rfl] at H
    replace H:=Option.bind_eq_some_iff.mp H
    obtain ⟨t913,A200,H⟩:=H
    try dsimp only at H
    have A20:=Aside0.mk A200
    clear A200
    obtain rfl:=Option.some.inj H
    go_wp2_with (first|((have gd_:=A20);(with_reducible refine gate_callee (f:=8) rfl ?_);refine goesL_ (some 31) rfl rfl Tryd.func8 (by kernel_rfl) rfl #[] rfl (by (try simp only [List.map_toArray,List.map_cons,List.map_nil]);first|done|rfl) ?_;(with_reducible refine (penumbralaw04_fixed.calls kj2  t913 _ A20.out).mono ?_);rintro e w21 ⟨rfl,hb⟩;refine ⟨_,rfl,?_⟩;have n0_:=Aside0.mk (blk_below (g:=gb911) (o:=.cells #[.bool a0_0,.slice A0_1 l0_1.length c0_1,.slice A0_2 l0_2.length c0_2] 25 (0,0)) (Bu BK911.out) hb);have n1_:=Aside0.mk (blk_below (g:=gb912) (o:=.cells #[.bool a1_0,.slice A1_1 l1_1.length c1_1,.slice A1_2 l1_2.length c1_2] 25 (0,0)) (Bu BK912.out) hb);have n2_:=Aside0.mk (below_step (by repeat (first|with_reducible exact HB.out|apply ba|apply bn|apply b1|refine below_set ?_ GE911.out|refine below_set ?_ GE912.out)) hb);clear BK911;clear BK912;clear HB;have BK911:=n0_;have BK912:=n1_;have HB:=n2_;clear n0_ n1_ n2_;(clear gd_ A20)) )
    go_ret
    exact ⟨by first|rfl|(simp [errW_none,errW_some] <;> rfl)|(simp [*,errW_none,errW_some] <;> rfl),by repeat (first|with_reducible exact HB.out|apply ba|apply bn|apply b1|refine below_set ?_ GE911.out|refine below_set ?_ GE912.out)⟩
   ·replace c19:=Bool.eq_false_iff.mpr c19
    subst c19
    rw [if_neg (show ¬ (false=true) by decide)] at H
    replace H:=Option.bind_eq_some_iff.mp H
    obtain ⟨t914,A220,H⟩:=H
    try dsimp only at H
    have A22:=Aside0.mk A220
    clear A220
    replace H:=Option.bind_eq_some_iff.mp H
    obtain ⟨t915,A230,H⟩:=H
    try dsimp only at H
    have A23:=Aside0.mk A230
    clear A230
    replace H:=Option.bind_eq_some_iff.mp H
    obtain ⟨⟨t916,t917,t920,t923⟩,A240,H⟩:=H
    try dsimp only at H
    have A24:=Aside0.mk A240
    clear A240
    replace H:=Option.bind_eq_some_iff.mp H
    obtain ⟨t925,A250,H⟩:=H
    try dsimp only at H
    have A25:=Aside0.mk A250
    clear A250
    by_cases c26 : t925=true
    ·subst c26
     rw [if_pos rfl] at H
     by_cases c27 : t923=0
     ·rw [if_pos c27] at H
      have c27b0 : (t923 == 0)=true:=beq_iff_eq.mpr c27
      have c27b1 : (t923 != 0)=false:=bne_eq_false_iff_eq.mpr c27
      clear c27
      replace H:=Option.bind_eq_some_iff.mp H
      obtain ⟨⟨t926,t927,t930⟩,A280,H⟩:=H
      try dsimp only at H
      have A28:=Aside0.mk A280
      clear A280
      replace H:=Option.bind_eq_some_iff.mp H
      obtain ⟨t933,A290,H⟩:=H
      try dsimp only at H
      have A29:=Aside0.mk A290
      clear A290
      by_cases c30 : t933=true
      ·subst c30
       rw [if_pos rfl] at H
       replace H:=Option.bind_eq_some_iff.mp H
       obtain ⟨t934,A310,H⟩:=H
       try dsimp only at H
       have A31:=Aside0.mk A310
       clear A310
       obtain rfl:=Option.some.inj H
       try go_wp2
       have n0_:=Aside0.mk (blk_drew BK911.out)
       have n1_:=Aside0.mk (blk_drew BK912.out)
       have n2_:=Aside0.mk (b1 HB.out)
       clear BK911
       clear BK912
       clear HB
       have BK911:=n0_
       have BK912:=n1_
       have HB:=n2_
       clear n0_ n1_ n2_
       refine start_ (n:=6) (S:=fun w'=>w'.cell? ⟨gb911,0,none⟩=some (.bool a0_0)∧w'.cell? ⟨gb911,1,none⟩=some (.slice A0_1 l0_1.length c0_1)∧w'.cell? ⟨gb911,2,none⟩=some (.slice A0_2 l0_2.length c0_2)∧w'.cell? ⟨gb912,0,none⟩=some (.bool a1_0)∧w'.cell? ⟨gb912,1,none⟩=some (.slice A1_1 l1_1.length c1_1)∧w'.cell? ⟨gb912,2,none⟩=some (.slice A1_2 l1_2.length c1_2)) (ds:=[]) #[false,false,false,false,false,false] (by kernel_rfl) rfl rfl ⟨(blk_cell BK911.out 0).trans rfl,(blk_cell BK911.out 1).trans rfl,(blk_cell BK911.out 2).trans rfl,(blk_cell BK912.out 0).trans rfl,(blk_cell BK912.out 1).trans rfl,(blk_cell BK912.out 2).trans rfl⟩ (fun hHeld=>?_)
       generalize wc.drew=w32 at BK911 BK912 HB hHeld ⊢
       refine take_ (i:=0) (N:=some 32) (v:=?_) (a':=?_) #[true,false,false,false,false,false] rfl rfl (by kernel_rfl) (fun _ _ _ h=>h) (Or.inl ⟨by rfl,?_⟩) hHeld ?_ ?_
       rotate_left
       ·rintro w' ⟨s0,s1,s2,s3,s4,s5⟩
        go_simp
        with_reducible rfl
       rotate_left
       ·simp only [Act.put,s0,s1,s2,i64_w,i32_w]
        rfl
       refine take_ (i:=2) (N:=some 34) (v:=?_) (a':=?_) #[true,false,true,false,false,false] rfl rfl (by kernel_rfl) (fun _ _ _ h=>h) (Or.inl ⟨by rfl,?_⟩) hHeld ?_ ?_
       rotate_left
       ·rintro w' ⟨s0,s1,s2,s3,s4,s5⟩
        go_simp
        with_reducible rfl
       rotate_left
       ·simp only [Act.put,s0,s1,s2,i64_w,i32_w]
        rfl
       refine one_ (i:=1) (N:=some 33) #[true,true,true,false,false,false] rfl rfl (by kernel_rfl) (by decide) (fun K hK=>?_)
       refine goes_ Tryd.func12 (by kernel_rfl) rfl #[.agg #[.bool a0_0,.slice A0_1 l0_1.length c0_1,.slice A0_2 l0_2.length c0_2]] (by rfl) rfl rfl (by (try simp only [List.map_toArray,List.map_cons,List.map_nil]);first|done|rfl) ?_
       with_reducible refine (decimal_Print.calls kj2 a0_0 _ _ l0_1 _ _ l0_2 t914 _ ?side1 ?side2 ?side3 ?side4 A22.out).mono ?_
       (case side1=>repeat (first|exact (Kd.C_below HR0_1.out HB.out)|(with_reducible refine Kd.C_alloc ?_ _)|(with_reducible refine Kd.C_drewN ?_ _)|(with_reducible refine Kd.C_drew ?_)))
       (case side2=>exact HC0_1.out)
       (case side3=>repeat (first|exact (Kd.C_below HR0_2.out HB.out)|(with_reducible refine Kd.C_alloc ?_ _)|(with_reducible refine Kd.C_drewN ?_ _)|(with_reducible refine Kd.C_drew ?_)))
       (case side4=>exact HC0_2.out)
       rintro e w33 ⟨rfl,hb⟩
       refine ⟨_,rfl,?_⟩
       have n0_:=Aside0.mk (blk_below (g:=gb911) (o:=.cells #[.bool a0_0,.slice A0_1 l0_1.length c0_1,.slice A0_2 l0_2.length c0_2] 25 (0,0)) (Bu BK911.out) hb)
       have n1_:=Aside0.mk (blk_below (g:=gb912) (o:=.cells #[.bool a1_0,.slice A1_1 l1_1.length c1_1,.slice A1_2 l1_2.length c1_2] 25 (0,0)) (Bu BK912.out) hb)
       have n2_:=Aside0.mk (below_step (by repeat (first|with_reducible exact HB.out|apply ba|apply bn|apply b1|refine below_set ?_ GE911.out|refine below_set ?_ GE912.out)) hb)
       clear BK911
       clear BK912
       clear HB
       have BK911:=n0_
       have BK912:=n1_
       have HB:=n2_
       clear n0_ n1_ n2_
       (try clear hb)
       (try clear hb2)
       (try clear hk)
       (try clear hi)
       refine hK.out _ _ ⟨(blk_cell BK911.out 0).trans rfl,(blk_cell BK911.out 1).trans rfl,(blk_cell BK911.out 2).trans rfl,(blk_cell BK912.out 0).trans rfl,(blk_cell BK912.out 1).trans rfl,(blk_cell BK912.out 2).trans rfl⟩ (fun hHeld=>?_)
       clear hK K
       refine norm_ (a':=?_) ?_ ?_
       rotate_left
       ·show Act.put _ (some 33) _=_
        simp only [Act.put,s0,s1,s2,i64_w,i32_w]
        rfl
       refine one_ (i:=3) (N:=some 35) #[true,true,true,true,false,false] rfl rfl (by kernel_rfl) (by decide) (fun K hK=>?_)
       refine goes_ Tryd.func12 (by kernel_rfl) rfl #[.agg #[.bool a1_0,.slice A1_1 l1_1.length c1_1,.slice A1_2 l1_2.length c1_2]] (by rfl) rfl rfl (by (try simp only [List.map_toArray,List.map_cons,List.map_nil]);first|done|rfl) ?_
       with_reducible refine (decimal_Print.calls kj2 a1_0 _ _ l1_1 _ _ l1_2 t915 _ ?side1 ?side2 ?side3 ?side4 A23.out).mono ?_
       (case side1=>repeat (first|exact (Kd.C_below HR1_1.out HB.out)|(with_reducible refine Kd.C_alloc ?_ _)|(with_reducible refine Kd.C_drewN ?_ _)|(with_reducible refine Kd.C_drew ?_)))
       (case side2=>exact HC1_1.out)
       (case side3=>repeat (first|exact (Kd.C_below HR1_2.out HB.out)|(with_reducible refine Kd.C_alloc ?_ _)|(with_reducible refine Kd.C_drewN ?_ _)|(with_reducible refine Kd.C_drew ?_)))
       (case side4=>exact HC1_2.out)
       rintro e w34 ⟨rfl,hb⟩
       refine ⟨_,rfl,?_⟩
       have n0_:=Aside0.mk (blk_below (g:=gb911) (o:=.cells #[.bool a0_0,.slice A0_1 l0_1.length c0_1,.slice A0_2 l0_2.length c0_2] 25 (0,0)) (Bu BK911.out) hb)
       have n1_:=Aside0.mk (blk_below (g:=gb912) (o:=.cells #[.bool a1_0,.slice A1_1 l1_1.length c1_1,.slice A1_2 l1_2.length c1_2] 25 (0,0)) (Bu BK912.out) hb)
       have n2_:=Aside0.mk (below_step (by repeat (first|with_reducible exact HB.out|apply ba|apply bn|apply b1|refine below_set ?_ GE911.out|refine below_set ?_ GE912.out)) hb)
       clear BK911
       clear BK912
       clear HB
       have BK911:=n0_
       have BK912:=n1_
       have HB:=n2_
       clear n0_ n1_ n2_
       (try clear hb)
       (try clear hb2)
       (try clear hk)
       (try clear hi)
       refine hK.out _ _ ⟨(blk_cell BK911.out 0).trans rfl,(blk_cell BK911.out 1).trans rfl,(blk_cell BK911.out 2).trans rfl,(blk_cell BK912.out 0).trans rfl,(blk_cell BK912.out 1).trans rfl,(blk_cell BK912.out 2).trans rfl⟩ (fun hHeld=>?_)
       clear hK K
       refine norm_ (a':=?_) ?_ ?_
       rotate_left
       ·show Act.put _ (some 35) _=_
        simp only [Act.put,s0,s1,s2,i64_w,i32_w]
        rfl
       refine pure_ (i:=4) (N:=some 5) (v:=?_) (a':=?_) #[true,true,true,true,true,false] rfl rfl (by kernel_rfl) (fun _ _ _ h=>h) (Or.inl ⟨by rfl,?_⟩) ?_ ?_
       rotate_left
       ·intro w'
        go_simp
        with_reducible rfl
       rotate_left
       ·simp only [Act.put,s0,s1,s2,i64_w,i32_w]
        rfl
       refine pure_ (i:=5) (N:=some 6) (v:=?_) (a':=?_) #[true,true,true,true,true,true] rfl rfl (by kernel_rfl) (fun _ _ _ h=>h) (Or.inl ⟨by rfl,?_⟩) ?_ ?_
       rotate_left
       ·intro w'
        go_simp
        with_reducible rfl
       rotate_left
       ·simp only [Act.put,s0,s1,s2,i64_w,i32_w]
        rfl
       refine done_ (by kernel_rfl) ?_
       try go_wp2_with (first|((with_reducible refine gate_callee (f:=9) rfl ?_);refine goesL_ (some 38) rfl rfl Tryd.func9 (by kernel_rfl) rfl #[.string t914] rfl (by (try simp only [List.map_toArray,List.map_cons,List.map_nil]);first|done|rfl) ?_;(with_reducible refine (decimal_Parse.calls kj2 t914 t916 t917 t920 t923 _ A24.out).mono ?_);rintro e w35 ⟨v918,v921,rfl,ho0,ho1,hb⟩;refine ⟨_,rfl,?_⟩;have n0_:=Aside0.mk (Kd.R_lower ho0 (below_size (by repeat (first|with_reducible exact HB.out|apply ba|apply bn|apply b1|refine below_set ?_ GE911.out|refine below_set ?_ GE912.out))));have n1_:=Aside0.mk (Kd.R_lower ho1 (below_size (by repeat (first|with_reducible exact HB.out|apply ba|apply bn|apply b1|refine below_set ?_ GE911.out|refine below_set ?_ GE912.out))));have n2_:=Aside0.mk (blk_below (g:=gb911) (o:=.cells #[.bool a0_0,.slice A0_1 l0_1.length c0_1,.slice A0_2 l0_2.length c0_2] 25 (0,0)) (Bu BK911.out) hb);have n3_:=Aside0.mk (blk_below (g:=gb912) (o:=.cells #[.bool a1_0,.slice A1_1 l1_1.length c1_1,.slice A1_2 l1_2.length c1_2] 25 (0,0)) (Bu BK912.out) hb);have n4_:=Aside0.mk (below_step (by repeat (first|with_reducible exact HB.out|apply ba|apply bn|apply b1|refine below_set ?_ GE911.out|refine below_set ?_ GE912.out)) hb);clear BK911;clear BK912;clear HB;have HO919:=n0_;have HO922:=n1_;have BK911:=n2_;have BK912:=n3_;have HB:=n4_;clear n0_ n1_ n2_ n3_ n4_)|((with_reducible refine gate_dst (N:=7) rfl ?_);(try (refine gate_guard (by rfl) ?_;dsimp only));refine box_event ?hg (N:=7) ?hd (cs:=#[.bool false,.slice none 0 0,.slice none 0 0]) (t:=25) ?hr ?_;(case hd=>rfl);(case hg=>rfl);(case hr=>first|(go_simp;done)|(go_simp;(with_reducible rfl))|(go_simp;rfl)|(go_simp;simp only [hu,Int.emod_sub_emod]));intro gb924 hg w36 hbox hb;have n0_:=Aside0.mk (Kd.R_below (Ru HO919.out) hb);have n1_:=Aside0.mk (Kd.R_below (Ru HO922.out) hb);have n2_:=Aside0.mk (blk_below (g:=gb911) (o:=.cells #[.bool a0_0,.slice A0_1 l0_1.length c0_1,.slice A0_2 l0_2.length c0_2] 25 (0,0)) (Bu BK911.out) hb);have n3_:=Aside0.mk (blk_below (g:=gb912) (o:=.cells #[.bool a1_0,.slice A1_1 l1_1.length c1_1,.slice A1_2 l1_2.length c1_2] 25 (0,0)) (Bu BK912.out) hb);have n4_:=Aside0.mk (below_step (by repeat (first|with_reducible exact HB.out|apply ba|apply bn|apply b1|refine below_set ?_ GE911.out|refine below_set ?_ GE912.out)) hb);have n5_:=Aside0.mk (hbox);have n6_:=Aside0.mk ((by rw [hg];exact (below_size (by repeat (first|with_reducible exact HB.out|apply ba|apply bn|apply b1|refine below_set ?_ GE911.out|refine below_set ?_ GE912.out))) : w.heap.size≤gb924));have n7_:=Aside0.mk ((by rw [hg];exact (below_size (by repeat (first|with_reducible exact HB.out|apply ba|apply bn|apply b1|refine below_set ?_ GE911.out|refine below_set ?_ GE912.out))) : w.heap.size≤gb924));have n8_:=Aside0.mk ((by rw [hg];exact Nat.ne_of_lt (blk_lt (g:=gb911) (o:=.cells #[.bool a0_0,.slice A0_1 l0_1.length c0_1,.slice A0_2 l0_2.length c0_2] 25 (0,0)) (Bu BK911.out)) : gb911≠gb924));have n9_:=Aside0.mk ((by rw [hg];exact Nat.ne_of_gt (blk_lt (g:=gb911) (o:=.cells #[.bool a0_0,.slice A0_1 l0_1.length c0_1,.slice A0_2 l0_2.length c0_2] 25 (0,0)) (Bu BK911.out)) : gb924≠gb911));have n10_:=Aside0.mk ((by rw [hg];exact Nat.ne_of_lt (blk_lt (g:=gb912) (o:=.cells #[.bool a1_0,.slice A1_1 l1_1.length c1_1,.slice A1_2 l1_2.length c1_2] 25 (0,0)) (Bu BK912.out)) : gb912≠gb924));have n11_:=Aside0.mk ((by rw [hg];exact Nat.ne_of_gt (blk_lt (g:=gb912) (o:=.cells #[.bool a1_0,.slice A1_1 l1_1.length c1_1,.slice A1_2 l1_2.length c1_2] 25 (0,0)) (Bu BK912.out)) : gb924≠gb912));clear HO919;clear HO922;clear BK911;clear BK912;clear HB;have HO919:=n0_;have HO922:=n1_;have BK911:=n2_;have BK912:=n3_;have HB:=n4_;have BK924:=n5_;have GW924:=n6_;have GE924:=n7_;have NB911_924:=n8_;have NB924_911:=n9_;have NB912_924:=n10_;have NB924_912:=n11_;clear n0_ n1_ n2_ n3_ n4_ n5_ n6_ n7_ n8_ n9_ n10_ n11_;clear hb hbox hg;have hnb37:=NB924_911.out;have hnc37:=NB911_924.out;have hnb38:=NB924_912.out;have hnc38:=NB912_924.out;have hcz39_0 : w36.cell? ⟨gb924,0,none⟩=some (.bool false):=(blk_cell BK924.out 0).trans rfl;have hcz39_1 : w36.cell? ⟨gb924,1,none⟩=some (.slice none 0 0):=(blk_cell BK924.out 1).trans rfl;have hcz39_2 : w36.cell? ⟨gb924,2,none⟩=some (.slice none 0 0):=(blk_cell BK924.out 2).trans rfl;have hfz39_0:=blk_frozen BK924.out 0;have hfz39_1:=blk_frozen BK924.out 1;have hfz39_2:=blk_frozen BK924.out 2;obtain ⟨Ao40,co40,eo40⟩:=Kd.R_slice HO919.out;subst eo40;obtain ⟨Ao41,co41,eo41⟩:=Kd.R_slice HO922.out;subst eo41))
       have n0_ : Aside0 (Kd.R (Kd.int .u32) 35 (((w36.setCell ⟨gb924,0,none⟩ (.bool t916)).setCell ⟨gb924,1,none⟩ (.slice Ao40 t917.length co40)).setCell ⟨gb924,2,none⟩ (.slice Ao41 t920.length co41)) w.heap.size (fun k_=>some k_≠(.slice Ao41 t920.length co41 : Value).ownBlock) (.slice Ao40 t917.length co40) t917):=⟨by (with_reducible repeat (first|apply Ra|apply Rn|apply Rd));exact Kd.R_mono (Kd.R_far (p:=⟨gb924,2,none⟩) (Kd.R_far (p:=⟨gb924,1,none⟩) (Kd.R_far (p:=⟨gb924,0,none⟩) (Kd.R_types HO919.out BK924.out (by decide)) (fun _ hk=>hk.2) (.bool t916)) (fun _ hk=>hk.2) (.slice Ao40 t917.length co40)) (fun _ hk=>hk.2) (.slice Ao41 t920.length co41)) (fun _ hk=>hk.1)⟩
       have n1_ : Aside0 (Kd.R (Kd.int .u32) 35 (((w36.setCell ⟨gb924,0,none⟩ (.bool t916)).setCell ⟨gb924,1,none⟩ (.slice Ao40 t917.length co40)).setCell ⟨gb924,2,none⟩ (.slice Ao41 t920.length co41)) w.heap.size (fun k_=>some k_≠(.slice Ao40 t917.length co40 : Value).ownBlock) (.slice Ao41 t920.length co41) t920):=⟨by (with_reducible repeat (first|apply Ra|apply Rn|apply Rd));exact Kd.R_mono (Kd.R_far (p:=⟨gb924,2,none⟩) (Kd.R_far (p:=⟨gb924,1,none⟩) (Kd.R_far (p:=⟨gb924,0,none⟩) (Kd.R_types HO922.out BK924.out (by decide)) (fun _ hk=>hk.2) (.bool t916)) (fun _ hk=>hk.2) (.slice Ao40 t917.length co40)) (fun _ hk=>hk.2) (.slice Ao41 t920.length co41)) (fun _ hk=>hk.1)⟩
       have n2_ : Aside0 ((((w36.setCell ⟨gb924,0,none⟩ (.bool t916)).setCell ⟨gb924,1,none⟩ (.slice Ao40 t917.length co40)).setCell ⟨gb924,2,none⟩ (.slice Ao41 t920.length co41)).heap[gb911]? = some (.cells #[.bool a0_0,.slice A0_1 l0_1.length c0_1,.slice A0_2 l0_2.length c0_2] 25 (0,0))):=⟨by (with_reducible repeat (first|refine blk_drewN ?_ _|refine blk_drew ?_|refine blk_alloc ?_ _));refine blk_far ?_ NB911_924.out _;(with_reducible repeat (first|refine blk_drewN ?_ _|refine blk_drew ?_|refine blk_alloc ?_ _));refine blk_far ?_ NB911_924.out _;(with_reducible repeat (first|refine blk_drewN ?_ _|refine blk_drew ?_|refine blk_alloc ?_ _));refine blk_far ?_ NB911_924.out _;(with_reducible repeat (first|refine blk_drewN ?_ _|refine blk_drew ?_|refine blk_alloc ?_ _));exact BK911.out⟩
       have n3_ : Aside0 ((((w36.setCell ⟨gb924,0,none⟩ (.bool t916)).setCell ⟨gb924,1,none⟩ (.slice Ao40 t917.length co40)).setCell ⟨gb924,2,none⟩ (.slice Ao41 t920.length co41)).heap[gb912]? = some (.cells #[.bool a1_0,.slice A1_1 l1_1.length c1_1,.slice A1_2 l1_2.length c1_2] 25 (0,0))):=⟨by (with_reducible repeat (first|refine blk_drewN ?_ _|refine blk_drew ?_|refine blk_alloc ?_ _));refine blk_far ?_ NB912_924.out _;(with_reducible repeat (first|refine blk_drewN ?_ _|refine blk_drew ?_|refine blk_alloc ?_ _));refine blk_far ?_ NB912_924.out _;(with_reducible repeat (first|refine blk_drewN ?_ _|refine blk_drew ?_|refine blk_alloc ?_ _));refine blk_far ?_ NB912_924.out _;(with_reducible repeat (first|refine blk_drewN ?_ _|refine blk_drew ?_|refine blk_alloc ?_ _));exact BK912.out⟩
       have n4_ : Aside0 ((((w36.setCell ⟨gb924,0,none⟩ (.bool t916)).setCell ⟨gb924,1,none⟩ (.slice Ao40 t917.length co40)).setCell ⟨gb924,2,none⟩ (.slice Ao41 t920.length co41)).heap[gb924]? = some (.cells #[.bool t916,.slice Ao40 t917.length co40,.slice Ao41 t920.length co41] 25 (0,0))):=⟨by (with_reducible repeat (first|refine blk_drewN ?_ _|refine blk_drew ?_|refine blk_alloc ?_ _));refine blk_put (cs:=#[.bool t916,.slice Ao40 t917.length co40,.slice none 0 0]) ?_ 2 _ rfl;(with_reducible repeat (first|refine blk_drewN ?_ _|refine blk_drew ?_|refine blk_alloc ?_ _));refine blk_put (cs:=#[.bool t916,.slice none 0 0,.slice none 0 0]) ?_ 1 _ rfl;(with_reducible repeat (first|refine blk_drewN ?_ _|refine blk_drew ?_|refine blk_alloc ?_ _));refine blk_put (cs:=#[.bool false,.slice none 0 0,.slice none 0 0]) ?_ 0 _ rfl;(with_reducible repeat (first|refine blk_drewN ?_ _|refine blk_drew ?_|refine blk_alloc ?_ _));exact BK924.out⟩
       have n5_ : Aside0 (Below w.heap.size w (((w36.setCell ⟨gb924,0,none⟩ (.bool t916)).setCell ⟨gb924,1,none⟩ (.slice Ao40 t917.length co40)).setCell ⟨gb924,2,none⟩ (.slice Ao41 t920.length co41))):=⟨by repeat (first|with_reducible exact HB.out|apply ba|apply bn|apply b1|refine below_set ?_ GE911.out|refine below_set ?_ GE912.out|refine below_set ?_ GE924.out)⟩
       (try clear HO919)
       (try clear HO922)
       (try clear BK911)
       (try clear BK912)
       (try clear BK924)
       (try clear HB)
       generalize (((w36.setCell ⟨gb924,0,none⟩ (.bool t916)).setCell ⟨gb924,1,none⟩ (.slice Ao40 t917.length co40)).setCell ⟨gb924,2,none⟩ (.slice Ao41 t920.length co41))=w42 at n0_ n1_ n2_ n3_ n4_ n5_ ⊢
       have HO919:=n0_
       have HO922:=n1_
       have BK911:=n2_
       have BK912:=n3_
       have BK924:=n4_
       have HB:=n5_
       clear n0_ n1_ n2_ n3_ n4_ n5_
       have n0_:=Aside0.mk (Rd HO919.out)
       have n1_:=Aside0.mk (Rd HO922.out)
       have n2_:=Aside0.mk (blk_drew BK911.out)
       have n3_:=Aside0.mk (blk_drew BK912.out)
       have n4_:=Aside0.mk (blk_drew BK924.out)
       have n5_:=Aside0.mk (b1 HB.out)
       clear HO919
       clear HO922
       clear BK911
       clear BK912
       clear BK924
       clear HB
       have HO919:=n0_
       have HO922:=n1_
       have BK911:=n2_
       have BK912:=n3_
       have BK924:=n4_
       have HB:=n5_
       clear n0_ n1_ n2_ n3_ n4_ n5_
       refine start_ (n:=21) (S:=fun w'=>w'.cell? ⟨gb924,0,none⟩=some (.bool t916)∧w'.cell? ⟨gb924,1,none⟩=some (.slice Ao40 t917.length co40)∧w'.cell? ⟨gb924,2,none⟩=some (.slice Ao41 t920.length co41)∧w'.cell? ⟨gb911,0,none⟩=some (.bool a0_0)∧w'.cell? ⟨gb911,1,none⟩=some (.slice A0_1 l0_1.length c0_1)∧w'.cell? ⟨gb911,2,none⟩=some (.slice A0_2 l0_2.length c0_2)∧w'.cell? ⟨gb912,0,none⟩=some (.bool a1_0)∧w'.cell? ⟨gb912,1,none⟩=some (.slice A1_1 l1_1.length c1_1)∧w'.cell? ⟨gb912,2,none⟩=some (.slice A1_2 l1_2.length c1_2)) (ds:=[]) #[false,false,false,false,false,false,false,false,false,false,false,false,false,false,false,false,false,false,false,false,false] (by kernel_rfl) rfl rfl ⟨(blk_cell BK924.out 0).trans rfl,(blk_cell BK924.out 1).trans rfl,(blk_cell BK924.out 2).trans rfl,(blk_cell BK911.out 0).trans rfl,(blk_cell BK911.out 1).trans rfl,(blk_cell BK911.out 2).trans rfl,(blk_cell BK912.out 0).trans rfl,(blk_cell BK912.out 1).trans rfl,(blk_cell BK912.out 2).trans rfl⟩ (fun hHeld=>?_);refine with_tabW penumbralaw04_DecimalBack.tab5 penumbralaw04_DecimalBack.bits5 (fun HT_ HW_=>?_)
       generalize w42.drew=w43 at HO919 HO922 BK911 BK912 BK924 HB hHeld ⊢
       refine one_ (i:=0) (N:=some 41) #[true,false,false,false,false,false,false,false,false,false,false,false,false,false,false,false,false,false,false,false,false] rfl rfl (one_of HT_.out (by kernel_rfl)) (by decide) (fun K hK=>?_)
       refine goes_ Tryd.func8 (by kernel_rfl) rfl #[] (by rfl) rfl rfl (by (try simp only [List.map_toArray,List.map_cons,List.map_nil]);first|done|rfl) ?_
       with_reducible refine (penumbralaw04_fixed.calls kj2  true _ A25.out).mono ?_
       rintro e w44 ⟨rfl,hb⟩
       refine ⟨_,rfl,?_⟩
       have n0_:=Aside0.mk (Kd.R_below (Ru HO919.out) hb)
       have n1_:=Aside0.mk (Kd.R_below (Ru HO922.out) hb)
       have n2_:=Aside0.mk (blk_below (g:=gb911) (o:=.cells #[.bool a0_0,.slice A0_1 l0_1.length c0_1,.slice A0_2 l0_2.length c0_2] 25 (0,0)) (Bu BK911.out) hb)
       have n3_:=Aside0.mk (blk_below (g:=gb912) (o:=.cells #[.bool a1_0,.slice A1_1 l1_1.length c1_1,.slice A1_2 l1_2.length c1_2] 25 (0,0)) (Bu BK912.out) hb)
       have n4_:=Aside0.mk (blk_below (g:=gb924) (o:=.cells #[.bool t916,.slice Ao40 t917.length co40,.slice Ao41 t920.length co41] 25 (0,0)) (Bu BK924.out) hb)
       have n5_:=Aside0.mk (below_step (by repeat (first|with_reducible exact HB.out|apply ba|apply bn|apply b1|refine below_set ?_ GE911.out|refine below_set ?_ GE912.out|refine below_set ?_ GE924.out)) hb)
       clear HO919
       clear HO922
       clear BK911
       clear BK912
       clear BK924
       clear HB
       have HO919:=n0_
       have HO922:=n1_
       have BK911:=n2_
       have BK912:=n3_
       have BK924:=n4_
       have HB:=n5_
       clear n0_ n1_ n2_ n3_ n4_ n5_
       (try clear hb)
       (try clear hb2)
       (try clear hk)
       (try clear hi)
       refine hK.out _ _ ⟨(blk_cell BK924.out 0).trans rfl,(blk_cell BK924.out 1).trans rfl,(blk_cell BK924.out 2).trans rfl,(blk_cell BK911.out 0).trans rfl,(blk_cell BK911.out 1).trans rfl,(blk_cell BK911.out 2).trans rfl,(blk_cell BK912.out 0).trans rfl,(blk_cell BK912.out 1).trans rfl,(blk_cell BK912.out 2).trans rfl⟩ (fun hHeld=>?_)
       clear hK K
       refine norm_ (a':=?_) ?_ ?_
       rotate_left
       ·show Act.put _ (some 41) _=_
        simp only [Act.put,s0,s1,s2,i64_w,i32_w]
        rfl
       refine pv (i:=1) (N:=some 42) (v:=?_) (a':=?_) rfl rfl (any_of HT_.out (by kernel_rfl)) (Or.inl ⟨by rfl,?_⟩) ?_ ?_
       rotate_left
       ·intro w'
        go_simp
        with_reducible rfl
       rotate_left
       ·simp only [Act.put,s0,s1,s2,i64_w,i32_w]
        rfl
       refine pv (i:=2) (N:=some 43) (v:=?_) (a':=?_) rfl rfl (any_of HT_.out (by kernel_rfl)) (Or.inl ⟨by rfl,?_⟩) ?_ ?_
       rotate_left
       ·intro w'
        go_simp
        with_reducible rfl
       rotate_left
       ·simp only [Act.put,s0,s1,s2,i64_w,i32_w]
        rfl
       refine pv (i:=3) (N:=some 44) (v:=?_) (a':=?_) rfl rfl (any_of HT_.out (by kernel_rfl)) (Or.inl ⟨by rfl,?_⟩) ?_ ?_
       rotate_left
       ·intro w'
        go_simp
        with_reducible rfl
       rotate_left
       ·simp only [Act.put,s0,s1,s2,i64_w,i32_w]
        rfl
       refine pv (i:=4) (N:=some 45) (v:=?_) (a':=?_) rfl rfl (any_of HT_.out (by kernel_rfl)) (Or.inl ⟨by rfl,?_⟩) ?_ ?_
       rotate_left
       ·intro w'
        go_simp
        with_reducible rfl
       rotate_left
       ·simp only [Act.put,s0,s1,s2,i64_w,i32_w]
        rfl
       refine pv (i:=5) (N:=some 46) (v:=?_) (a':=?_) rfl rfl (any_of HT_.out (by kernel_rfl)) (Or.inl ⟨by rfl,?_⟩) ?_ ?_
       rotate_left
       ·intro w'
        go_simp
        with_reducible rfl
       rotate_left
       ·simp only [Act.put,s0,s1,s2,i64_w,i32_w]
        rfl
       refine take_ (i:=6) (N:=some 47) (v:=?_) (a':=?_) #[true,true,true,true,true,true,true,false,false,false,false,false,false,false,false,false,false,false,false,false,false] rfl rfl (take_ofW HT_.out HW_.out (by kernel_rfl)) (fun _ _ _ h=>h) (Or.inl ⟨by rfl,?_⟩) hHeld ?_ ?_
       rotate_left
       ·rintro w' ⟨s0,s1,s2,s3,s4,s5,s6,s7,s8⟩
        go_simp
        with_reducible rfl
       rotate_left
       ·simp only [Act.put,s0,s1,s2,i64_w,i32_w]
        rfl
       refine take_ (i:=7) (N:=some 48) (v:=?_) (a':=?_) #[true,true,true,true,true,true,true,true,false,false,false,false,false,false,false,false,false,false,false,false,false] rfl rfl (take_ofW HT_.out HW_.out (by kernel_rfl)) (fun _ _ _ h=>h) (Or.inl ⟨by rfl,?_⟩) hHeld ?_ ?_
       rotate_left
       ·rintro w' ⟨s0,s1,s2,s3,s4,s5,s6,s7,s8⟩
        go_simp
        with_reducible rfl
       rotate_left
       ·simp only [Act.put,s0,s1,s2,i64_w,i32_w]
        rfl
       refine one_ (i:=8) (N:=some 49) #[true,true,true,true,true,true,true,true,true,false,false,false,false,false,false,false,false,false,false,false,false] rfl rfl (one_of HT_.out (by kernel_rfl)) (by decide) (fun K hK=>?_)
       refine goes_ Tryd.func18 (by kernel_rfl) rfl #[.agg #[.bool a0_0,.slice A0_1 l0_1.length c0_1,.slice A0_2 l0_2.length c0_2]] (by rfl) rfl rfl (by (try simp only [List.map_toArray,List.map_cons,List.map_nil]);first|done|rfl) ?_
       with_reducible refine (rat_Read.calls kj2 a0_0 _ _ l0_1 _ _ l0_2 t926 t927 t930 _ ?side1 ?side2 ?side3 ?side4 A28.out).mono ?_
       (case side1=>repeat (first|exact (Kd.C_below HR0_1.out HB.out)|(with_reducible refine Kd.C_alloc ?_ _)|(with_reducible refine Kd.C_drewN ?_ _)|(with_reducible refine Kd.C_drew ?_)))
       (case side2=>exact HC0_1.out)
       (case side3=>repeat (first|exact (Kd.C_below HR0_2.out HB.out)|(with_reducible refine Kd.C_alloc ?_ _)|(with_reducible refine Kd.C_drewN ?_ _)|(with_reducible refine Kd.C_drew ?_)))
       (case side4=>exact HC0_2.out)
       rintro e w45 ⟨v928,v931,rfl,ho0,ho1,hb⟩
       refine ⟨_,rfl,?_⟩
       have n0_:=Aside0.mk (Kd.R_mono (Kd.R_told (Kd.R_told (Kd.R_old (Ru HO919.out) hb) (Kd.R_base ho0)) (Kd.R_base ho1)) (fun _ h_=>h_.1))
       have n1_:=Aside0.mk (Kd.R_mono (Kd.R_told (Kd.R_told (Kd.R_old (Ru HO922.out) hb) (Kd.R_base ho0)) (Kd.R_base ho1)) (fun _ h_=>h_.1))
       have n2_:=Aside0.mk (Kd.R_lower (Kd.R_new' (Kd.R_new' ho0 (Kd.R_lt (Ru HO919.out))) (Kd.R_lt (Ru HO922.out))) (below_size (by repeat (first|with_reducible exact HB.out|apply ba|apply bn|apply b1|refine below_set ?_ GE911.out|refine below_set ?_ GE912.out|refine below_set ?_ GE924.out))))
       have n3_:=Aside0.mk (Kd.R_lower (Kd.R_new' (Kd.R_new' ho1 (Kd.R_lt (Ru HO919.out))) (Kd.R_lt (Ru HO922.out))) (below_size (by repeat (first|with_reducible exact HB.out|apply ba|apply bn|apply b1|refine below_set ?_ GE911.out|refine below_set ?_ GE912.out|refine below_set ?_ GE924.out))))
       have n4_:=Aside0.mk (blk_below (g:=gb911) (o:=.cells #[.bool a0_0,.slice A0_1 l0_1.length c0_1,.slice A0_2 l0_2.length c0_2] 25 (0,0)) (Bu BK911.out) hb)
       have n5_:=Aside0.mk (blk_below (g:=gb912) (o:=.cells #[.bool a1_0,.slice A1_1 l1_1.length c1_1,.slice A1_2 l1_2.length c1_2] 25 (0,0)) (Bu BK912.out) hb)
       have n6_:=Aside0.mk (blk_below (g:=gb924) (o:=.cells #[.bool t916,.slice Ao40 t917.length co40,.slice Ao41 t920.length co41] 25 (0,0)) (Bu BK924.out) hb)
       have n7_:=Aside0.mk (below_step (by repeat (first|with_reducible exact HB.out|apply ba|apply bn|apply b1|refine below_set ?_ GE911.out|refine below_set ?_ GE912.out|refine below_set ?_ GE924.out)) hb)
       clear HO919
       clear HO922
       clear BK911
       clear BK912
       clear BK924
       clear HB
       have HO919:=n0_
       have HO922:=n1_
       have HO929:=n2_
       have HO932:=n3_
       have BK911:=n4_
       have BK912:=n5_
       have BK924:=n6_
       have HB:=n7_
       clear n0_ n1_ n2_ n3_ n4_ n5_ n6_ n7_
       (try clear hb)
       (try clear hb2)
       (try clear hk)
       (try clear hi)
       (try clear ho0)
       (try clear ho1)
       obtain ⟨Ao46,co46,eo46⟩:=Kd.R_slice HO929.out
       (first|subst eo46|(injection eo46 with f1_ f2_ f3_;have f4_:=f1_.symm;have f5_:=f3_.symm;clear f1_ f2_ f3_;subst f4_;subst f5_))
       obtain ⟨Ao47,co47,eo47⟩:=Kd.R_slice HO932.out
       (first|subst eo47|(injection eo47 with f1_ f2_ f3_;have f4_:=f1_.symm;have f5_:=f3_.symm;clear f1_ f2_ f3_;subst f4_;subst f5_))
       refine hK.out _ _ ⟨(blk_cell BK924.out 0).trans rfl,(blk_cell BK924.out 1).trans rfl,(blk_cell BK924.out 2).trans rfl,(blk_cell BK911.out 0).trans rfl,(blk_cell BK911.out 1).trans rfl,(blk_cell BK911.out 2).trans rfl,(blk_cell BK912.out 0).trans rfl,(blk_cell BK912.out 1).trans rfl,(blk_cell BK912.out 2).trans rfl⟩ (fun hHeld=>?_)
       clear hK K
       refine norm_ (a':=?_) ?_ ?_
       rotate_left
       ·show Act.put _ (some 49) _=_
        simp only [Act.put,s0,s1,s2,i64_w,i32_w]
        rfl
       refine one_ (i:=9) (N:=some 50) #[true,true,true,true,true,true,true,true,true,true,false,false,false,false,false,false,false,false,false,false,false] rfl rfl (one_of HT_.out (by kernel_rfl)) (by decide) (fun K hK=>?_)
       refine goes_ Tryd.func11 (by kernel_rfl) rfl #[.agg #[.bool t916,.slice Ao40 t917.length co40,.slice Ao41 t920.length co41],.agg #[.bool t926,.slice Ao46 t927.length co46,.slice Ao47 t930.length co47]] (by rfl) rfl rfl (by (try simp only [List.map_toArray,List.map_cons,List.map_nil]);first|done|rfl) ?_
       with_reducible refine (penumbraref03_Is.calls kj2 t916 _ _ t917 _ _ t920 t926 _ _ t927 _ _ t930 true _ ?side1 ?side2 ?side3 ?side4 ?side5 ?side6 ?side7 ?side8 A29.out).mono ?_
       (case side1=>exact Cu (Kd.R_reads' HO919.out).2.2)
       (case side2=>exact (Kd.R_reads' HO919.out).2.1)
       (case side3=>exact Cu (Kd.R_reads' HO922.out).2.2)
       (case side4=>exact (Kd.R_reads' HO922.out).2.1)
       (case side5=>exact Cu (Kd.R_reads' HO929.out).2.2)
       (case side6=>exact (Kd.R_reads' HO929.out).2.1)
       (case side7=>exact Cu (Kd.R_reads' HO932.out).2.2)
       (case side8=>exact (Kd.R_reads' HO932.out).2.1)
       rintro e w48 ⟨rfl,hb⟩
       refine ⟨_,rfl,?_⟩
       have n0_:=Aside0.mk (Kd.R_below (Ru HO919.out) hb)
       have n1_:=Aside0.mk (Kd.R_below (Ru HO922.out) hb)
       have n2_:=Aside0.mk (Kd.R_below (Ru HO929.out) hb)
       have n3_:=Aside0.mk (Kd.R_below (Ru HO932.out) hb)
       have n4_:=Aside0.mk (blk_below (g:=gb911) (o:=.cells #[.bool a0_0,.slice A0_1 l0_1.length c0_1,.slice A0_2 l0_2.length c0_2] 25 (0,0)) (Bu BK911.out) hb)
       have n5_:=Aside0.mk (blk_below (g:=gb912) (o:=.cells #[.bool a1_0,.slice A1_1 l1_1.length c1_1,.slice A1_2 l1_2.length c1_2] 25 (0,0)) (Bu BK912.out) hb)
       have n6_:=Aside0.mk (blk_below (g:=gb924) (o:=.cells #[.bool t916,.slice Ao40 t917.length co40,.slice Ao41 t920.length co41] 25 (0,0)) (Bu BK924.out) hb)
       have n7_:=Aside0.mk (below_step (by repeat (first|with_reducible exact HB.out|apply ba|apply bn|apply b1|refine below_set ?_ GE911.out|refine below_set ?_ GE912.out|refine below_set ?_ GE924.out)) hb)
       clear HO919
       clear HO922
       clear HO929
       clear HO932
       clear BK911
       clear BK912
       clear BK924
       clear HB
       have HO919:=n0_
       have HO922:=n1_
       have HO929:=n2_
       have HO932:=n3_
       have BK911:=n4_
       have BK912:=n5_
       have BK924:=n6_
       have HB:=n7_
       clear n0_ n1_ n2_ n3_ n4_ n5_ n6_ n7_
       (try clear hb)
       (try clear hb2)
       (try clear hk)
       (try clear hi)
       refine hK.out _ _ ⟨(blk_cell BK924.out 0).trans rfl,(blk_cell BK924.out 1).trans rfl,(blk_cell BK924.out 2).trans rfl,(blk_cell BK911.out 0).trans rfl,(blk_cell BK911.out 1).trans rfl,(blk_cell BK911.out 2).trans rfl,(blk_cell BK912.out 0).trans rfl,(blk_cell BK912.out 1).trans rfl,(blk_cell BK912.out 2).trans rfl⟩ (fun hHeld=>?_)
       clear hK K
       refine norm_ (a':=?_) ?_ ?_
       rotate_left
       ·show Act.put _ (some 50) _=_
        simp only [Act.put,s0,s1,s2,i64_w,i32_w]
        rfl
       refine pv (i:=10) (N:=some 51) (v:=?_) (a':=?_) rfl rfl (any_of HT_.out (by kernel_rfl)) (Or.inl ⟨by rfl,?_⟩) ?_ ?_
       rotate_left
       ·intro w'
        go_simp
        with_reducible rfl
       rotate_left
       ·simp only [Act.put,s0,s1,s2,i64_w,i32_w]
        rfl
       refine pv (i:=11) (N:=some 52) (v:=?_) (a':=?_) rfl rfl (any_of HT_.out (by kernel_rfl)) (Or.inl ⟨by rfl,?_⟩) ?_ ?_
       rotate_left
       ·intro w'
        go_simp
        with_reducible rfl
       rotate_left
       ·simp only [Act.put,s0,s1,s2,i64_w,i32_w]
        rfl
       refine pv (i:=12) (N:=some 53) (v:=?_) (a':=?_) rfl rfl (any_of HT_.out (by kernel_rfl)) (Or.inl ⟨by rfl,?_⟩) ?_ ?_
       rotate_left
       ·intro w'
        go_simp
        with_reducible rfl
       rotate_left
       ·simp only [Act.put,s0,s1,s2,i64_w,i32_w]
        rfl
       refine pv (i:=13) (N:=some 54) (v:=?_) (a':=?_) rfl rfl (any_of HT_.out (by kernel_rfl)) (Or.inl ⟨by rfl,?_⟩) ?_ ?_
       rotate_left
       ·intro w'
        go_simp
        with_reducible rfl
       rotate_left
       ·simp only [Act.put,s0,s1,s2,i64_w,i32_w]
        rfl
       refine pv (i:=14) (N:=some 55) (v:=?_) (a':=?_) rfl rfl (any_of HT_.out (by kernel_rfl)) (Or.inl ⟨by rfl,?_⟩) ?_ ?_
       rotate_left
       ·intro w'
        go_simp
        with_reducible rfl
       rotate_left
       ·simp only [Act.put,s0,s1,s2,i64_w,i32_w]
        rfl
       refine take_ (i:=15) (N:=some 56) (v:=?_) (a':=?_) #[true,true,true,true,true,true,true,true,true,true,true,true,true,true,true,true,false,false,false,false,false] rfl rfl (take_ofW HT_.out HW_.out (by kernel_rfl)) (fun _ _ _ h=>h) (Or.inl ⟨by rfl,?_⟩) hHeld ?_ ?_
       rotate_left
       ·rintro w' ⟨s0,s1,s2,s3,s4,s5,s6,s7,s8⟩
        go_simp
        with_reducible rfl
       rotate_left
       ·simp only [Act.put,s0,s1,s2,i64_w,i32_w]
        rfl
       refine take_ (i:=16) (N:=some 57) (v:=?_) (a':=?_) #[true,true,true,true,true,true,true,true,true,true,true,true,true,true,true,true,true,false,false,false,false] rfl rfl (take_ofW HT_.out HW_.out (by kernel_rfl)) (fun _ _ _ h=>h) (Or.inl ⟨by rfl,?_⟩) hHeld ?_ ?_
       rotate_left
       ·rintro w' ⟨s0,s1,s2,s3,s4,s5,s6,s7,s8⟩
        go_simp
        with_reducible rfl
       rotate_left
       ·simp only [Act.put,s0,s1,s2,i64_w,i32_w]
        rfl
       refine one_ (i:=17) (N:=some 58) #[true,true,true,true,true,true,true,true,true,true,true,true,true,true,true,true,true,true,false,false,false] rfl rfl (one_of HT_.out (by kernel_rfl)) (by decide) (fun K hK=>?_)
       refine goes_ Tryd.func19 (by kernel_rfl) rfl #[.agg #[.bool a0_0,.slice A0_1 l0_1.length c0_1,.slice A0_2 l0_2.length c0_2],.agg #[.bool a1_0,.slice A1_1 l1_1.length c1_1,.slice A1_2 l1_2.length c1_2]] (by rfl) rfl rfl (by (try simp only [List.map_toArray,List.map_cons,List.map_nil]);first|done|rfl) ?_
       with_reducible refine (rat_Same.calls kj2 a0_0 _ _ l0_1 _ _ l0_2 a1_0 _ _ l1_1 _ _ l1_2 t934 _ ?side1 ?side2 ?side3 ?side4 ?side5 ?side6 ?side7 ?side8 A31.out).mono ?_
       (case side1=>repeat (first|exact (Kd.C_below HR0_1.out HB.out)|(with_reducible refine Kd.C_alloc ?_ _)|(with_reducible refine Kd.C_drewN ?_ _)|(with_reducible refine Kd.C_drew ?_)))
       (case side2=>exact HC0_1.out)
       (case side3=>repeat (first|exact (Kd.C_below HR0_2.out HB.out)|(with_reducible refine Kd.C_alloc ?_ _)|(with_reducible refine Kd.C_drewN ?_ _)|(with_reducible refine Kd.C_drew ?_)))
       (case side4=>exact HC0_2.out)
       (case side5=>repeat (first|exact (Kd.C_below HR1_1.out HB.out)|(with_reducible refine Kd.C_alloc ?_ _)|(with_reducible refine Kd.C_drewN ?_ _)|(with_reducible refine Kd.C_drew ?_)))
       (case side6=>exact HC1_1.out)
       (case side7=>repeat (first|exact (Kd.C_below HR1_2.out HB.out)|(with_reducible refine Kd.C_alloc ?_ _)|(with_reducible refine Kd.C_drewN ?_ _)|(with_reducible refine Kd.C_drew ?_)))
       (case side8=>exact HC1_2.out)
       rintro e w49 ⟨rfl,hb⟩
       refine ⟨_,rfl,?_⟩
       have n0_:=Aside0.mk (Kd.R_below (Ru HO919.out) hb)
       have n1_:=Aside0.mk (Kd.R_below (Ru HO922.out) hb)
       have n2_:=Aside0.mk (Kd.R_below (Ru HO929.out) hb)
       have n3_:=Aside0.mk (Kd.R_below (Ru HO932.out) hb)
       have n4_:=Aside0.mk (blk_below (g:=gb911) (o:=.cells #[.bool a0_0,.slice A0_1 l0_1.length c0_1,.slice A0_2 l0_2.length c0_2] 25 (0,0)) (Bu BK911.out) hb)
       have n5_:=Aside0.mk (blk_below (g:=gb912) (o:=.cells #[.bool a1_0,.slice A1_1 l1_1.length c1_1,.slice A1_2 l1_2.length c1_2] 25 (0,0)) (Bu BK912.out) hb)
       have n6_:=Aside0.mk (blk_below (g:=gb924) (o:=.cells #[.bool t916,.slice Ao40 t917.length co40,.slice Ao41 t920.length co41] 25 (0,0)) (Bu BK924.out) hb)
       have n7_:=Aside0.mk (below_step (by repeat (first|with_reducible exact HB.out|apply ba|apply bn|apply b1|refine below_set ?_ GE911.out|refine below_set ?_ GE912.out|refine below_set ?_ GE924.out)) hb)
       clear HO919
       clear HO922
       clear HO929
       clear HO932
       clear BK911
       clear BK912
       clear BK924
       clear HB
       have HO919:=n0_
       have HO922:=n1_
       have HO929:=n2_
       have HO932:=n3_
       have BK911:=n4_
       have BK912:=n5_
       have BK924:=n6_
       have HB:=n7_
       clear n0_ n1_ n2_ n3_ n4_ n5_ n6_ n7_
       (try clear hb)
       (try clear hb2)
       (try clear hk)
       (try clear hi)
       refine hK.out _ _ ⟨(blk_cell BK924.out 0).trans rfl,(blk_cell BK924.out 1).trans rfl,(blk_cell BK924.out 2).trans rfl,(blk_cell BK911.out 0).trans rfl,(blk_cell BK911.out 1).trans rfl,(blk_cell BK911.out 2).trans rfl,(blk_cell BK912.out 0).trans rfl,(blk_cell BK912.out 1).trans rfl,(blk_cell BK912.out 2).trans rfl⟩ (fun hHeld=>?_)
       clear hK K
       refine norm_ (a':=?_) ?_ ?_
       rotate_left
       ·show Act.put _ (some 58) _=_
        simp only [Act.put,s0,s1,s2,i64_w,i32_w]
        rfl
       refine pv (i:=18) (N:=some 59) (v:=?_) (a':=?_) rfl rfl (any_of HT_.out (by kernel_rfl)) (Or.inl ⟨by rfl,?_⟩) ?_ ?_
       rotate_left
       ·intro w'
        go_simp
        with_reducible rfl
       rotate_left
       ·simp only [Act.put,s0,s1,s2,i64_w,i32_w]
        rfl
       refine pv (i:=19) (N:=some 60) (v:=?_) (a':=?_) rfl rfl (any_of HT_.out (by kernel_rfl)) (Or.inl ⟨by rfl,?_⟩) ?_ ?_
       rotate_left
       ·intro w'
        go_simp
        with_reducible rfl
       rotate_left
       ·simp only [Act.put,s0,s1,s2,i64_w,i32_w]
        rfl
       refine pv (i:=20) (N:=some 4) (v:=?_) (a':=?_) rfl rfl (any_of HT_.out (by kernel_rfl)) (Or.inl ⟨by rfl,?_⟩) ?_ ?_
       rotate_left
       ·intro w'
        go_simp
        with_reducible rfl
       rotate_left
       ·simp only [Act.put,s0,s1,s2,i64_w,i32_w]
        rfl
       refine done_ (done_of HT_.out (by kernel_rfl)) ?_
       try go_wp2
       go_ret
       exact ⟨by first|rfl|(simp [errW_none,errW_some] <;> rfl)|(simp [*,errW_none,errW_some] <;> rfl),by repeat (first|with_reducible exact HB.out|apply ba|apply bn|apply b1|refine below_set ?_ GE911.out|refine below_set ?_ GE912.out|refine below_set ?_ GE924.out)⟩
      ·replace c30:=Bool.eq_false_iff.mpr c30
       subst c30
       rw [if_neg (show ¬ (false=true) by decide)] at H
       obtain rfl:=Option.some.inj H
       try go_wp2
       have n0_:=Aside0.mk (blk_drew BK911.out)
       have n1_:=Aside0.mk (blk_drew BK912.out)
       have n2_:=Aside0.mk (b1 HB.out)
       clear BK911
       clear BK912
       clear HB
       have BK911:=n0_
       have BK912:=n1_
       have HB:=n2_
       clear n0_ n1_ n2_
       refine start_ (n:=6) (S:=fun w'=>w'.cell? ⟨gb911,0,none⟩=some (.bool a0_0)∧w'.cell? ⟨gb911,1,none⟩=some (.slice A0_1 l0_1.length c0_1)∧w'.cell? ⟨gb911,2,none⟩=some (.slice A0_2 l0_2.length c0_2)∧w'.cell? ⟨gb912,0,none⟩=some (.bool a1_0)∧w'.cell? ⟨gb912,1,none⟩=some (.slice A1_1 l1_1.length c1_1)∧w'.cell? ⟨gb912,2,none⟩=some (.slice A1_2 l1_2.length c1_2)) (ds:=[]) #[false,false,false,false,false,false] (by kernel_rfl) rfl rfl ⟨(blk_cell BK911.out 0).trans rfl,(blk_cell BK911.out 1).trans rfl,(blk_cell BK911.out 2).trans rfl,(blk_cell BK912.out 0).trans rfl,(blk_cell BK912.out 1).trans rfl,(blk_cell BK912.out 2).trans rfl⟩ (fun hHeld=>?_)
       generalize wc.drew=w50 at BK911 BK912 HB hHeld ⊢
       refine take_ (i:=0) (N:=some 32) (v:=?_) (a':=?_) #[true,false,false,false,false,false] rfl rfl (by kernel_rfl) (fun _ _ _ h=>h) (Or.inl ⟨by rfl,?_⟩) hHeld ?_ ?_
       rotate_left
       ·rintro w' ⟨s0,s1,s2,s3,s4,s5⟩
        go_simp
        with_reducible rfl
       rotate_left
       ·simp only [Act.put,s0,s1,s2,i64_w,i32_w]
        rfl
       refine take_ (i:=2) (N:=some 34) (v:=?_) (a':=?_) #[true,false,true,false,false,false] rfl rfl (by kernel_rfl) (fun _ _ _ h=>h) (Or.inl ⟨by rfl,?_⟩) hHeld ?_ ?_
       rotate_left
       ·rintro w' ⟨s0,s1,s2,s3,s4,s5⟩
        go_simp
        with_reducible rfl
       rotate_left
       ·simp only [Act.put,s0,s1,s2,i64_w,i32_w]
        rfl
       refine one_ (i:=1) (N:=some 33) #[true,true,true,false,false,false] rfl rfl (by kernel_rfl) (by decide) (fun K hK=>?_)
       refine goes_ Tryd.func12 (by kernel_rfl) rfl #[.agg #[.bool a0_0,.slice A0_1 l0_1.length c0_1,.slice A0_2 l0_2.length c0_2]] (by rfl) rfl rfl (by (try simp only [List.map_toArray,List.map_cons,List.map_nil]);first|done|rfl) ?_
       with_reducible refine (decimal_Print.calls kj2 a0_0 _ _ l0_1 _ _ l0_2 t914 _ ?side1 ?side2 ?side3 ?side4 A22.out).mono ?_
       (case side1=>repeat (first|exact (Kd.C_below HR0_1.out HB.out)|(with_reducible refine Kd.C_alloc ?_ _)|(with_reducible refine Kd.C_drewN ?_ _)|(with_reducible refine Kd.C_drew ?_)))
       (case side2=>exact HC0_1.out)
       (case side3=>repeat (first|exact (Kd.C_below HR0_2.out HB.out)|(with_reducible refine Kd.C_alloc ?_ _)|(with_reducible refine Kd.C_drewN ?_ _)|(with_reducible refine Kd.C_drew ?_)))
       (case side4=>exact HC0_2.out)
       rintro e w51 ⟨rfl,hb⟩
       refine ⟨_,rfl,?_⟩
       have n0_:=Aside0.mk (blk_below (g:=gb911) (o:=.cells #[.bool a0_0,.slice A0_1 l0_1.length c0_1,.slice A0_2 l0_2.length c0_2] 25 (0,0)) (Bu BK911.out) hb)
       have n1_:=Aside0.mk (blk_below (g:=gb912) (o:=.cells #[.bool a1_0,.slice A1_1 l1_1.length c1_1,.slice A1_2 l1_2.length c1_2] 25 (0,0)) (Bu BK912.out) hb)
       have n2_:=Aside0.mk (below_step (by repeat (first|with_reducible exact HB.out|apply ba|apply bn|apply b1|refine below_set ?_ GE911.out|refine below_set ?_ GE912.out)) hb)
       clear BK911
       clear BK912
       clear HB
       have BK911:=n0_
       have BK912:=n1_
       have HB:=n2_
       clear n0_ n1_ n2_
       (try clear hb)
       (try clear hb2)
       (try clear hk)
       (try clear hi)
       refine hK.out _ _ ⟨(blk_cell BK911.out 0).trans rfl,(blk_cell BK911.out 1).trans rfl,(blk_cell BK911.out 2).trans rfl,(blk_cell BK912.out 0).trans rfl,(blk_cell BK912.out 1).trans rfl,(blk_cell BK912.out 2).trans rfl⟩ (fun hHeld=>?_)
       clear hK K
       refine norm_ (a':=?_) ?_ ?_
       rotate_left
       ·show Act.put _ (some 33) _=_
        simp only [Act.put,s0,s1,s2,i64_w,i32_w]
        rfl
       refine one_ (i:=3) (N:=some 35) #[true,true,true,true,false,false] rfl rfl (by kernel_rfl) (by decide) (fun K hK=>?_)
       refine goes_ Tryd.func12 (by kernel_rfl) rfl #[.agg #[.bool a1_0,.slice A1_1 l1_1.length c1_1,.slice A1_2 l1_2.length c1_2]] (by rfl) rfl rfl (by (try simp only [List.map_toArray,List.map_cons,List.map_nil]);first|done|rfl) ?_
       with_reducible refine (decimal_Print.calls kj2 a1_0 _ _ l1_1 _ _ l1_2 t915 _ ?side1 ?side2 ?side3 ?side4 A23.out).mono ?_
       (case side1=>repeat (first|exact (Kd.C_below HR1_1.out HB.out)|(with_reducible refine Kd.C_alloc ?_ _)|(with_reducible refine Kd.C_drewN ?_ _)|(with_reducible refine Kd.C_drew ?_)))
       (case side2=>exact HC1_1.out)
       (case side3=>repeat (first|exact (Kd.C_below HR1_2.out HB.out)|(with_reducible refine Kd.C_alloc ?_ _)|(with_reducible refine Kd.C_drewN ?_ _)|(with_reducible refine Kd.C_drew ?_)))
       (case side4=>exact HC1_2.out)
       rintro e w52 ⟨rfl,hb⟩
       refine ⟨_,rfl,?_⟩
       have n0_:=Aside0.mk (blk_below (g:=gb911) (o:=.cells #[.bool a0_0,.slice A0_1 l0_1.length c0_1,.slice A0_2 l0_2.length c0_2] 25 (0,0)) (Bu BK911.out) hb)
       have n1_:=Aside0.mk (blk_below (g:=gb912) (o:=.cells #[.bool a1_0,.slice A1_1 l1_1.length c1_1,.slice A1_2 l1_2.length c1_2] 25 (0,0)) (Bu BK912.out) hb)
       have n2_:=Aside0.mk (below_step (by repeat (first|with_reducible exact HB.out|apply ba|apply bn|apply b1|refine below_set ?_ GE911.out|refine below_set ?_ GE912.out)) hb)
       clear BK911
       clear BK912
       clear HB
       have BK911:=n0_
       have BK912:=n1_
       have HB:=n2_
       clear n0_ n1_ n2_
       (try clear hb)
       (try clear hb2)
       (try clear hk)
       (try clear hi)
       refine hK.out _ _ ⟨(blk_cell BK911.out 0).trans rfl,(blk_cell BK911.out 1).trans rfl,(blk_cell BK911.out 2).trans rfl,(blk_cell BK912.out 0).trans rfl,(blk_cell BK912.out 1).trans rfl,(blk_cell BK912.out 2).trans rfl⟩ (fun hHeld=>?_)
       clear hK K
       refine norm_ (a':=?_) ?_ ?_
       rotate_left
       ·show Act.put _ (some 35) _=_
        simp only [Act.put,s0,s1,s2,i64_w,i32_w]
        rfl
       refine pure_ (i:=4) (N:=some 5) (v:=?_) (a':=?_) #[true,true,true,true,true,false] rfl rfl (by kernel_rfl) (fun _ _ _ h=>h) (Or.inl ⟨by rfl,?_⟩) ?_ ?_
       rotate_left
       ·intro w'
        go_simp
        with_reducible rfl
       rotate_left
       ·simp only [Act.put,s0,s1,s2,i64_w,i32_w]
        rfl
       refine pure_ (i:=5) (N:=some 6) (v:=?_) (a':=?_) #[true,true,true,true,true,true] rfl rfl (by kernel_rfl) (fun _ _ _ h=>h) (Or.inl ⟨by rfl,?_⟩) ?_ ?_
       rotate_left
       ·intro w'
        go_simp
        with_reducible rfl
       rotate_left
       ·simp only [Act.put,s0,s1,s2,i64_w,i32_w]
        rfl
       refine done_ (by kernel_rfl) ?_
       try go_wp2_with (first|((with_reducible refine gate_callee (f:=9) rfl ?_);refine goesL_ (some 38) rfl rfl Tryd.func9 (by kernel_rfl) rfl #[.string t914] rfl (by (try simp only [List.map_toArray,List.map_cons,List.map_nil]);first|done|rfl) ?_;(with_reducible refine (decimal_Parse.calls kj2 t914 t916 t917 t920 t923 _ A24.out).mono ?_);rintro e w53 ⟨v918,v921,rfl,ho0,ho1,hb⟩;refine ⟨_,rfl,?_⟩;have n0_:=Aside0.mk (Kd.R_lower ho0 (below_size (by repeat (first|with_reducible exact HB.out|apply ba|apply bn|apply b1|refine below_set ?_ GE911.out|refine below_set ?_ GE912.out))));have n1_:=Aside0.mk (Kd.R_lower ho1 (below_size (by repeat (first|with_reducible exact HB.out|apply ba|apply bn|apply b1|refine below_set ?_ GE911.out|refine below_set ?_ GE912.out))));have n2_:=Aside0.mk (blk_below (g:=gb911) (o:=.cells #[.bool a0_0,.slice A0_1 l0_1.length c0_1,.slice A0_2 l0_2.length c0_2] 25 (0,0)) (Bu BK911.out) hb);have n3_:=Aside0.mk (blk_below (g:=gb912) (o:=.cells #[.bool a1_0,.slice A1_1 l1_1.length c1_1,.slice A1_2 l1_2.length c1_2] 25 (0,0)) (Bu BK912.out) hb);have n4_:=Aside0.mk (below_step (by repeat (first|with_reducible exact HB.out|apply ba|apply bn|apply b1|refine below_set ?_ GE911.out|refine below_set ?_ GE912.out)) hb);clear BK911;clear BK912;clear HB;have HO919:=n0_;have HO922:=n1_;have BK911:=n2_;have BK912:=n3_;have HB:=n4_;clear n0_ n1_ n2_ n3_ n4_)|((with_reducible refine gate_dst (N:=7) rfl ?_);(try (refine gate_guard (by rfl) ?_;dsimp only));refine box_event ?hg (N:=7) ?hd (cs:=#[.bool false,.slice none 0 0,.slice none 0 0]) (t:=25) ?hr ?_;(case hd=>rfl);(case hg=>rfl);(case hr=>first|(go_simp;done)|(go_simp;(with_reducible rfl))|(go_simp;rfl)|(go_simp;simp only [hu,Int.emod_sub_emod]));intro gb924 hg w54 hbox hb;have n0_:=Aside0.mk (Kd.R_below (Ru HO919.out) hb);have n1_:=Aside0.mk (Kd.R_below (Ru HO922.out) hb);have n2_:=Aside0.mk (blk_below (g:=gb911) (o:=.cells #[.bool a0_0,.slice A0_1 l0_1.length c0_1,.slice A0_2 l0_2.length c0_2] 25 (0,0)) (Bu BK911.out) hb);have n3_:=Aside0.mk (blk_below (g:=gb912) (o:=.cells #[.bool a1_0,.slice A1_1 l1_1.length c1_1,.slice A1_2 l1_2.length c1_2] 25 (0,0)) (Bu BK912.out) hb);have n4_:=Aside0.mk (below_step (by repeat (first|with_reducible exact HB.out|apply ba|apply bn|apply b1|refine below_set ?_ GE911.out|refine below_set ?_ GE912.out)) hb);have n5_:=Aside0.mk (hbox);have n6_:=Aside0.mk ((by rw [hg];exact (below_size (by repeat (first|with_reducible exact HB.out|apply ba|apply bn|apply b1|refine below_set ?_ GE911.out|refine below_set ?_ GE912.out))) : w.heap.size≤gb924));have n7_:=Aside0.mk ((by rw [hg];exact (below_size (by repeat (first|with_reducible exact HB.out|apply ba|apply bn|apply b1|refine below_set ?_ GE911.out|refine below_set ?_ GE912.out))) : w.heap.size≤gb924));have n8_:=Aside0.mk ((by rw [hg];exact Nat.ne_of_lt (blk_lt (g:=gb911) (o:=.cells #[.bool a0_0,.slice A0_1 l0_1.length c0_1,.slice A0_2 l0_2.length c0_2] 25 (0,0)) (Bu BK911.out)) : gb911≠gb924));have n9_:=Aside0.mk ((by rw [hg];exact Nat.ne_of_gt (blk_lt (g:=gb911) (o:=.cells #[.bool a0_0,.slice A0_1 l0_1.length c0_1,.slice A0_2 l0_2.length c0_2] 25 (0,0)) (Bu BK911.out)) : gb924≠gb911));have n10_:=Aside0.mk ((by rw [hg];exact Nat.ne_of_lt (blk_lt (g:=gb912) (o:=.cells #[.bool a1_0,.slice A1_1 l1_1.length c1_1,.slice A1_2 l1_2.length c1_2] 25 (0,0)) (Bu BK912.out)) : gb912≠gb924));have n11_:=Aside0.mk ((by rw [hg];exact Nat.ne_of_gt (blk_lt (g:=gb912) (o:=.cells #[.bool a1_0,.slice A1_1 l1_1.length c1_1,.slice A1_2 l1_2.length c1_2] 25 (0,0)) (Bu BK912.out)) : gb924≠gb912));clear HO919;clear HO922;clear BK911;clear BK912;clear HB;have HO919:=n0_;have HO922:=n1_;have BK911:=n2_;have BK912:=n3_;have HB:=n4_;have BK924:=n5_;have GW924:=n6_;have GE924:=n7_;have NB911_924:=n8_;have NB924_911:=n9_;have NB912_924:=n10_;have NB924_912:=n11_;clear n0_ n1_ n2_ n3_ n4_ n5_ n6_ n7_ n8_ n9_ n10_ n11_;clear hb hbox hg;have hnb55:=NB924_911.out;have hnc55:=NB911_924.out;have hnb56:=NB924_912.out;have hnc56:=NB912_924.out;have hcz57_0 : w54.cell? ⟨gb924,0,none⟩=some (.bool false):=(blk_cell BK924.out 0).trans rfl;have hcz57_1 : w54.cell? ⟨gb924,1,none⟩=some (.slice none 0 0):=(blk_cell BK924.out 1).trans rfl;have hcz57_2 : w54.cell? ⟨gb924,2,none⟩=some (.slice none 0 0):=(blk_cell BK924.out 2).trans rfl;have hfz57_0:=blk_frozen BK924.out 0;have hfz57_1:=blk_frozen BK924.out 1;have hfz57_2:=blk_frozen BK924.out 2;obtain ⟨Ao58,co58,eo58⟩:=Kd.R_slice HO919.out;subst eo58;obtain ⟨Ao59,co59,eo59⟩:=Kd.R_slice HO922.out;subst eo59))
       have n0_ : Aside0 (Kd.R (Kd.int .u32) 35 (((w54.setCell ⟨gb924,0,none⟩ (.bool t916)).setCell ⟨gb924,1,none⟩ (.slice Ao58 t917.length co58)).setCell ⟨gb924,2,none⟩ (.slice Ao59 t920.length co59)) w.heap.size (fun k_=>some k_≠(.slice Ao59 t920.length co59 : Value).ownBlock) (.slice Ao58 t917.length co58) t917):=⟨by (with_reducible repeat (first|apply Ra|apply Rn|apply Rd));exact Kd.R_mono (Kd.R_far (p:=⟨gb924,2,none⟩) (Kd.R_far (p:=⟨gb924,1,none⟩) (Kd.R_far (p:=⟨gb924,0,none⟩) (Kd.R_types HO919.out BK924.out (by decide)) (fun _ hk=>hk.2) (.bool t916)) (fun _ hk=>hk.2) (.slice Ao58 t917.length co58)) (fun _ hk=>hk.2) (.slice Ao59 t920.length co59)) (fun _ hk=>hk.1)⟩
       have n1_ : Aside0 (Kd.R (Kd.int .u32) 35 (((w54.setCell ⟨gb924,0,none⟩ (.bool t916)).setCell ⟨gb924,1,none⟩ (.slice Ao58 t917.length co58)).setCell ⟨gb924,2,none⟩ (.slice Ao59 t920.length co59)) w.heap.size (fun k_=>some k_≠(.slice Ao58 t917.length co58 : Value).ownBlock) (.slice Ao59 t920.length co59) t920):=⟨by (with_reducible repeat (first|apply Ra|apply Rn|apply Rd));exact Kd.R_mono (Kd.R_far (p:=⟨gb924,2,none⟩) (Kd.R_far (p:=⟨gb924,1,none⟩) (Kd.R_far (p:=⟨gb924,0,none⟩) (Kd.R_types HO922.out BK924.out (by decide)) (fun _ hk=>hk.2) (.bool t916)) (fun _ hk=>hk.2) (.slice Ao58 t917.length co58)) (fun _ hk=>hk.2) (.slice Ao59 t920.length co59)) (fun _ hk=>hk.1)⟩
       have n2_ : Aside0 ((((w54.setCell ⟨gb924,0,none⟩ (.bool t916)).setCell ⟨gb924,1,none⟩ (.slice Ao58 t917.length co58)).setCell ⟨gb924,2,none⟩ (.slice Ao59 t920.length co59)).heap[gb911]? = some (.cells #[.bool a0_0,.slice A0_1 l0_1.length c0_1,.slice A0_2 l0_2.length c0_2] 25 (0,0))):=⟨by (with_reducible repeat (first|refine blk_drewN ?_ _|refine blk_drew ?_|refine blk_alloc ?_ _));refine blk_far ?_ NB911_924.out _;(with_reducible repeat (first|refine blk_drewN ?_ _|refine blk_drew ?_|refine blk_alloc ?_ _));refine blk_far ?_ NB911_924.out _;(with_reducible repeat (first|refine blk_drewN ?_ _|refine blk_drew ?_|refine blk_alloc ?_ _));refine blk_far ?_ NB911_924.out _;(with_reducible repeat (first|refine blk_drewN ?_ _|refine blk_drew ?_|refine blk_alloc ?_ _));exact BK911.out⟩
       have n3_ : Aside0 ((((w54.setCell ⟨gb924,0,none⟩ (.bool t916)).setCell ⟨gb924,1,none⟩ (.slice Ao58 t917.length co58)).setCell ⟨gb924,2,none⟩ (.slice Ao59 t920.length co59)).heap[gb912]? = some (.cells #[.bool a1_0,.slice A1_1 l1_1.length c1_1,.slice A1_2 l1_2.length c1_2] 25 (0,0))):=⟨by (with_reducible repeat (first|refine blk_drewN ?_ _|refine blk_drew ?_|refine blk_alloc ?_ _));refine blk_far ?_ NB912_924.out _;(with_reducible repeat (first|refine blk_drewN ?_ _|refine blk_drew ?_|refine blk_alloc ?_ _));refine blk_far ?_ NB912_924.out _;(with_reducible repeat (first|refine blk_drewN ?_ _|refine blk_drew ?_|refine blk_alloc ?_ _));refine blk_far ?_ NB912_924.out _;(with_reducible repeat (first|refine blk_drewN ?_ _|refine blk_drew ?_|refine blk_alloc ?_ _));exact BK912.out⟩
       have n4_ : Aside0 ((((w54.setCell ⟨gb924,0,none⟩ (.bool t916)).setCell ⟨gb924,1,none⟩ (.slice Ao58 t917.length co58)).setCell ⟨gb924,2,none⟩ (.slice Ao59 t920.length co59)).heap[gb924]? = some (.cells #[.bool t916,.slice Ao58 t917.length co58,.slice Ao59 t920.length co59] 25 (0,0))):=⟨by (with_reducible repeat (first|refine blk_drewN ?_ _|refine blk_drew ?_|refine blk_alloc ?_ _));refine blk_put (cs:=#[.bool t916,.slice Ao58 t917.length co58,.slice none 0 0]) ?_ 2 _ rfl;(with_reducible repeat (first|refine blk_drewN ?_ _|refine blk_drew ?_|refine blk_alloc ?_ _));refine blk_put (cs:=#[.bool t916,.slice none 0 0,.slice none 0 0]) ?_ 1 _ rfl;(with_reducible repeat (first|refine blk_drewN ?_ _|refine blk_drew ?_|refine blk_alloc ?_ _));refine blk_put (cs:=#[.bool false,.slice none 0 0,.slice none 0 0]) ?_ 0 _ rfl;(with_reducible repeat (first|refine blk_drewN ?_ _|refine blk_drew ?_|refine blk_alloc ?_ _));exact BK924.out⟩
       have n5_ : Aside0 (Below w.heap.size w (((w54.setCell ⟨gb924,0,none⟩ (.bool t916)).setCell ⟨gb924,1,none⟩ (.slice Ao58 t917.length co58)).setCell ⟨gb924,2,none⟩ (.slice Ao59 t920.length co59))):=⟨by repeat (first|with_reducible exact HB.out|apply ba|apply bn|apply b1|refine below_set ?_ GE911.out|refine below_set ?_ GE912.out|refine below_set ?_ GE924.out)⟩
       (try clear HO919)
       (try clear HO922)
       (try clear BK911)
       (try clear BK912)
       (try clear BK924)
       (try clear HB)
       generalize (((w54.setCell ⟨gb924,0,none⟩ (.bool t916)).setCell ⟨gb924,1,none⟩ (.slice Ao58 t917.length co58)).setCell ⟨gb924,2,none⟩ (.slice Ao59 t920.length co59))=w60 at n0_ n1_ n2_ n3_ n4_ n5_ ⊢
       have HO919:=n0_
       have HO922:=n1_
       have BK911:=n2_
       have BK912:=n3_
       have BK924:=n4_
       have HB:=n5_
       clear n0_ n1_ n2_ n3_ n4_ n5_
       have n0_:=Aside0.mk (Rd HO919.out)
       have n1_:=Aside0.mk (Rd HO922.out)
       have n2_:=Aside0.mk (blk_drew BK911.out)
       have n3_:=Aside0.mk (blk_drew BK912.out)
       have n4_:=Aside0.mk (blk_drew BK924.out)
       have n5_:=Aside0.mk (b1 HB.out)
       clear HO919
       clear HO922
       clear BK911
       clear BK912
       clear BK924
       clear HB
       have HO919:=n0_
       have HO922:=n1_
       have BK911:=n2_
       have BK912:=n3_
       have BK924:=n4_
       have HB:=n5_
       clear n0_ n1_ n2_ n3_ n4_ n5_
       refine start_ (n:=21) (S:=fun w'=>w'.cell? ⟨gb924,0,none⟩=some (.bool t916)∧w'.cell? ⟨gb924,1,none⟩=some (.slice Ao58 t917.length co58)∧w'.cell? ⟨gb924,2,none⟩=some (.slice Ao59 t920.length co59)∧w'.cell? ⟨gb911,0,none⟩=some (.bool a0_0)∧w'.cell? ⟨gb911,1,none⟩=some (.slice A0_1 l0_1.length c0_1)∧w'.cell? ⟨gb911,2,none⟩=some (.slice A0_2 l0_2.length c0_2)) (ds:=[]) #[false,false,false,false,false,false,false,false,false,false,false,false,false,false,false,false,false,false,false,false,false] (by kernel_rfl) rfl rfl ⟨(blk_cell BK924.out 0).trans rfl,(blk_cell BK924.out 1).trans rfl,(blk_cell BK924.out 2).trans rfl,(blk_cell BK911.out 0).trans rfl,(blk_cell BK911.out 1).trans rfl,(blk_cell BK911.out 2).trans rfl⟩ (fun hHeld=>?_);refine with_tabW penumbralaw04_DecimalBack.tab5 penumbralaw04_DecimalBack.bits5 (fun HT_ HW_=>?_)
       generalize w60.drew=w61 at HO919 HO922 BK911 BK912 BK924 HB hHeld ⊢
       refine one_ (i:=0) (N:=some 41) #[true,false,false,false,false,false,false,false,false,false,false,false,false,false,false,false,false,false,false,false,false] rfl rfl (one_of HT_.out (by kernel_rfl)) (by decide) (fun K hK=>?_)
       refine goes_ Tryd.func8 (by kernel_rfl) rfl #[] (by rfl) rfl rfl (by (try simp only [List.map_toArray,List.map_cons,List.map_nil]);first|done|rfl) ?_
       with_reducible refine (penumbralaw04_fixed.calls kj2  true _ A25.out).mono ?_
       rintro e w62 ⟨rfl,hb⟩
       refine ⟨_,rfl,?_⟩
       have n0_:=Aside0.mk (Kd.R_below (Ru HO919.out) hb)
       have n1_:=Aside0.mk (Kd.R_below (Ru HO922.out) hb)
       have n2_:=Aside0.mk (blk_below (g:=gb911) (o:=.cells #[.bool a0_0,.slice A0_1 l0_1.length c0_1,.slice A0_2 l0_2.length c0_2] 25 (0,0)) (Bu BK911.out) hb)
       have n3_:=Aside0.mk (blk_below (g:=gb912) (o:=.cells #[.bool a1_0,.slice A1_1 l1_1.length c1_1,.slice A1_2 l1_2.length c1_2] 25 (0,0)) (Bu BK912.out) hb)
       have n4_:=Aside0.mk (blk_below (g:=gb924) (o:=.cells #[.bool t916,.slice Ao58 t917.length co58,.slice Ao59 t920.length co59] 25 (0,0)) (Bu BK924.out) hb)
       have n5_:=Aside0.mk (below_step (by repeat (first|with_reducible exact HB.out|apply ba|apply bn|apply b1|refine below_set ?_ GE911.out|refine below_set ?_ GE912.out|refine below_set ?_ GE924.out)) hb)
       clear HO919
       clear HO922
       clear BK911
       clear BK912
       clear BK924
       clear HB
       have HO919:=n0_
       have HO922:=n1_
       have BK911:=n2_
       have BK912:=n3_
       have BK924:=n4_
       have HB:=n5_
       clear n0_ n1_ n2_ n3_ n4_ n5_
       (try clear hb)
       (try clear hb2)
       (try clear hk)
       (try clear hi)
       refine hK.out _ _ ⟨(blk_cell BK924.out 0).trans rfl,(blk_cell BK924.out 1).trans rfl,(blk_cell BK924.out 2).trans rfl,(blk_cell BK911.out 0).trans rfl,(blk_cell BK911.out 1).trans rfl,(blk_cell BK911.out 2).trans rfl⟩ (fun hHeld=>?_)
       clear hK K
       refine norm_ (a':=?_) ?_ ?_
       rotate_left
       ·show Act.put _ (some 41) _=_
        simp only [Act.put,s0,s1,s2,i64_w,i32_w]
        rfl
       refine pv (i:=1) (N:=some 42) (v:=?_) (a':=?_) rfl rfl (any_of HT_.out (by kernel_rfl)) (Or.inl ⟨by rfl,?_⟩) ?_ ?_
       rotate_left
       ·intro w'
        go_simp
        with_reducible rfl
       rotate_left
       ·simp only [Act.put,s0,s1,s2,i64_w,i32_w]
        rfl
       refine pv (i:=2) (N:=some 43) (v:=?_) (a':=?_) rfl rfl (any_of HT_.out (by kernel_rfl)) (Or.inl ⟨by rfl,?_⟩) ?_ ?_
       rotate_left
       ·intro w'
        go_simp
        with_reducible rfl
       rotate_left
       ·simp only [Act.put,s0,s1,s2,i64_w,i32_w]
        rfl
       refine pv (i:=3) (N:=some 44) (v:=?_) (a':=?_) rfl rfl (any_of HT_.out (by kernel_rfl)) (Or.inl ⟨by rfl,?_⟩) ?_ ?_
       rotate_left
       ·intro w'
        go_simp
        with_reducible rfl
       rotate_left
       ·simp only [Act.put,s0,s1,s2,i64_w,i32_w]
        rfl
       refine pv (i:=4) (N:=some 45) (v:=?_) (a':=?_) rfl rfl (any_of HT_.out (by kernel_rfl)) (Or.inl ⟨by rfl,?_⟩) ?_ ?_
       rotate_left
       ·intro w'
        go_simp
        with_reducible rfl
       rotate_left
       ·simp only [Act.put,s0,s1,s2,i64_w,i32_w]
        rfl
       refine pv (i:=5) (N:=some 46) (v:=?_) (a':=?_) rfl rfl (any_of HT_.out (by kernel_rfl)) (Or.inl ⟨by rfl,?_⟩) ?_ ?_
       rotate_left
       ·intro w'
        go_simp
        with_reducible rfl
       rotate_left
       ·simp only [Act.put,s0,s1,s2,i64_w,i32_w]
        rfl
       refine take_ (i:=6) (N:=some 47) (v:=?_) (a':=?_) #[true,true,true,true,true,true,true,false,false,false,false,false,false,false,false,false,false,false,false,false,false] rfl rfl (take_ofW HT_.out HW_.out (by kernel_rfl)) (fun _ _ _ h=>h) (Or.inl ⟨by rfl,?_⟩) hHeld ?_ ?_
       rotate_left
       ·rintro w' ⟨s0,s1,s2,s3,s4,s5⟩
        go_simp
        with_reducible rfl
       rotate_left
       ·simp only [Act.put,s0,s1,s2,i64_w,i32_w]
        rfl
       refine take_ (i:=7) (N:=some 48) (v:=?_) (a':=?_) #[true,true,true,true,true,true,true,true,false,false,false,false,false,false,false,false,false,false,false,false,false] rfl rfl (take_ofW HT_.out HW_.out (by kernel_rfl)) (fun _ _ _ h=>h) (Or.inl ⟨by rfl,?_⟩) hHeld ?_ ?_
       rotate_left
       ·rintro w' ⟨s0,s1,s2,s3,s4,s5⟩
        go_simp
        with_reducible rfl
       rotate_left
       ·simp only [Act.put,s0,s1,s2,i64_w,i32_w]
        rfl
       refine one_ (i:=8) (N:=some 49) #[true,true,true,true,true,true,true,true,true,false,false,false,false,false,false,false,false,false,false,false,false] rfl rfl (one_of HT_.out (by kernel_rfl)) (by decide) (fun K hK=>?_)
       refine goes_ Tryd.func18 (by kernel_rfl) rfl #[.agg #[.bool a0_0,.slice A0_1 l0_1.length c0_1,.slice A0_2 l0_2.length c0_2]] (by rfl) rfl rfl (by (try simp only [List.map_toArray,List.map_cons,List.map_nil]);first|done|rfl) ?_
       with_reducible refine (rat_Read.calls kj2 a0_0 _ _ l0_1 _ _ l0_2 t926 t927 t930 _ ?side1 ?side2 ?side3 ?side4 A28.out).mono ?_
       (case side1=>repeat (first|exact (Kd.C_below HR0_1.out HB.out)|(with_reducible refine Kd.C_alloc ?_ _)|(with_reducible refine Kd.C_drewN ?_ _)|(with_reducible refine Kd.C_drew ?_)))
       (case side2=>exact HC0_1.out)
       (case side3=>repeat (first|exact (Kd.C_below HR0_2.out HB.out)|(with_reducible refine Kd.C_alloc ?_ _)|(with_reducible refine Kd.C_drewN ?_ _)|(with_reducible refine Kd.C_drew ?_)))
       (case side4=>exact HC0_2.out)
       rintro e w63 ⟨v928,v931,rfl,ho0,ho1,hb⟩
       refine ⟨_,rfl,?_⟩
       have n0_:=Aside0.mk (Kd.R_mono (Kd.R_told (Kd.R_told (Kd.R_old (Ru HO919.out) hb) (Kd.R_base ho0)) (Kd.R_base ho1)) (fun _ h_=>h_.1))
       have n1_:=Aside0.mk (Kd.R_mono (Kd.R_told (Kd.R_told (Kd.R_old (Ru HO922.out) hb) (Kd.R_base ho0)) (Kd.R_base ho1)) (fun _ h_=>h_.1))
       have n2_:=Aside0.mk (Kd.R_lower (Kd.R_new' (Kd.R_new' ho0 (Kd.R_lt (Ru HO919.out))) (Kd.R_lt (Ru HO922.out))) (below_size (by repeat (first|with_reducible exact HB.out|apply ba|apply bn|apply b1|refine below_set ?_ GE911.out|refine below_set ?_ GE912.out|refine below_set ?_ GE924.out))))
       have n3_:=Aside0.mk (Kd.R_lower (Kd.R_new' (Kd.R_new' ho1 (Kd.R_lt (Ru HO919.out))) (Kd.R_lt (Ru HO922.out))) (below_size (by repeat (first|with_reducible exact HB.out|apply ba|apply bn|apply b1|refine below_set ?_ GE911.out|refine below_set ?_ GE912.out|refine below_set ?_ GE924.out))))
       have n4_:=Aside0.mk (blk_below (g:=gb911) (o:=.cells #[.bool a0_0,.slice A0_1 l0_1.length c0_1,.slice A0_2 l0_2.length c0_2] 25 (0,0)) (Bu BK911.out) hb)
       have n5_:=Aside0.mk (blk_below (g:=gb912) (o:=.cells #[.bool a1_0,.slice A1_1 l1_1.length c1_1,.slice A1_2 l1_2.length c1_2] 25 (0,0)) (Bu BK912.out) hb)
       have n6_:=Aside0.mk (blk_below (g:=gb924) (o:=.cells #[.bool t916,.slice Ao58 t917.length co58,.slice Ao59 t920.length co59] 25 (0,0)) (Bu BK924.out) hb)
       have n7_:=Aside0.mk (below_step (by repeat (first|with_reducible exact HB.out|apply ba|apply bn|apply b1|refine below_set ?_ GE911.out|refine below_set ?_ GE912.out|refine below_set ?_ GE924.out)) hb)
       clear HO919
       clear HO922
       clear BK911
       clear BK912
       clear BK924
       clear HB
       have HO919:=n0_
       have HO922:=n1_
       have HO929:=n2_
       have HO932:=n3_
       have BK911:=n4_
       have BK912:=n5_
       have BK924:=n6_
       have HB:=n7_
       clear n0_ n1_ n2_ n3_ n4_ n5_ n6_ n7_
       (try clear hb)
       (try clear hb2)
       (try clear hk)
       (try clear hi)
       (try clear ho0)
       (try clear ho1)
       obtain ⟨Ao64,co64,eo64⟩:=Kd.R_slice HO929.out
       (first|subst eo64|(injection eo64 with f1_ f2_ f3_;have f4_:=f1_.symm;have f5_:=f3_.symm;clear f1_ f2_ f3_;subst f4_;subst f5_))
       obtain ⟨Ao65,co65,eo65⟩:=Kd.R_slice HO932.out
       (first|subst eo65|(injection eo65 with f1_ f2_ f3_;have f4_:=f1_.symm;have f5_:=f3_.symm;clear f1_ f2_ f3_;subst f4_;subst f5_))
       refine hK.out _ _ ⟨(blk_cell BK924.out 0).trans rfl,(blk_cell BK924.out 1).trans rfl,(blk_cell BK924.out 2).trans rfl,(blk_cell BK911.out 0).trans rfl,(blk_cell BK911.out 1).trans rfl,(blk_cell BK911.out 2).trans rfl⟩ (fun hHeld=>?_)
       clear hK K
       refine norm_ (a':=?_) ?_ ?_
       rotate_left
       ·show Act.put _ (some 49) _=_
        simp only [Act.put,s0,s1,s2,i64_w,i32_w]
        rfl
       refine one_ (i:=9) (N:=some 50) #[true,true,true,true,true,true,true,true,true,true,false,false,false,false,false,false,false,false,false,false,false] rfl rfl (one_of HT_.out (by kernel_rfl)) (by decide) (fun K hK=>?_)
       refine goes_ Tryd.func11 (by kernel_rfl) rfl #[.agg #[.bool t916,.slice Ao58 t917.length co58,.slice Ao59 t920.length co59],.agg #[.bool t926,.slice Ao64 t927.length co64,.slice Ao65 t930.length co65]] (by rfl) rfl rfl (by (try simp only [List.map_toArray,List.map_cons,List.map_nil]);first|done|rfl) ?_
       with_reducible refine (penumbraref03_Is.calls kj2 t916 _ _ t917 _ _ t920 t926 _ _ t927 _ _ t930 false _ ?side1 ?side2 ?side3 ?side4 ?side5 ?side6 ?side7 ?side8 A29.out).mono ?_
       (case side1=>exact Cu (Kd.R_reads' HO919.out).2.2)
       (case side2=>exact (Kd.R_reads' HO919.out).2.1)
       (case side3=>exact Cu (Kd.R_reads' HO922.out).2.2)
       (case side4=>exact (Kd.R_reads' HO922.out).2.1)
       (case side5=>exact Cu (Kd.R_reads' HO929.out).2.2)
       (case side6=>exact (Kd.R_reads' HO929.out).2.1)
       (case side7=>exact Cu (Kd.R_reads' HO932.out).2.2)
       (case side8=>exact (Kd.R_reads' HO932.out).2.1)
       rintro e w66 ⟨rfl,hb⟩
       refine ⟨_,rfl,?_⟩
       have n0_:=Aside0.mk (Kd.R_below (Ru HO919.out) hb)
       have n1_:=Aside0.mk (Kd.R_below (Ru HO922.out) hb)
       have n2_:=Aside0.mk (Kd.R_below (Ru HO929.out) hb)
       have n3_:=Aside0.mk (Kd.R_below (Ru HO932.out) hb)
       have n4_:=Aside0.mk (blk_below (g:=gb911) (o:=.cells #[.bool a0_0,.slice A0_1 l0_1.length c0_1,.slice A0_2 l0_2.length c0_2] 25 (0,0)) (Bu BK911.out) hb)
       have n5_:=Aside0.mk (blk_below (g:=gb912) (o:=.cells #[.bool a1_0,.slice A1_1 l1_1.length c1_1,.slice A1_2 l1_2.length c1_2] 25 (0,0)) (Bu BK912.out) hb)
       have n6_:=Aside0.mk (blk_below (g:=gb924) (o:=.cells #[.bool t916,.slice Ao58 t917.length co58,.slice Ao59 t920.length co59] 25 (0,0)) (Bu BK924.out) hb)
       have n7_:=Aside0.mk (below_step (by repeat (first|with_reducible exact HB.out|apply ba|apply bn|apply b1|refine below_set ?_ GE911.out|refine below_set ?_ GE912.out|refine below_set ?_ GE924.out)) hb)
       clear HO919
       clear HO922
       clear HO929
       clear HO932
       clear BK911
       clear BK912
       clear BK924
       clear HB
       have HO919:=n0_
       have HO922:=n1_
       have HO929:=n2_
       have HO932:=n3_
       have BK911:=n4_
       have BK912:=n5_
       have BK924:=n6_
       have HB:=n7_
       clear n0_ n1_ n2_ n3_ n4_ n5_ n6_ n7_
       (try clear hb)
       (try clear hb2)
       (try clear hk)
       (try clear hi)
       refine hK.out _ _ ⟨(blk_cell BK924.out 0).trans rfl,(blk_cell BK924.out 1).trans rfl,(blk_cell BK924.out 2).trans rfl,(blk_cell BK911.out 0).trans rfl,(blk_cell BK911.out 1).trans rfl,(blk_cell BK911.out 2).trans rfl⟩ (fun hHeld=>?_)
       clear hK K
       refine norm_ (a':=?_) ?_ ?_
       rotate_left
       ·show Act.put _ (some 50) _=_
        simp only [Act.put,s0,s1,s2,i64_w,i32_w]
        rfl
       refine pv (i:=10) (N:=some 51) (v:=?_) (a':=?_) rfl rfl (any_of HT_.out (by kernel_rfl)) (Or.inl ⟨by rfl,?_⟩) ?_ ?_
       rotate_left
       ·intro w'
        go_simp
        with_reducible rfl
       rotate_left
       ·simp only [Act.put,s0,s1,s2,i64_w,i32_w]
        rfl
       refine pv (i:=11) (N:=some 52) (v:=?_) (a':=?_) rfl rfl (any_of HT_.out (by kernel_rfl)) (Or.inl ⟨by rfl,?_⟩) ?_ ?_
       rotate_left
       ·intro w'
        go_simp
        with_reducible rfl
       rotate_left
       ·simp only [Act.put,s0,s1,s2,i64_w,i32_w]
        rfl
       refine pv (i:=12) (N:=some 53) (v:=undef) (a':=?_) rfl rfl (any_of HT_.out (by kernel_rfl)) (Or.inr ⟨by rfl,rfl⟩) ?_ ?_
       rotate_left
       ·simp only [Act.put,s0,s1,s2,i64_w,i32_w]
        rfl
       refine pv (i:=13) (N:=some 54) (v:=undef) (a':=?_) rfl rfl (any_of HT_.out (by kernel_rfl)) (Or.inr ⟨by rfl,rfl⟩) ?_ ?_
       rotate_left
       ·simp only [Act.put,s0,s1,s2,i64_w,i32_w]
        rfl
       refine pv (i:=14) (N:=some 55) (v:=undef) (a':=?_) rfl rfl (any_of HT_.out (by kernel_rfl)) (Or.inr ⟨by rfl,rfl⟩) ?_ ?_
       rotate_left
       ·simp only [Act.put,s0,s1,s2,i64_w,i32_w]
        rfl
       refine pv (i:=15) (N:=some 56) (v:=undef) (a':=?_) rfl rfl (any_of HT_.out (by kernel_rfl)) (Or.inr ⟨by rfl,rfl⟩) ?_ ?_
       rotate_left
       ·simp only [Act.put,s0,s1,s2,i64_w,i32_w]
        rfl
       refine pv (i:=16) (N:=some 57) (v:=undef) (a':=?_) rfl rfl (any_of HT_.out (by kernel_rfl)) (Or.inr ⟨by rfl,rfl⟩) ?_ ?_
       rotate_left
       ·simp only [Act.put,s0,s1,s2,i64_w,i32_w]
        rfl
       refine pv (i:=17) (N:=some 58) (v:=undef) (a':=?_) rfl rfl (any_of HT_.out (by kernel_rfl)) (Or.inr ⟨by rfl,rfl⟩) ?_ ?_
       rotate_left
       ·simp only [Act.put,s0,s1,s2,i64_w,i32_w]
        rfl
       refine pv (i:=18) (N:=some 59) (v:=undef) (a':=?_) rfl rfl (any_of HT_.out (by kernel_rfl)) (Or.inr ⟨by rfl,rfl⟩) ?_ ?_
       rotate_left
       ·simp only [Act.put,s0,s1,s2,i64_w,i32_w]
        rfl
       refine pv (i:=19) (N:=some 60) (v:=?_) (a':=?_) rfl rfl (any_of HT_.out (by kernel_rfl)) (Or.inl ⟨by rfl,?_⟩) ?_ ?_
       rotate_left
       ·intro w'
        go_simp
        with_reducible rfl
       rotate_left
       ·simp only [Act.put,s0,s1,s2,i64_w,i32_w]
        rfl
       refine pv (i:=20) (N:=some 4) (v:=?_) (a':=?_) rfl rfl (any_of HT_.out (by kernel_rfl)) (Or.inl ⟨by rfl,?_⟩) ?_ ?_
       rotate_left
       ·intro w'
        go_simp
        with_reducible rfl
       rotate_left
       ·simp only [Act.put,s0,s1,s2,i64_w,i32_w]
        rfl
       refine done_ (done_of HT_.out (by kernel_rfl)) ?_
       try go_wp2
       go_ret
       exact ⟨by first|rfl|(simp [errW_none,errW_some] <;> rfl)|(simp [*,errW_none,errW_some] <;> rfl),by repeat (first|with_reducible exact HB.out|apply ba|apply bn|apply b1|refine below_set ?_ GE911.out|refine below_set ?_ GE912.out|refine below_set ?_ GE924.out)⟩
     ·rw [if_neg c27] at H
      have c27b0 : (t923 == 0)=false:=beq_eq_false_iff_ne.mpr c27
      have c27b1 : (t923 != 0)=true:=bne_iff_ne.mpr c27
      obtain rfl:=Option.some.inj H
      try go_wp2
      have n0_:=Aside0.mk (blk_drew BK911.out)
      have n1_:=Aside0.mk (blk_drew BK912.out)
      have n2_:=Aside0.mk (b1 HB.out)
      clear BK911
      clear BK912
      clear HB
      have BK911:=n0_
      have BK912:=n1_
      have HB:=n2_
      clear n0_ n1_ n2_
      refine start_ (n:=6) (S:=fun w'=>w'.cell? ⟨gb911,0,none⟩=some (.bool a0_0)∧w'.cell? ⟨gb911,1,none⟩=some (.slice A0_1 l0_1.length c0_1)∧w'.cell? ⟨gb911,2,none⟩=some (.slice A0_2 l0_2.length c0_2)∧w'.cell? ⟨gb912,0,none⟩=some (.bool a1_0)∧w'.cell? ⟨gb912,1,none⟩=some (.slice A1_1 l1_1.length c1_1)∧w'.cell? ⟨gb912,2,none⟩=some (.slice A1_2 l1_2.length c1_2)) (ds:=[]) #[false,false,false,false,false,false] (by kernel_rfl) rfl rfl ⟨(blk_cell BK911.out 0).trans rfl,(blk_cell BK911.out 1).trans rfl,(blk_cell BK911.out 2).trans rfl,(blk_cell BK912.out 0).trans rfl,(blk_cell BK912.out 1).trans rfl,(blk_cell BK912.out 2).trans rfl⟩ (fun hHeld=>?_)
      generalize wc.drew=w67 at BK911 BK912 HB hHeld ⊢
      refine take_ (i:=0) (N:=some 32) (v:=?_) (a':=?_) #[true,false,false,false,false,false] rfl rfl (by kernel_rfl) (fun _ _ _ h=>h) (Or.inl ⟨by rfl,?_⟩) hHeld ?_ ?_
      rotate_left
      ·rintro w' ⟨s0,s1,s2,s3,s4,s5⟩
       go_simp
       with_reducible rfl
      rotate_left
      ·simp only [Act.put,s0,s1,s2,i64_w,i32_w]
       rfl
      refine take_ (i:=2) (N:=some 34) (v:=?_) (a':=?_) #[true,false,true,false,false,false] rfl rfl (by kernel_rfl) (fun _ _ _ h=>h) (Or.inl ⟨by rfl,?_⟩) hHeld ?_ ?_
      rotate_left
      ·rintro w' ⟨s0,s1,s2,s3,s4,s5⟩
       go_simp
       with_reducible rfl
      rotate_left
      ·simp only [Act.put,s0,s1,s2,i64_w,i32_w]
       rfl
      refine one_ (i:=1) (N:=some 33) #[true,true,true,false,false,false] rfl rfl (by kernel_rfl) (by decide) (fun K hK=>?_)
      refine goes_ Tryd.func12 (by kernel_rfl) rfl #[.agg #[.bool a0_0,.slice A0_1 l0_1.length c0_1,.slice A0_2 l0_2.length c0_2]] (by rfl) rfl rfl (by (try simp only [List.map_toArray,List.map_cons,List.map_nil]);first|done|rfl) ?_
      with_reducible refine (decimal_Print.calls kj2 a0_0 _ _ l0_1 _ _ l0_2 t914 _ ?side1 ?side2 ?side3 ?side4 A22.out).mono ?_
      (case side1=>repeat (first|exact (Kd.C_below HR0_1.out HB.out)|(with_reducible refine Kd.C_alloc ?_ _)|(with_reducible refine Kd.C_drewN ?_ _)|(with_reducible refine Kd.C_drew ?_)))
      (case side2=>exact HC0_1.out)
      (case side3=>repeat (first|exact (Kd.C_below HR0_2.out HB.out)|(with_reducible refine Kd.C_alloc ?_ _)|(with_reducible refine Kd.C_drewN ?_ _)|(with_reducible refine Kd.C_drew ?_)))
      (case side4=>exact HC0_2.out)
      rintro e w68 ⟨rfl,hb⟩
      refine ⟨_,rfl,?_⟩
      have n0_:=Aside0.mk (blk_below (g:=gb911) (o:=.cells #[.bool a0_0,.slice A0_1 l0_1.length c0_1,.slice A0_2 l0_2.length c0_2] 25 (0,0)) (Bu BK911.out) hb)
      have n1_:=Aside0.mk (blk_below (g:=gb912) (o:=.cells #[.bool a1_0,.slice A1_1 l1_1.length c1_1,.slice A1_2 l1_2.length c1_2] 25 (0,0)) (Bu BK912.out) hb)
      have n2_:=Aside0.mk (below_step (by repeat (first|with_reducible exact HB.out|apply ba|apply bn|apply b1|refine below_set ?_ GE911.out|refine below_set ?_ GE912.out)) hb)
      clear BK911
      clear BK912
      clear HB
      have BK911:=n0_
      have BK912:=n1_
      have HB:=n2_
      clear n0_ n1_ n2_
      (try clear hb)
      (try clear hb2)
      (try clear hk)
      (try clear hi)
      refine hK.out _ _ ⟨(blk_cell BK911.out 0).trans rfl,(blk_cell BK911.out 1).trans rfl,(blk_cell BK911.out 2).trans rfl,(blk_cell BK912.out 0).trans rfl,(blk_cell BK912.out 1).trans rfl,(blk_cell BK912.out 2).trans rfl⟩ (fun hHeld=>?_)
      clear hK K
      refine norm_ (a':=?_) ?_ ?_
      rotate_left
      ·show Act.put _ (some 33) _=_
       simp only [Act.put,s0,s1,s2,i64_w,i32_w]
       rfl
      refine one_ (i:=3) (N:=some 35) #[true,true,true,true,false,false] rfl rfl (by kernel_rfl) (by decide) (fun K hK=>?_)
      refine goes_ Tryd.func12 (by kernel_rfl) rfl #[.agg #[.bool a1_0,.slice A1_1 l1_1.length c1_1,.slice A1_2 l1_2.length c1_2]] (by rfl) rfl rfl (by (try simp only [List.map_toArray,List.map_cons,List.map_nil]);first|done|rfl) ?_
      with_reducible refine (decimal_Print.calls kj2 a1_0 _ _ l1_1 _ _ l1_2 t915 _ ?side1 ?side2 ?side3 ?side4 A23.out).mono ?_
      (case side1=>repeat (first|exact (Kd.C_below HR1_1.out HB.out)|(with_reducible refine Kd.C_alloc ?_ _)|(with_reducible refine Kd.C_drewN ?_ _)|(with_reducible refine Kd.C_drew ?_)))
      (case side2=>exact HC1_1.out)
      (case side3=>repeat (first|exact (Kd.C_below HR1_2.out HB.out)|(with_reducible refine Kd.C_alloc ?_ _)|(with_reducible refine Kd.C_drewN ?_ _)|(with_reducible refine Kd.C_drew ?_)))
      (case side4=>exact HC1_2.out)
      rintro e w69 ⟨rfl,hb⟩
      refine ⟨_,rfl,?_⟩
      have n0_:=Aside0.mk (blk_below (g:=gb911) (o:=.cells #[.bool a0_0,.slice A0_1 l0_1.length c0_1,.slice A0_2 l0_2.length c0_2] 25 (0,0)) (Bu BK911.out) hb)
      have n1_:=Aside0.mk (blk_below (g:=gb912) (o:=.cells #[.bool a1_0,.slice A1_1 l1_1.length c1_1,.slice A1_2 l1_2.length c1_2] 25 (0,0)) (Bu BK912.out) hb)
      have n2_:=Aside0.mk (below_step (by repeat (first|with_reducible exact HB.out|apply ba|apply bn|apply b1|refine below_set ?_ GE911.out|refine below_set ?_ GE912.out)) hb)
      clear BK911
      clear BK912
      clear HB
      have BK911:=n0_
      have BK912:=n1_
      have HB:=n2_
      clear n0_ n1_ n2_
      (try clear hb)
      (try clear hb2)
      (try clear hk)
      (try clear hi)
      refine hK.out _ _ ⟨(blk_cell BK911.out 0).trans rfl,(blk_cell BK911.out 1).trans rfl,(blk_cell BK911.out 2).trans rfl,(blk_cell BK912.out 0).trans rfl,(blk_cell BK912.out 1).trans rfl,(blk_cell BK912.out 2).trans rfl⟩ (fun hHeld=>?_)
      clear hK K
      refine norm_ (a':=?_) ?_ ?_
      rotate_left
      ·show Act.put _ (some 35) _=_
       simp only [Act.put,s0,s1,s2,i64_w,i32_w]
       rfl
      refine pure_ (i:=4) (N:=some 5) (v:=?_) (a':=?_) #[true,true,true,true,true,false] rfl rfl (by kernel_rfl) (fun _ _ _ h=>h) (Or.inl ⟨by rfl,?_⟩) ?_ ?_
      rotate_left
      ·intro w'
       go_simp
       with_reducible rfl
      rotate_left
      ·simp only [Act.put,s0,s1,s2,i64_w,i32_w]
       rfl
      refine pure_ (i:=5) (N:=some 6) (v:=?_) (a':=?_) #[true,true,true,true,true,true] rfl rfl (by kernel_rfl) (fun _ _ _ h=>h) (Or.inl ⟨by rfl,?_⟩) ?_ ?_
      rotate_left
      ·intro w'
       go_simp
       with_reducible rfl
      rotate_left
      ·simp only [Act.put,s0,s1,s2,i64_w,i32_w]
       rfl
      refine done_ (by kernel_rfl) ?_
      try go_wp2_with (first|((with_reducible refine gate_callee (f:=9) rfl ?_);refine goesL_ (some 38) rfl rfl Tryd.func9 (by kernel_rfl) rfl #[.string t914] rfl (by (try simp only [List.map_toArray,List.map_cons,List.map_nil]);first|done|rfl) ?_;(with_reducible refine (decimal_Parse.calls kj2 t914 t916 t917 t920 t923 _ A24.out).mono ?_);rintro e w70 ⟨v918,v921,rfl,ho0,ho1,hb⟩;refine ⟨_,rfl,?_⟩;have n0_:=Aside0.mk (Kd.R_lower ho0 (below_size (by repeat (first|with_reducible exact HB.out|apply ba|apply bn|apply b1|refine below_set ?_ GE911.out|refine below_set ?_ GE912.out))));have n1_:=Aside0.mk (Kd.R_lower ho1 (below_size (by repeat (first|with_reducible exact HB.out|apply ba|apply bn|apply b1|refine below_set ?_ GE911.out|refine below_set ?_ GE912.out))));have n2_:=Aside0.mk (blk_below (g:=gb911) (o:=.cells #[.bool a0_0,.slice A0_1 l0_1.length c0_1,.slice A0_2 l0_2.length c0_2] 25 (0,0)) (Bu BK911.out) hb);have n3_:=Aside0.mk (blk_below (g:=gb912) (o:=.cells #[.bool a1_0,.slice A1_1 l1_1.length c1_1,.slice A1_2 l1_2.length c1_2] 25 (0,0)) (Bu BK912.out) hb);have n4_:=Aside0.mk (below_step (by repeat (first|with_reducible exact HB.out|apply ba|apply bn|apply b1|refine below_set ?_ GE911.out|refine below_set ?_ GE912.out)) hb);clear BK911;clear BK912;clear HB;have HO919:=n0_;have HO922:=n1_;have BK911:=n2_;have BK912:=n3_;have HB:=n4_;clear n0_ n1_ n2_ n3_ n4_)|((with_reducible refine gate_dst (N:=7) rfl ?_);(try (refine gate_guard (by rfl) ?_;dsimp only));refine box_event ?hg (N:=7) ?hd (cs:=#[.bool false,.slice none 0 0,.slice none 0 0]) (t:=25) ?hr ?_;(case hd=>rfl);(case hg=>rfl);(case hr=>first|(go_simp;done)|(go_simp;(with_reducible rfl))|(go_simp;rfl)|(go_simp;simp only [hu,Int.emod_sub_emod]));intro gb924 hg w71 hbox hb;have n0_:=Aside0.mk (Kd.R_below (Ru HO919.out) hb);have n1_:=Aside0.mk (Kd.R_below (Ru HO922.out) hb);have n2_:=Aside0.mk (blk_below (g:=gb911) (o:=.cells #[.bool a0_0,.slice A0_1 l0_1.length c0_1,.slice A0_2 l0_2.length c0_2] 25 (0,0)) (Bu BK911.out) hb);have n3_:=Aside0.mk (blk_below (g:=gb912) (o:=.cells #[.bool a1_0,.slice A1_1 l1_1.length c1_1,.slice A1_2 l1_2.length c1_2] 25 (0,0)) (Bu BK912.out) hb);have n4_:=Aside0.mk (below_step (by repeat (first|with_reducible exact HB.out|apply ba|apply bn|apply b1|refine below_set ?_ GE911.out|refine below_set ?_ GE912.out)) hb);have n5_:=Aside0.mk (hbox);have n6_:=Aside0.mk ((by rw [hg];exact (below_size (by repeat (first|with_reducible exact HB.out|apply ba|apply bn|apply b1|refine below_set ?_ GE911.out|refine below_set ?_ GE912.out))) : w.heap.size≤gb924));have n7_:=Aside0.mk ((by rw [hg];exact (below_size (by repeat (first|with_reducible exact HB.out|apply ba|apply bn|apply b1|refine below_set ?_ GE911.out|refine below_set ?_ GE912.out))) : w.heap.size≤gb924));have n8_:=Aside0.mk ((by rw [hg];exact Nat.ne_of_lt (blk_lt (g:=gb911) (o:=.cells #[.bool a0_0,.slice A0_1 l0_1.length c0_1,.slice A0_2 l0_2.length c0_2] 25 (0,0)) (Bu BK911.out)) : gb911≠gb924));have n9_:=Aside0.mk ((by rw [hg];exact Nat.ne_of_gt (blk_lt (g:=gb911) (o:=.cells #[.bool a0_0,.slice A0_1 l0_1.length c0_1,.slice A0_2 l0_2.length c0_2] 25 (0,0)) (Bu BK911.out)) : gb924≠gb911));have n10_:=Aside0.mk ((by rw [hg];exact Nat.ne_of_lt (blk_lt (g:=gb912) (o:=.cells #[.bool a1_0,.slice A1_1 l1_1.length c1_1,.slice A1_2 l1_2.length c1_2] 25 (0,0)) (Bu BK912.out)) : gb912≠gb924));have n11_:=Aside0.mk ((by rw [hg];exact Nat.ne_of_gt (blk_lt (g:=gb912) (o:=.cells #[.bool a1_0,.slice A1_1 l1_1.length c1_1,.slice A1_2 l1_2.length c1_2] 25 (0,0)) (Bu BK912.out)) : gb924≠gb912));clear HO919;clear HO922;clear BK911;clear BK912;clear HB;have HO919:=n0_;have HO922:=n1_;have BK911:=n2_;have BK912:=n3_;have HB:=n4_;have BK924:=n5_;have GW924:=n6_;have GE924:=n7_;have NB911_924:=n8_;have NB924_911:=n9_;have NB912_924:=n10_;have NB924_912:=n11_;clear n0_ n1_ n2_ n3_ n4_ n5_ n6_ n7_ n8_ n9_ n10_ n11_;clear hb hbox hg;have hnb72:=NB924_911.out;have hnc72:=NB911_924.out;have hnb73:=NB924_912.out;have hnc73:=NB912_924.out;have hcz74_0 : w71.cell? ⟨gb924,0,none⟩=some (.bool false):=(blk_cell BK924.out 0).trans rfl;have hcz74_1 : w71.cell? ⟨gb924,1,none⟩=some (.slice none 0 0):=(blk_cell BK924.out 1).trans rfl;have hcz74_2 : w71.cell? ⟨gb924,2,none⟩=some (.slice none 0 0):=(blk_cell BK924.out 2).trans rfl;have hfz74_0:=blk_frozen BK924.out 0;have hfz74_1:=blk_frozen BK924.out 1;have hfz74_2:=blk_frozen BK924.out 2;obtain ⟨Ao75,co75,eo75⟩:=Kd.R_slice HO919.out;subst eo75;obtain ⟨Ao76,co76,eo76⟩:=Kd.R_slice HO922.out;subst eo76))
      have n0_ : Aside0 (Kd.R (Kd.int .u32) 35 (((w71.setCell ⟨gb924,0,none⟩ (.bool t916)).setCell ⟨gb924,1,none⟩ (.slice Ao75 t917.length co75)).setCell ⟨gb924,2,none⟩ (.slice Ao76 t920.length co76)) w.heap.size (fun k_=>some k_≠(.slice Ao76 t920.length co76 : Value).ownBlock) (.slice Ao75 t917.length co75) t917):=⟨by (with_reducible repeat (first|apply Ra|apply Rn|apply Rd));exact Kd.R_mono (Kd.R_far (p:=⟨gb924,2,none⟩) (Kd.R_far (p:=⟨gb924,1,none⟩) (Kd.R_far (p:=⟨gb924,0,none⟩) (Kd.R_types HO919.out BK924.out (by decide)) (fun _ hk=>hk.2) (.bool t916)) (fun _ hk=>hk.2) (.slice Ao75 t917.length co75)) (fun _ hk=>hk.2) (.slice Ao76 t920.length co76)) (fun _ hk=>hk.1)⟩
      have n1_ : Aside0 (Kd.R (Kd.int .u32) 35 (((w71.setCell ⟨gb924,0,none⟩ (.bool t916)).setCell ⟨gb924,1,none⟩ (.slice Ao75 t917.length co75)).setCell ⟨gb924,2,none⟩ (.slice Ao76 t920.length co76)) w.heap.size (fun k_=>some k_≠(.slice Ao75 t917.length co75 : Value).ownBlock) (.slice Ao76 t920.length co76) t920):=⟨by (with_reducible repeat (first|apply Ra|apply Rn|apply Rd));exact Kd.R_mono (Kd.R_far (p:=⟨gb924,2,none⟩) (Kd.R_far (p:=⟨gb924,1,none⟩) (Kd.R_far (p:=⟨gb924,0,none⟩) (Kd.R_types HO922.out BK924.out (by decide)) (fun _ hk=>hk.2) (.bool t916)) (fun _ hk=>hk.2) (.slice Ao75 t917.length co75)) (fun _ hk=>hk.2) (.slice Ao76 t920.length co76)) (fun _ hk=>hk.1)⟩
      have n2_ : Aside0 ((((w71.setCell ⟨gb924,0,none⟩ (.bool t916)).setCell ⟨gb924,1,none⟩ (.slice Ao75 t917.length co75)).setCell ⟨gb924,2,none⟩ (.slice Ao76 t920.length co76)).heap[gb911]? = some (.cells #[.bool a0_0,.slice A0_1 l0_1.length c0_1,.slice A0_2 l0_2.length c0_2] 25 (0,0))):=⟨by (with_reducible repeat (first|refine blk_drewN ?_ _|refine blk_drew ?_|refine blk_alloc ?_ _));refine blk_far ?_ NB911_924.out _;(with_reducible repeat (first|refine blk_drewN ?_ _|refine blk_drew ?_|refine blk_alloc ?_ _));refine blk_far ?_ NB911_924.out _;(with_reducible repeat (first|refine blk_drewN ?_ _|refine blk_drew ?_|refine blk_alloc ?_ _));refine blk_far ?_ NB911_924.out _;(with_reducible repeat (first|refine blk_drewN ?_ _|refine blk_drew ?_|refine blk_alloc ?_ _));exact BK911.out⟩
      have n3_ : Aside0 ((((w71.setCell ⟨gb924,0,none⟩ (.bool t916)).setCell ⟨gb924,1,none⟩ (.slice Ao75 t917.length co75)).setCell ⟨gb924,2,none⟩ (.slice Ao76 t920.length co76)).heap[gb912]? = some (.cells #[.bool a1_0,.slice A1_1 l1_1.length c1_1,.slice A1_2 l1_2.length c1_2] 25 (0,0))):=⟨by (with_reducible repeat (first|refine blk_drewN ?_ _|refine blk_drew ?_|refine blk_alloc ?_ _));refine blk_far ?_ NB912_924.out _;(with_reducible repeat (first|refine blk_drewN ?_ _|refine blk_drew ?_|refine blk_alloc ?_ _));refine blk_far ?_ NB912_924.out _;(with_reducible repeat (first|refine blk_drewN ?_ _|refine blk_drew ?_|refine blk_alloc ?_ _));refine blk_far ?_ NB912_924.out _;(with_reducible repeat (first|refine blk_drewN ?_ _|refine blk_drew ?_|refine blk_alloc ?_ _));exact BK912.out⟩
      have n4_ : Aside0 ((((w71.setCell ⟨gb924,0,none⟩ (.bool t916)).setCell ⟨gb924,1,none⟩ (.slice Ao75 t917.length co75)).setCell ⟨gb924,2,none⟩ (.slice Ao76 t920.length co76)).heap[gb924]? = some (.cells #[.bool t916,.slice Ao75 t917.length co75,.slice Ao76 t920.length co76] 25 (0,0))):=⟨by (with_reducible repeat (first|refine blk_drewN ?_ _|refine blk_drew ?_|refine blk_alloc ?_ _));refine blk_put (cs:=#[.bool t916,.slice Ao75 t917.length co75,.slice none 0 0]) ?_ 2 _ rfl;(with_reducible repeat (first|refine blk_drewN ?_ _|refine blk_drew ?_|refine blk_alloc ?_ _));refine blk_put (cs:=#[.bool t916,.slice none 0 0,.slice none 0 0]) ?_ 1 _ rfl;(with_reducible repeat (first|refine blk_drewN ?_ _|refine blk_drew ?_|refine blk_alloc ?_ _));refine blk_put (cs:=#[.bool false,.slice none 0 0,.slice none 0 0]) ?_ 0 _ rfl;(with_reducible repeat (first|refine blk_drewN ?_ _|refine blk_drew ?_|refine blk_alloc ?_ _));exact BK924.out⟩
      have n5_ : Aside0 (Below w.heap.size w (((w71.setCell ⟨gb924,0,none⟩ (.bool t916)).setCell ⟨gb924,1,none⟩ (.slice Ao75 t917.length co75)).setCell ⟨gb924,2,none⟩ (.slice Ao76 t920.length co76))):=⟨by repeat (first|with_reducible exact HB.out|apply ba|apply bn|apply b1|refine below_set ?_ GE911.out|refine below_set ?_ GE912.out|refine below_set ?_ GE924.out)⟩
      (try clear HO919)
      (try clear HO922)
      (try clear BK911)
      (try clear BK912)
      (try clear BK924)
      (try clear HB)
      generalize (((w71.setCell ⟨gb924,0,none⟩ (.bool t916)).setCell ⟨gb924,1,none⟩ (.slice Ao75 t917.length co75)).setCell ⟨gb924,2,none⟩ (.slice Ao76 t920.length co76))=w77 at n0_ n1_ n2_ n3_ n4_ n5_ ⊢
      have HO919:=n0_
      have HO922:=n1_
      have BK911:=n2_
      have BK912:=n3_
      have BK924:=n4_
      have HB:=n5_
      clear n0_ n1_ n2_ n3_ n4_ n5_
      have n0_:=Aside0.mk (Rd HO919.out)
      have n1_:=Aside0.mk (Rd HO922.out)
      have n2_:=Aside0.mk (blk_drew BK911.out)
      have n3_:=Aside0.mk (blk_drew BK912.out)
      have n4_:=Aside0.mk (blk_drew BK924.out)
      have n5_:=Aside0.mk (b1 HB.out)
      clear HO919
      clear HO922
      clear BK911
      clear BK912
      clear BK924
      clear HB
      have HO919:=n0_
      have HO922:=n1_
      have BK911:=n2_
      have BK912:=n3_
      have BK924:=n4_
      have HB:=n5_
      clear n0_ n1_ n2_ n3_ n4_ n5_
      refine start_ (n:=21) (S:=fun w'=>True) (ds:=[]) #[false,false,false,false,false,false,false,false,false,false,false,false,false,false,false,false,false,false,false,false,false] (by kernel_rfl) rfl rfl trivial (fun hHeld=>?_);refine with_tabW penumbralaw04_DecimalBack.tab5 penumbralaw04_DecimalBack.bits5 (fun HT_ HW_=>?_)
      generalize w77.drew=w78 at HO919 HO922 BK911 BK912 BK924 HB hHeld ⊢
      refine one_ (i:=0) (N:=some 41) #[true,false,false,false,false,false,false,false,false,false,false,false,false,false,false,false,false,false,false,false,false] rfl rfl (one_of HT_.out (by kernel_rfl)) (by decide) (fun K hK=>?_)
      refine goes_ Tryd.func8 (by kernel_rfl) rfl #[] (by rfl) rfl rfl (by (try simp only [List.map_toArray,List.map_cons,List.map_nil]);first|done|rfl) ?_
      with_reducible refine (penumbralaw04_fixed.calls kj2  true _ A25.out).mono ?_
      rintro e w79 ⟨rfl,hb⟩
      refine ⟨_,rfl,?_⟩
      have n0_:=Aside0.mk (Kd.R_below (Ru HO919.out) hb)
      have n1_:=Aside0.mk (Kd.R_below (Ru HO922.out) hb)
      have n2_:=Aside0.mk (blk_below (g:=gb911) (o:=.cells #[.bool a0_0,.slice A0_1 l0_1.length c0_1,.slice A0_2 l0_2.length c0_2] 25 (0,0)) (Bu BK911.out) hb)
      have n3_:=Aside0.mk (blk_below (g:=gb912) (o:=.cells #[.bool a1_0,.slice A1_1 l1_1.length c1_1,.slice A1_2 l1_2.length c1_2] 25 (0,0)) (Bu BK912.out) hb)
      have n4_:=Aside0.mk (blk_below (g:=gb924) (o:=.cells #[.bool t916,.slice Ao75 t917.length co75,.slice Ao76 t920.length co76] 25 (0,0)) (Bu BK924.out) hb)
      have n5_:=Aside0.mk (below_step (by repeat (first|with_reducible exact HB.out|apply ba|apply bn|apply b1|refine below_set ?_ GE911.out|refine below_set ?_ GE912.out|refine below_set ?_ GE924.out)) hb)
      clear HO919
      clear HO922
      clear BK911
      clear BK912
      clear BK924
      clear HB
      have HO919:=n0_
      have HO922:=n1_
      have BK911:=n2_
      have BK912:=n3_
      have BK924:=n4_
      have HB:=n5_
      clear n0_ n1_ n2_ n3_ n4_ n5_
      (try clear hb)
      (try clear hb2)
      (try clear hk)
      (try clear hi)
      refine hK.out _ _ trivial (fun hHeld=>?_)
      clear hK K
      refine norm_ (a':=?_) ?_ ?_
      rotate_left
      ·show Act.put _ (some 41) _=_
       simp only [Act.put,s0,s1,s2,i64_w,i32_w]
       rfl
      refine pv (i:=1) (N:=some 42) (v:=?_) (a':=?_) rfl rfl (any_of HT_.out (by kernel_rfl)) (Or.inl ⟨by rfl,?_⟩) ?_ ?_
      rotate_left
      ·intro w'
       go_simp
       with_reducible rfl
      rotate_left
      ·simp only [Act.put,s0,s1,s2,i64_w,i32_w]
       rfl
      refine pv (i:=2) (N:=some 43) (v:=?_) (a':=?_) rfl rfl (any_of HT_.out (by kernel_rfl)) (Or.inl ⟨by rfl,?_⟩) ?_ ?_
      rotate_left
      ·intro w'
       go_simp
       with_reducible rfl
      rotate_left
      ·simp only [Act.put,s0,s1,s2,i64_w,i32_w]
       rfl
      refine pv (i:=3) (N:=some 44) (v:=?_) (a':=?_) rfl rfl (any_of HT_.out (by kernel_rfl)) (Or.inl ⟨by rfl,?_⟩) ?_ ?_
      rotate_left
      ·intro w'
       go_simp
       with_reducible rfl
      rotate_left
      ·simp only [Act.put,s0,s1,s2,i64_w,i32_w]
       rfl
      refine pv (i:=4) (N:=some 45) (v:=?_) (a':=?_) rfl rfl (any_of HT_.out (by kernel_rfl)) (Or.inl ⟨by rfl,?_⟩) ?_ ?_
      rotate_left
      ·intro w'
       go_simp
       with_reducible rfl
      rotate_left
      ·simp only [Act.put,s0,s1,s2,i64_w,i32_w]
       rfl
      refine pv (i:=5) (N:=some 46) (v:=?_) (a':=?_) rfl rfl (any_of HT_.out (by kernel_rfl)) (Or.inl ⟨by rfl,?_⟩) ?_ ?_
      rotate_left
      ·intro w'
       go_simp
       with_reducible rfl
      rotate_left
      ·simp only [Act.put,s0,s1,s2,i64_w,i32_w]
       rfl
      refine pv (i:=6) (N:=some 47) (v:=undef) (a':=?_) rfl rfl (any_of HT_.out (by kernel_rfl)) (Or.inr ⟨by rfl,rfl⟩) ?_ ?_
      rotate_left
      ·simp only [Act.put,s0,s1,s2,i64_w,i32_w]
       rfl
      refine pv (i:=7) (N:=some 48) (v:=undef) (a':=?_) rfl rfl (any_of HT_.out (by kernel_rfl)) (Or.inr ⟨by rfl,rfl⟩) ?_ ?_
      rotate_left
      ·simp only [Act.put,s0,s1,s2,i64_w,i32_w]
       rfl
      refine pv (i:=8) (N:=some 49) (v:=undef) (a':=?_) rfl rfl (any_of HT_.out (by kernel_rfl)) (Or.inr ⟨by rfl,rfl⟩) ?_ ?_
      rotate_left
      ·simp only [Act.put,s0,s1,s2,i64_w,i32_w]
       rfl
      refine pv (i:=9) (N:=some 50) (v:=undef) (a':=?_) rfl rfl (any_of HT_.out (by kernel_rfl)) (Or.inr ⟨by rfl,rfl⟩) ?_ ?_
      rotate_left
      ·simp only [Act.put,s0,s1,s2,i64_w,i32_w]
       rfl
      refine pv (i:=10) (N:=some 51) (v:=?_) (a':=?_) rfl rfl (any_of HT_.out (by kernel_rfl)) (Or.inl ⟨by rfl,?_⟩) ?_ ?_
      rotate_left
      ·intro w'
       go_simp
       with_reducible rfl
      rotate_left
      ·simp only [Act.put,s0,s1,s2,i64_w,i32_w]
       rfl
      refine pv (i:=11) (N:=some 52) (v:=?_) (a':=?_) rfl rfl (any_of HT_.out (by kernel_rfl)) (Or.inl ⟨by rfl,?_⟩) ?_ ?_
      rotate_left
      ·intro w'
       go_simp
       with_reducible rfl
      rotate_left
      ·simp only [Act.put,s0,s1,s2,i64_w,i32_w]
       rfl
      refine pv (i:=12) (N:=some 53) (v:=undef) (a':=?_) rfl rfl (any_of HT_.out (by kernel_rfl)) (Or.inr ⟨by rfl,rfl⟩) ?_ ?_
      rotate_left
      ·simp only [Act.put,s0,s1,s2,i64_w,i32_w]
       rfl
      refine pv (i:=13) (N:=some 54) (v:=undef) (a':=?_) rfl rfl (any_of HT_.out (by kernel_rfl)) (Or.inr ⟨by rfl,rfl⟩) ?_ ?_
      rotate_left
      ·simp only [Act.put,s0,s1,s2,i64_w,i32_w]
       rfl
      refine pv (i:=14) (N:=some 55) (v:=undef) (a':=?_) rfl rfl (any_of HT_.out (by kernel_rfl)) (Or.inr ⟨by rfl,rfl⟩) ?_ ?_
      rotate_left
      ·simp only [Act.put,s0,s1,s2,i64_w,i32_w]
       rfl
      refine pv (i:=15) (N:=some 56) (v:=undef) (a':=?_) rfl rfl (any_of HT_.out (by kernel_rfl)) (Or.inr ⟨by rfl,rfl⟩) ?_ ?_
      rotate_left
      ·simp only [Act.put,s0,s1,s2,i64_w,i32_w]
       rfl
      refine pv (i:=16) (N:=some 57) (v:=undef) (a':=?_) rfl rfl (any_of HT_.out (by kernel_rfl)) (Or.inr ⟨by rfl,rfl⟩) ?_ ?_
      rotate_left
      ·simp only [Act.put,s0,s1,s2,i64_w,i32_w]
       rfl
      refine pv (i:=17) (N:=some 58) (v:=undef) (a':=?_) rfl rfl (any_of HT_.out (by kernel_rfl)) (Or.inr ⟨by rfl,rfl⟩) ?_ ?_
      rotate_left
      ·simp only [Act.put,s0,s1,s2,i64_w,i32_w]
       rfl
      refine pv (i:=18) (N:=some 59) (v:=undef) (a':=?_) rfl rfl (any_of HT_.out (by kernel_rfl)) (Or.inr ⟨by rfl,rfl⟩) ?_ ?_
      rotate_left
      ·simp only [Act.put,s0,s1,s2,i64_w,i32_w]
       rfl
      refine pv (i:=19) (N:=some 60) (v:=?_) (a':=?_) rfl rfl (any_of HT_.out (by kernel_rfl)) (Or.inl ⟨by rfl,?_⟩) ?_ ?_
      rotate_left
      ·intro w'
       go_simp
       with_reducible rfl
      rotate_left
      ·simp only [Act.put,s0,s1,s2,i64_w,i32_w]
       rfl
      refine pv (i:=20) (N:=some 4) (v:=?_) (a':=?_) rfl rfl (any_of HT_.out (by kernel_rfl)) (Or.inl ⟨by rfl,?_⟩) ?_ ?_
      rotate_left
      ·intro w'
       go_simp
       with_reducible rfl
      rotate_left
      ·simp only [Act.put,s0,s1,s2,i64_w,i32_w]
       rfl
      refine done_ (done_of HT_.out (by kernel_rfl)) ?_
      try go_wp2
      go_ret
      exact ⟨by first|rfl|(simp [errW_none,errW_some] <;> rfl)|(simp [*,errW_none,errW_some] <;> rfl),by repeat (first|with_reducible exact HB.out|apply ba|apply bn|apply b1|refine below_set ?_ GE911.out|refine below_set ?_ GE912.out|refine below_set ?_ GE924.out)⟩
    ·replace c26:=Bool.eq_false_iff.mpr c26
     subst c26
     rw [if_neg (show ¬ (false=true) by decide)] at H
     obtain rfl:=Option.some.inj H
     try go_wp2
     have n0_:=Aside0.mk (blk_drew BK911.out)
     have n1_:=Aside0.mk (blk_drew BK912.out)
     have n2_:=Aside0.mk (b1 HB.out)
     clear BK911
     clear BK912
     clear HB
     have BK911:=n0_
     have BK912:=n1_
     have HB:=n2_
     clear n0_ n1_ n2_
     refine start_ (n:=6) (S:=fun w'=>w'.cell? ⟨gb911,0,none⟩=some (.bool a0_0)∧w'.cell? ⟨gb911,1,none⟩=some (.slice A0_1 l0_1.length c0_1)∧w'.cell? ⟨gb911,2,none⟩=some (.slice A0_2 l0_2.length c0_2)∧w'.cell? ⟨gb912,0,none⟩=some (.bool a1_0)∧w'.cell? ⟨gb912,1,none⟩=some (.slice A1_1 l1_1.length c1_1)∧w'.cell? ⟨gb912,2,none⟩=some (.slice A1_2 l1_2.length c1_2)) (ds:=[]) #[false,false,false,false,false,false] (by kernel_rfl) rfl rfl ⟨(blk_cell BK911.out 0).trans rfl,(blk_cell BK911.out 1).trans rfl,(blk_cell BK911.out 2).trans rfl,(blk_cell BK912.out 0).trans rfl,(blk_cell BK912.out 1).trans rfl,(blk_cell BK912.out 2).trans rfl⟩ (fun hHeld=>?_)
     generalize wc.drew=w80 at BK911 BK912 HB hHeld ⊢
     refine take_ (i:=0) (N:=some 32) (v:=?_) (a':=?_) #[true,false,false,false,false,false] rfl rfl (by kernel_rfl) (fun _ _ _ h=>h) (Or.inl ⟨by rfl,?_⟩) hHeld ?_ ?_
     rotate_left
     ·rintro w' ⟨s0,s1,s2,s3,s4,s5⟩
      go_simp
      with_reducible rfl
     rotate_left
     ·simp only [Act.put,s0,s1,s2,i64_w,i32_w]
      rfl
     refine take_ (i:=2) (N:=some 34) (v:=?_) (a':=?_) #[true,false,true,false,false,false] rfl rfl (by kernel_rfl) (fun _ _ _ h=>h) (Or.inl ⟨by rfl,?_⟩) hHeld ?_ ?_
     rotate_left
     ·rintro w' ⟨s0,s1,s2,s3,s4,s5⟩
      go_simp
      with_reducible rfl
     rotate_left
     ·simp only [Act.put,s0,s1,s2,i64_w,i32_w]
      rfl
     refine one_ (i:=1) (N:=some 33) #[true,true,true,false,false,false] rfl rfl (by kernel_rfl) (by decide) (fun K hK=>?_)
     refine goes_ Tryd.func12 (by kernel_rfl) rfl #[.agg #[.bool a0_0,.slice A0_1 l0_1.length c0_1,.slice A0_2 l0_2.length c0_2]] (by rfl) rfl rfl (by (try simp only [List.map_toArray,List.map_cons,List.map_nil]);first|done|rfl) ?_
     with_reducible refine (decimal_Print.calls kj2 a0_0 _ _ l0_1 _ _ l0_2 t914 _ ?side1 ?side2 ?side3 ?side4 A22.out).mono ?_
     (case side1=>repeat (first|exact (Kd.C_below HR0_1.out HB.out)|(with_reducible refine Kd.C_alloc ?_ _)|(with_reducible refine Kd.C_drewN ?_ _)|(with_reducible refine Kd.C_drew ?_)))
     (case side2=>exact HC0_1.out)
     (case side3=>repeat (first|exact (Kd.C_below HR0_2.out HB.out)|(with_reducible refine Kd.C_alloc ?_ _)|(with_reducible refine Kd.C_drewN ?_ _)|(with_reducible refine Kd.C_drew ?_)))
     (case side4=>exact HC0_2.out)
     rintro e w81 ⟨rfl,hb⟩
     refine ⟨_,rfl,?_⟩
     have n0_:=Aside0.mk (blk_below (g:=gb911) (o:=.cells #[.bool a0_0,.slice A0_1 l0_1.length c0_1,.slice A0_2 l0_2.length c0_2] 25 (0,0)) (Bu BK911.out) hb)
     have n1_:=Aside0.mk (blk_below (g:=gb912) (o:=.cells #[.bool a1_0,.slice A1_1 l1_1.length c1_1,.slice A1_2 l1_2.length c1_2] 25 (0,0)) (Bu BK912.out) hb)
     have n2_:=Aside0.mk (below_step (by repeat (first|with_reducible exact HB.out|apply ba|apply bn|apply b1|refine below_set ?_ GE911.out|refine below_set ?_ GE912.out)) hb)
     clear BK911
     clear BK912
     clear HB
     have BK911:=n0_
     have BK912:=n1_
     have HB:=n2_
     clear n0_ n1_ n2_
     (try clear hb)
     (try clear hb2)
     (try clear hk)
     (try clear hi)
     refine hK.out _ _ ⟨(blk_cell BK911.out 0).trans rfl,(blk_cell BK911.out 1).trans rfl,(blk_cell BK911.out 2).trans rfl,(blk_cell BK912.out 0).trans rfl,(blk_cell BK912.out 1).trans rfl,(blk_cell BK912.out 2).trans rfl⟩ (fun hHeld=>?_)
     clear hK K
     refine norm_ (a':=?_) ?_ ?_
     rotate_left
     ·show Act.put _ (some 33) _=_
      simp only [Act.put,s0,s1,s2,i64_w,i32_w]
      rfl
     refine one_ (i:=3) (N:=some 35) #[true,true,true,true,false,false] rfl rfl (by kernel_rfl) (by decide) (fun K hK=>?_)
     refine goes_ Tryd.func12 (by kernel_rfl) rfl #[.agg #[.bool a1_0,.slice A1_1 l1_1.length c1_1,.slice A1_2 l1_2.length c1_2]] (by rfl) rfl rfl (by (try simp only [List.map_toArray,List.map_cons,List.map_nil]);first|done|rfl) ?_
     with_reducible refine (decimal_Print.calls kj2 a1_0 _ _ l1_1 _ _ l1_2 t915 _ ?side1 ?side2 ?side3 ?side4 A23.out).mono ?_
     (case side1=>repeat (first|exact (Kd.C_below HR1_1.out HB.out)|(with_reducible refine Kd.C_alloc ?_ _)|(with_reducible refine Kd.C_drewN ?_ _)|(with_reducible refine Kd.C_drew ?_)))
     (case side2=>exact HC1_1.out)
     (case side3=>repeat (first|exact (Kd.C_below HR1_2.out HB.out)|(with_reducible refine Kd.C_alloc ?_ _)|(with_reducible refine Kd.C_drewN ?_ _)|(with_reducible refine Kd.C_drew ?_)))
     (case side4=>exact HC1_2.out)
     rintro e w82 ⟨rfl,hb⟩
     refine ⟨_,rfl,?_⟩
     have n0_:=Aside0.mk (blk_below (g:=gb911) (o:=.cells #[.bool a0_0,.slice A0_1 l0_1.length c0_1,.slice A0_2 l0_2.length c0_2] 25 (0,0)) (Bu BK911.out) hb)
     have n1_:=Aside0.mk (blk_below (g:=gb912) (o:=.cells #[.bool a1_0,.slice A1_1 l1_1.length c1_1,.slice A1_2 l1_2.length c1_2] 25 (0,0)) (Bu BK912.out) hb)
     have n2_:=Aside0.mk (below_step (by repeat (first|with_reducible exact HB.out|apply ba|apply bn|apply b1|refine below_set ?_ GE911.out|refine below_set ?_ GE912.out)) hb)
     clear BK911
     clear BK912
     clear HB
     have BK911:=n0_
     have BK912:=n1_
     have HB:=n2_
     clear n0_ n1_ n2_
     (try clear hb)
     (try clear hb2)
     (try clear hk)
     (try clear hi)
     refine hK.out _ _ ⟨(blk_cell BK911.out 0).trans rfl,(blk_cell BK911.out 1).trans rfl,(blk_cell BK911.out 2).trans rfl,(blk_cell BK912.out 0).trans rfl,(blk_cell BK912.out 1).trans rfl,(blk_cell BK912.out 2).trans rfl⟩ (fun hHeld=>?_)
     clear hK K
     refine norm_ (a':=?_) ?_ ?_
     rotate_left
     ·show Act.put _ (some 35) _=_
      simp only [Act.put,s0,s1,s2,i64_w,i32_w]
      rfl
     refine pure_ (i:=4) (N:=some 5) (v:=?_) (a':=?_) #[true,true,true,true,true,false] rfl rfl (by kernel_rfl) (fun _ _ _ h=>h) (Or.inl ⟨by rfl,?_⟩) ?_ ?_
     rotate_left
     ·intro w'
      go_simp
      with_reducible rfl
     rotate_left
     ·simp only [Act.put,s0,s1,s2,i64_w,i32_w]
      rfl
     refine pure_ (i:=5) (N:=some 6) (v:=?_) (a':=?_) #[true,true,true,true,true,true] rfl rfl (by kernel_rfl) (fun _ _ _ h=>h) (Or.inl ⟨by rfl,?_⟩) ?_ ?_
     rotate_left
     ·intro w'
      go_simp
      with_reducible rfl
     rotate_left
     ·simp only [Act.put,s0,s1,s2,i64_w,i32_w]
      rfl
     refine done_ (by kernel_rfl) ?_
     try go_wp2_with (first|((with_reducible refine gate_callee (f:=9) rfl ?_);refine goesL_ (some 38) rfl rfl Tryd.func9 (by kernel_rfl) rfl #[.string t914] rfl (by (try simp only [List.map_toArray,List.map_cons,List.map_nil]);first|done|rfl) ?_;(with_reducible refine (decimal_Parse.calls kj2 t914 t916 t917 t920 t923 _ A24.out).mono ?_);rintro e w83 ⟨v918,v921,rfl,ho0,ho1,hb⟩;refine ⟨_,rfl,?_⟩;have n0_:=Aside0.mk (Kd.R_lower ho0 (below_size (by repeat (first|with_reducible exact HB.out|apply ba|apply bn|apply b1|refine below_set ?_ GE911.out|refine below_set ?_ GE912.out))));have n1_:=Aside0.mk (Kd.R_lower ho1 (below_size (by repeat (first|with_reducible exact HB.out|apply ba|apply bn|apply b1|refine below_set ?_ GE911.out|refine below_set ?_ GE912.out))));have n2_:=Aside0.mk (blk_below (g:=gb911) (o:=.cells #[.bool a0_0,.slice A0_1 l0_1.length c0_1,.slice A0_2 l0_2.length c0_2] 25 (0,0)) (Bu BK911.out) hb);have n3_:=Aside0.mk (blk_below (g:=gb912) (o:=.cells #[.bool a1_0,.slice A1_1 l1_1.length c1_1,.slice A1_2 l1_2.length c1_2] 25 (0,0)) (Bu BK912.out) hb);have n4_:=Aside0.mk (below_step (by repeat (first|with_reducible exact HB.out|apply ba|apply bn|apply b1|refine below_set ?_ GE911.out|refine below_set ?_ GE912.out)) hb);clear BK911;clear BK912;clear HB;have HO919:=n0_;have HO922:=n1_;have BK911:=n2_;have BK912:=n3_;have HB:=n4_;clear n0_ n1_ n2_ n3_ n4_)|((with_reducible refine gate_dst (N:=7) rfl ?_);(try (refine gate_guard (by rfl) ?_;dsimp only));refine box_event ?hg (N:=7) ?hd (cs:=#[.bool false,.slice none 0 0,.slice none 0 0]) (t:=25) ?hr ?_;(case hd=>rfl);(case hg=>rfl);(case hr=>first|(go_simp;done)|(go_simp;(with_reducible rfl))|(go_simp;rfl)|(go_simp;simp only [hu,Int.emod_sub_emod]));intro gb924 hg w84 hbox hb;have n0_:=Aside0.mk (Kd.R_below (Ru HO919.out) hb);have n1_:=Aside0.mk (Kd.R_below (Ru HO922.out) hb);have n2_:=Aside0.mk (blk_below (g:=gb911) (o:=.cells #[.bool a0_0,.slice A0_1 l0_1.length c0_1,.slice A0_2 l0_2.length c0_2] 25 (0,0)) (Bu BK911.out) hb);have n3_:=Aside0.mk (blk_below (g:=gb912) (o:=.cells #[.bool a1_0,.slice A1_1 l1_1.length c1_1,.slice A1_2 l1_2.length c1_2] 25 (0,0)) (Bu BK912.out) hb);have n4_:=Aside0.mk (below_step (by repeat (first|with_reducible exact HB.out|apply ba|apply bn|apply b1|refine below_set ?_ GE911.out|refine below_set ?_ GE912.out)) hb);have n5_:=Aside0.mk (hbox);have n6_:=Aside0.mk ((by rw [hg];exact (below_size (by repeat (first|with_reducible exact HB.out|apply ba|apply bn|apply b1|refine below_set ?_ GE911.out|refine below_set ?_ GE912.out))) : w.heap.size≤gb924));have n7_:=Aside0.mk ((by rw [hg];exact (below_size (by repeat (first|with_reducible exact HB.out|apply ba|apply bn|apply b1|refine below_set ?_ GE911.out|refine below_set ?_ GE912.out))) : w.heap.size≤gb924));have n8_:=Aside0.mk ((by rw [hg];exact Nat.ne_of_lt (blk_lt (g:=gb911) (o:=.cells #[.bool a0_0,.slice A0_1 l0_1.length c0_1,.slice A0_2 l0_2.length c0_2] 25 (0,0)) (Bu BK911.out)) : gb911≠gb924));have n9_:=Aside0.mk ((by rw [hg];exact Nat.ne_of_gt (blk_lt (g:=gb911) (o:=.cells #[.bool a0_0,.slice A0_1 l0_1.length c0_1,.slice A0_2 l0_2.length c0_2] 25 (0,0)) (Bu BK911.out)) : gb924≠gb911));have n10_:=Aside0.mk ((by rw [hg];exact Nat.ne_of_lt (blk_lt (g:=gb912) (o:=.cells #[.bool a1_0,.slice A1_1 l1_1.length c1_1,.slice A1_2 l1_2.length c1_2] 25 (0,0)) (Bu BK912.out)) : gb912≠gb924));have n11_:=Aside0.mk ((by rw [hg];exact Nat.ne_of_gt (blk_lt (g:=gb912) (o:=.cells #[.bool a1_0,.slice A1_1 l1_1.length c1_1,.slice A1_2 l1_2.length c1_2] 25 (0,0)) (Bu BK912.out)) : gb924≠gb912));clear HO919;clear HO922;clear BK911;clear BK912;clear HB;have HO919:=n0_;have HO922:=n1_;have BK911:=n2_;have BK912:=n3_;have HB:=n4_;have BK924:=n5_;have GW924:=n6_;have GE924:=n7_;have NB911_924:=n8_;have NB924_911:=n9_;have NB912_924:=n10_;have NB924_912:=n11_;clear n0_ n1_ n2_ n3_ n4_ n5_ n6_ n7_ n8_ n9_ n10_ n11_;clear hb hbox hg;have hnb85:=NB924_911.out;have hnc85:=NB911_924.out;have hnb86:=NB924_912.out;have hnc86:=NB912_924.out;have hcz87_0 : w84.cell? ⟨gb924,0,none⟩=some (.bool false):=(blk_cell BK924.out 0).trans rfl;have hcz87_1 : w84.cell? ⟨gb924,1,none⟩=some (.slice none 0 0):=(blk_cell BK924.out 1).trans rfl;have hcz87_2 : w84.cell? ⟨gb924,2,none⟩=some (.slice none 0 0):=(blk_cell BK924.out 2).trans rfl;have hfz87_0:=blk_frozen BK924.out 0;have hfz87_1:=blk_frozen BK924.out 1;have hfz87_2:=blk_frozen BK924.out 2;obtain ⟨Ao88,co88,eo88⟩:=Kd.R_slice HO919.out;subst eo88;obtain ⟨Ao89,co89,eo89⟩:=Kd.R_slice HO922.out;subst eo89))
     have n0_ : Aside0 (Kd.R (Kd.int .u32) 35 (((w84.setCell ⟨gb924,0,none⟩ (.bool t916)).setCell ⟨gb924,1,none⟩ (.slice Ao88 t917.length co88)).setCell ⟨gb924,2,none⟩ (.slice Ao89 t920.length co89)) w.heap.size (fun k_=>some k_≠(.slice Ao89 t920.length co89 : Value).ownBlock) (.slice Ao88 t917.length co88) t917):=⟨by (with_reducible repeat (first|apply Ra|apply Rn|apply Rd));exact Kd.R_mono (Kd.R_far (p:=⟨gb924,2,none⟩) (Kd.R_far (p:=⟨gb924,1,none⟩) (Kd.R_far (p:=⟨gb924,0,none⟩) (Kd.R_types HO919.out BK924.out (by decide)) (fun _ hk=>hk.2) (.bool t916)) (fun _ hk=>hk.2) (.slice Ao88 t917.length co88)) (fun _ hk=>hk.2) (.slice Ao89 t920.length co89)) (fun _ hk=>hk.1)⟩
     have n1_ : Aside0 (Kd.R (Kd.int .u32) 35 (((w84.setCell ⟨gb924,0,none⟩ (.bool t916)).setCell ⟨gb924,1,none⟩ (.slice Ao88 t917.length co88)).setCell ⟨gb924,2,none⟩ (.slice Ao89 t920.length co89)) w.heap.size (fun k_=>some k_≠(.slice Ao88 t917.length co88 : Value).ownBlock) (.slice Ao89 t920.length co89) t920):=⟨by (with_reducible repeat (first|apply Ra|apply Rn|apply Rd));exact Kd.R_mono (Kd.R_far (p:=⟨gb924,2,none⟩) (Kd.R_far (p:=⟨gb924,1,none⟩) (Kd.R_far (p:=⟨gb924,0,none⟩) (Kd.R_types HO922.out BK924.out (by decide)) (fun _ hk=>hk.2) (.bool t916)) (fun _ hk=>hk.2) (.slice Ao88 t917.length co88)) (fun _ hk=>hk.2) (.slice Ao89 t920.length co89)) (fun _ hk=>hk.1)⟩
     have n2_ : Aside0 ((((w84.setCell ⟨gb924,0,none⟩ (.bool t916)).setCell ⟨gb924,1,none⟩ (.slice Ao88 t917.length co88)).setCell ⟨gb924,2,none⟩ (.slice Ao89 t920.length co89)).heap[gb911]? = some (.cells #[.bool a0_0,.slice A0_1 l0_1.length c0_1,.slice A0_2 l0_2.length c0_2] 25 (0,0))):=⟨by (with_reducible repeat (first|refine blk_drewN ?_ _|refine blk_drew ?_|refine blk_alloc ?_ _));refine blk_far ?_ NB911_924.out _;(with_reducible repeat (first|refine blk_drewN ?_ _|refine blk_drew ?_|refine blk_alloc ?_ _));refine blk_far ?_ NB911_924.out _;(with_reducible repeat (first|refine blk_drewN ?_ _|refine blk_drew ?_|refine blk_alloc ?_ _));refine blk_far ?_ NB911_924.out _;(with_reducible repeat (first|refine blk_drewN ?_ _|refine blk_drew ?_|refine blk_alloc ?_ _));exact BK911.out⟩
     have n3_ : Aside0 ((((w84.setCell ⟨gb924,0,none⟩ (.bool t916)).setCell ⟨gb924,1,none⟩ (.slice Ao88 t917.length co88)).setCell ⟨gb924,2,none⟩ (.slice Ao89 t920.length co89)).heap[gb912]? = some (.cells #[.bool a1_0,.slice A1_1 l1_1.length c1_1,.slice A1_2 l1_2.length c1_2] 25 (0,0))):=⟨by (with_reducible repeat (first|refine blk_drewN ?_ _|refine blk_drew ?_|refine blk_alloc ?_ _));refine blk_far ?_ NB912_924.out _;(with_reducible repeat (first|refine blk_drewN ?_ _|refine blk_drew ?_|refine blk_alloc ?_ _));refine blk_far ?_ NB912_924.out _;(with_reducible repeat (first|refine blk_drewN ?_ _|refine blk_drew ?_|refine blk_alloc ?_ _));refine blk_far ?_ NB912_924.out _;(with_reducible repeat (first|refine blk_drewN ?_ _|refine blk_drew ?_|refine blk_alloc ?_ _));exact BK912.out⟩
     have n4_ : Aside0 ((((w84.setCell ⟨gb924,0,none⟩ (.bool t916)).setCell ⟨gb924,1,none⟩ (.slice Ao88 t917.length co88)).setCell ⟨gb924,2,none⟩ (.slice Ao89 t920.length co89)).heap[gb924]? = some (.cells #[.bool t916,.slice Ao88 t917.length co88,.slice Ao89 t920.length co89] 25 (0,0))):=⟨by (with_reducible repeat (first|refine blk_drewN ?_ _|refine blk_drew ?_|refine blk_alloc ?_ _));refine blk_put (cs:=#[.bool t916,.slice Ao88 t917.length co88,.slice none 0 0]) ?_ 2 _ rfl;(with_reducible repeat (first|refine blk_drewN ?_ _|refine blk_drew ?_|refine blk_alloc ?_ _));refine blk_put (cs:=#[.bool t916,.slice none 0 0,.slice none 0 0]) ?_ 1 _ rfl;(with_reducible repeat (first|refine blk_drewN ?_ _|refine blk_drew ?_|refine blk_alloc ?_ _));refine blk_put (cs:=#[.bool false,.slice none 0 0,.slice none 0 0]) ?_ 0 _ rfl;(with_reducible repeat (first|refine blk_drewN ?_ _|refine blk_drew ?_|refine blk_alloc ?_ _));exact BK924.out⟩
     have n5_ : Aside0 (Below w.heap.size w (((w84.setCell ⟨gb924,0,none⟩ (.bool t916)).setCell ⟨gb924,1,none⟩ (.slice Ao88 t917.length co88)).setCell ⟨gb924,2,none⟩ (.slice Ao89 t920.length co89))):=⟨by repeat (first|with_reducible exact HB.out|apply ba|apply bn|apply b1|refine below_set ?_ GE911.out|refine below_set ?_ GE912.out|refine below_set ?_ GE924.out)⟩
     (try clear HO919)
     (try clear HO922)
     (try clear BK911)
     (try clear BK912)
     (try clear BK924)
     (try clear HB)
     generalize (((w84.setCell ⟨gb924,0,none⟩ (.bool t916)).setCell ⟨gb924,1,none⟩ (.slice Ao88 t917.length co88)).setCell ⟨gb924,2,none⟩ (.slice Ao89 t920.length co89))=w90 at n0_ n1_ n2_ n3_ n4_ n5_ ⊢
     have HO919:=n0_
     have HO922:=n1_
     have BK911:=n2_
     have BK912:=n3_
     have BK924:=n4_
     have HB:=n5_
     clear n0_ n1_ n2_ n3_ n4_ n5_
     have n0_:=Aside0.mk (Rd HO919.out)
     have n1_:=Aside0.mk (Rd HO922.out)
     have n2_:=Aside0.mk (blk_drew BK911.out)
     have n3_:=Aside0.mk (blk_drew BK912.out)
     have n4_:=Aside0.mk (blk_drew BK924.out)
     have n5_:=Aside0.mk (b1 HB.out)
     clear HO919
     clear HO922
     clear BK911
     clear BK912
     clear BK924
     clear HB
     have HO919:=n0_
     have HO922:=n1_
     have BK911:=n2_
     have BK912:=n3_
     have BK924:=n4_
     have HB:=n5_
     clear n0_ n1_ n2_ n3_ n4_ n5_
     refine start_ (n:=21) (S:=fun w'=>True) (ds:=[]) #[false,false,false,false,false,false,false,false,false,false,false,false,false,false,false,false,false,false,false,false,false] (by kernel_rfl) rfl rfl trivial (fun hHeld=>?_);refine with_tabW penumbralaw04_DecimalBack.tab5 penumbralaw04_DecimalBack.bits5 (fun HT_ HW_=>?_)
     generalize w90.drew=w91 at HO919 HO922 BK911 BK912 BK924 HB hHeld ⊢
     refine one_ (i:=0) (N:=some 41) #[true,false,false,false,false,false,false,false,false,false,false,false,false,false,false,false,false,false,false,false,false] rfl rfl (one_of HT_.out (by kernel_rfl)) (by decide) (fun K hK=>?_)
     refine goes_ Tryd.func8 (by kernel_rfl) rfl #[] (by rfl) rfl rfl (by (try simp only [List.map_toArray,List.map_cons,List.map_nil]);first|done|rfl) ?_
     with_reducible refine (penumbralaw04_fixed.calls kj2  false _ A25.out).mono ?_
     rintro e w92 ⟨rfl,hb⟩
     refine ⟨_,rfl,?_⟩
     have n0_:=Aside0.mk (Kd.R_below (Ru HO919.out) hb)
     have n1_:=Aside0.mk (Kd.R_below (Ru HO922.out) hb)
     have n2_:=Aside0.mk (blk_below (g:=gb911) (o:=.cells #[.bool a0_0,.slice A0_1 l0_1.length c0_1,.slice A0_2 l0_2.length c0_2] 25 (0,0)) (Bu BK911.out) hb)
     have n3_:=Aside0.mk (blk_below (g:=gb912) (o:=.cells #[.bool a1_0,.slice A1_1 l1_1.length c1_1,.slice A1_2 l1_2.length c1_2] 25 (0,0)) (Bu BK912.out) hb)
     have n4_:=Aside0.mk (blk_below (g:=gb924) (o:=.cells #[.bool t916,.slice Ao88 t917.length co88,.slice Ao89 t920.length co89] 25 (0,0)) (Bu BK924.out) hb)
     have n5_:=Aside0.mk (below_step (by repeat (first|with_reducible exact HB.out|apply ba|apply bn|apply b1|refine below_set ?_ GE911.out|refine below_set ?_ GE912.out|refine below_set ?_ GE924.out)) hb)
     clear HO919
     clear HO922
     clear BK911
     clear BK912
     clear BK924
     clear HB
     have HO919:=n0_
     have HO922:=n1_
     have BK911:=n2_
     have BK912:=n3_
     have BK924:=n4_
     have HB:=n5_
     clear n0_ n1_ n2_ n3_ n4_ n5_
     (try clear hb)
     (try clear hb2)
     (try clear hk)
     (try clear hi)
     refine hK.out _ _ trivial (fun hHeld=>?_)
     clear hK K
     refine norm_ (a':=?_) ?_ ?_
     rotate_left
     ·show Act.put _ (some 41) _=_
      simp only [Act.put,s0,s1,s2,i64_w,i32_w]
      rfl
     refine pv (i:=1) (N:=some 42) (v:=?_) (a':=?_) rfl rfl (any_of HT_.out (by kernel_rfl)) (Or.inl ⟨by rfl,?_⟩) ?_ ?_
     rotate_left
     ·intro w'
      go_simp
      with_reducible rfl
     rotate_left
     ·simp only [Act.put,s0,s1,s2,i64_w,i32_w]
      rfl
     refine pv (i:=2) (N:=some 43) (v:=undef) (a':=?_) rfl rfl (any_of HT_.out (by kernel_rfl)) (Or.inr ⟨by rfl,rfl⟩) ?_ ?_
     rotate_left
     ·simp only [Act.put,s0,s1,s2,i64_w,i32_w]
      rfl
     refine pv (i:=3) (N:=some 44) (v:=undef) (a':=?_) rfl rfl (any_of HT_.out (by kernel_rfl)) (Or.inr ⟨by rfl,rfl⟩) ?_ ?_
     rotate_left
     ·simp only [Act.put,s0,s1,s2,i64_w,i32_w]
      rfl
     refine pv (i:=4) (N:=some 45) (v:=?_) (a':=?_) rfl rfl (any_of HT_.out (by kernel_rfl)) (Or.inl ⟨by rfl,?_⟩) ?_ ?_
     rotate_left
     ·intro w'
      go_simp
      with_reducible rfl
     rotate_left
     ·simp only [Act.put,s0,s1,s2,i64_w,i32_w]
      rfl
     refine pv (i:=5) (N:=some 46) (v:=?_) (a':=?_) rfl rfl (any_of HT_.out (by kernel_rfl)) (Or.inl ⟨by rfl,?_⟩) ?_ ?_
     rotate_left
     ·intro w'
      go_simp
      with_reducible rfl
     rotate_left
     ·simp only [Act.put,s0,s1,s2,i64_w,i32_w]
      rfl
     refine pv (i:=6) (N:=some 47) (v:=undef) (a':=?_) rfl rfl (any_of HT_.out (by kernel_rfl)) (Or.inr ⟨by rfl,rfl⟩) ?_ ?_
     rotate_left
     ·simp only [Act.put,s0,s1,s2,i64_w,i32_w]
      rfl
     refine pv (i:=7) (N:=some 48) (v:=undef) (a':=?_) rfl rfl (any_of HT_.out (by kernel_rfl)) (Or.inr ⟨by rfl,rfl⟩) ?_ ?_
     rotate_left
     ·simp only [Act.put,s0,s1,s2,i64_w,i32_w]
      rfl
     refine pv (i:=8) (N:=some 49) (v:=undef) (a':=?_) rfl rfl (any_of HT_.out (by kernel_rfl)) (Or.inr ⟨by rfl,rfl⟩) ?_ ?_
     rotate_left
     ·simp only [Act.put,s0,s1,s2,i64_w,i32_w]
      rfl
     refine pv (i:=9) (N:=some 50) (v:=undef) (a':=?_) rfl rfl (any_of HT_.out (by kernel_rfl)) (Or.inr ⟨by rfl,rfl⟩) ?_ ?_
     rotate_left
     ·simp only [Act.put,s0,s1,s2,i64_w,i32_w]
      rfl
     refine pv (i:=10) (N:=some 51) (v:=?_) (a':=?_) rfl rfl (any_of HT_.out (by kernel_rfl)) (Or.inl ⟨by rfl,?_⟩) ?_ ?_
     rotate_left
     ·intro w'
      go_simp
      with_reducible rfl
     rotate_left
     ·simp only [Act.put,s0,s1,s2,i64_w,i32_w]
      rfl
     refine pv (i:=11) (N:=some 52) (v:=?_) (a':=?_) rfl rfl (any_of HT_.out (by kernel_rfl)) (Or.inl ⟨by rfl,?_⟩) ?_ ?_
     rotate_left
     ·intro w'
      go_simp
      with_reducible rfl
     rotate_left
     ·simp only [Act.put,s0,s1,s2,i64_w,i32_w]
      rfl
     refine pv (i:=12) (N:=some 53) (v:=undef) (a':=?_) rfl rfl (any_of HT_.out (by kernel_rfl)) (Or.inr ⟨by rfl,rfl⟩) ?_ ?_
     rotate_left
     ·simp only [Act.put,s0,s1,s2,i64_w,i32_w]
      rfl
     refine pv (i:=13) (N:=some 54) (v:=undef) (a':=?_) rfl rfl (any_of HT_.out (by kernel_rfl)) (Or.inr ⟨by rfl,rfl⟩) ?_ ?_
     rotate_left
     ·simp only [Act.put,s0,s1,s2,i64_w,i32_w]
      rfl
     refine pv (i:=14) (N:=some 55) (v:=undef) (a':=?_) rfl rfl (any_of HT_.out (by kernel_rfl)) (Or.inr ⟨by rfl,rfl⟩) ?_ ?_
     rotate_left
     ·simp only [Act.put,s0,s1,s2,i64_w,i32_w]
      rfl
     refine pv (i:=15) (N:=some 56) (v:=undef) (a':=?_) rfl rfl (any_of HT_.out (by kernel_rfl)) (Or.inr ⟨by rfl,rfl⟩) ?_ ?_
     rotate_left
     ·simp only [Act.put,s0,s1,s2,i64_w,i32_w]
      rfl
     refine pv (i:=16) (N:=some 57) (v:=undef) (a':=?_) rfl rfl (any_of HT_.out (by kernel_rfl)) (Or.inr ⟨by rfl,rfl⟩) ?_ ?_
     rotate_left
     ·simp only [Act.put,s0,s1,s2,i64_w,i32_w]
      rfl
     refine pv (i:=17) (N:=some 58) (v:=undef) (a':=?_) rfl rfl (any_of HT_.out (by kernel_rfl)) (Or.inr ⟨by rfl,rfl⟩) ?_ ?_
     rotate_left
     ·simp only [Act.put,s0,s1,s2,i64_w,i32_w]
      rfl
     refine pv (i:=18) (N:=some 59) (v:=undef) (a':=?_) rfl rfl (any_of HT_.out (by kernel_rfl)) (Or.inr ⟨by rfl,rfl⟩) ?_ ?_
     rotate_left
     ·simp only [Act.put,s0,s1,s2,i64_w,i32_w]
      rfl
     refine pv (i:=19) (N:=some 60) (v:=?_) (a':=?_) rfl rfl (any_of HT_.out (by kernel_rfl)) (Or.inl ⟨by rfl,?_⟩) ?_ ?_
     rotate_left
     ·intro w'
      go_simp
      with_reducible rfl
     rotate_left
     ·simp only [Act.put,s0,s1,s2,i64_w,i32_w]
      rfl
     refine pv (i:=20) (N:=some 4) (v:=?_) (a':=?_) rfl rfl (any_of HT_.out (by kernel_rfl)) (Or.inl ⟨by rfl,?_⟩) ?_ ?_
     rotate_left
     ·intro w'
      go_simp
      with_reducible rfl
     rotate_left
     ·simp only [Act.put,s0,s1,s2,i64_w,i32_w]
      rfl
     refine done_ (done_of HT_.out (by kernel_rfl)) ?_
     try go_wp2
     go_ret
     exact ⟨by first|rfl|(simp [errW_none,errW_some] <;> rfl)|(simp [*,errW_none,errW_some] <;> rfl),by repeat (first|with_reducible exact HB.out|apply ba|apply bn|apply b1|refine below_set ?_ GE911.out|refine below_set ?_ GE912.out|refine below_set ?_ GE924.out)⟩
end Go.Proofs.YtncdiodnbkhacaaDoor.Pq
end
section
namespace Go.Proofs.YtncdiodnbkhacaaDoor.N
set_option linter.unusedVariables false
set_option linter.unusedSimpArgs false
open Go.RowKit Go.Proofs.YtncdiodnbkhacaaDoorW.PrintWords
def V : List Int→Int
|[]=>0
|x :: l=>x+4294967296 * V l
def W (l : List Int) : Prop:=∀ x∈l,0≤x∧x < 4294967296
def P (n : Nat) : Int:=4294967296 ^ n
theorem P_zero : P 0=1:=rfl
theorem P_succ (n : Nat) : P (n+1)=4294967296 * P n:=by unfold P;rw [Int.pow_succ,Int.mul_comm]
theorem P_pos (n : Nat) : 0 < P n:=by
 induction n with
|zero=>decide
|succ n ih=>rw [P_succ];omega
theorem P_add (m n : Nat) : P (m+n)=P m * P n:=by unfold P;rw [Int.pow_add]
theorem P_one_le (n : Nat) : 1≤P n:=by have:=P_pos n;omega
theorem P_le {m n : Nat} (h : m≤n) : P m≤P n:=by
 obtain ⟨d,rfl⟩:=Nat.exists_eq_add_of_le h
 rw [P_add]
 have h1:=P_pos m
 have h2:=P_one_le d
 have h3 : P m * 1≤P m * P d:=Int.mul_le_mul_of_nonneg_left h2 (by omega)
 omega
theorem W_nil : W []:=fun _ h=>by cases h
theorem W_cons {x : Int} {l : List Int} : W (x :: l)↔(0≤x∧x < 4294967296)∧W l:=by
 constructor
 ·exact fun h=>⟨h x (List.mem_cons_self ..),fun y hy=>h y (List.mem_cons_of_mem _ hy)⟩
 ·rintro ⟨h1,h2⟩ y hy
  rcases List.mem_cons.1 hy with rfl|hy
  ·exact h1
  ·exact h2 y hy
theorem W_append {l m : List Int} (h : W l) (k : W m) : W (l++m):=fun x hx=>by
 rcases List.mem_append.1 hx with hx|hx
 ·exact h x hx
 ·exact k x hx
theorem W_one {x : Int} (h0 : 0≤x) (h1 : x < 4294967296) : W [x]:=W_cons.2 ⟨⟨h0,h1⟩,W_nil⟩
theorem W_take {l : List Int} (h : W l) (n : Nat) : W (l.take n):=fun x hx=>h x (List.mem_of_mem_take hx)
theorem W_drop {l : List Int} (h : W l) (n : Nat) : W (l.drop n):=fun x hx=>h x (List.mem_of_mem_drop hx)
theorem W_set {l : List Int} (h : W l) (i : Nat) {x : Int} (h0 : 0≤x) (h1 : x < 4294967296) : W (l.set i x):=fun y hy=>by
 rcases List.mem_or_eq_of_mem_set hy with hy|rfl
 ·exact h y hy
 ·exact ⟨h0,h1⟩
theorem W_replicate (n : Nat) : W (List.replicate n 0):=fun x hx=>by
 have:=List.eq_of_mem_replicate hx
 omega
theorem W_rd {l : List Int} (h : W l) (i : Int) : 0≤rd l i∧rd l i < 4294967296:=by
 unfold rd
 by_cases hi : i.toNat < l.length
 ·have e : l.getD i.toNat 0=l[i.toNat]:=by simp [List.getD_eq_getElem?_getD,hi]
  rw [e]
  exact h _ (List.getElem_mem hi)
 ·have e : l.getD i.toNat 0=0:=by simp [List.getD_eq_getElem?_getD,List.getElem?_eq_none (Nat.le_of_not_lt hi)]
  omega
theorem V_nil : V []=0:=rfl
theorem V_cons (x : Int) (l : List Int) : V (x :: l)=x+4294967296 * V l:=rfl
theorem V_one (x : Int) : V [x]=x:=by simp [V]
theorem V_nonneg {l : List Int} (h : W l) : 0≤V l:=by
 induction l with
|nil=>exact Int.le_refl _
|cons x l ih =>
  obtain ⟨h1,h2⟩:=W_cons.1 h
  have:=ih h2
  rw [V_cons]
  omega
theorem V_lt {l : List Int} (h : W l) : V l < P l.length:=by
 induction l with
|nil=>decide
|cons x l ih =>
  obtain ⟨h1,h2⟩:=W_cons.1 h
  have:=ih h2
  rw [V_cons,List.length_cons,P_succ]
  omega
theorem V_append (l m : List Int) : V (l++m)=V l+P l.length * V m:=by
 induction l with
|nil=>simp [V,P]
|cons x l ih =>
  rw [List.cons_append,V_cons,V_cons,ih,List.length_cons,P_succ]
  grind
theorem V_snoc (l : List Int) (x : Int) : V (l++[x])=V l+P l.length * x:=by rw [V_append,V_one]
theorem V_replicate (n : Nat) : V (List.replicate n 0)=0:=by
 induction n with
|zero=>rfl
|succ n ih=>rw [List.replicate_succ,V_cons,ih];rfl
theorem take_succ_rd (l : List Int) (i : Nat) (h : i < l.length) : l.take (i+1)=l.take i++[rd l (i : Int)]:=by
 rw [List.take_succ_eq_append_getElem h]
 simp [rd,List.getD_eq_getElem?_getD,h]
theorem V_take_succ (l : List Int) (i : Nat) (h : i < l.length) : V (l.take (i+1))=V (l.take i)+P i * rd l (i : Int):=by
 rw [take_succ_rd l i h,V_snoc,List.length_take,Nat.min_eq_left (by omega)]
theorem rd_beyond (l : List Int) (i : Int) (h : l.length≤i.toNat) : rd l i=0:=by
 simp [rd,List.getD_eq_getElem?_getD,List.getElem?_eq_none h]
theorem V_take_succ' (l : List Int) (i : Nat) : V (l.take (i+1))=V (l.take i)+P i * rd l (i : Int):=by
 by_cases h : i < l.length
 ·exact V_take_succ l i h
 ·rw [rd_beyond l i (by simpa using h),List.take_of_length_le (by omega),List.take_of_length_le (by omega)]
  simp
theorem V_take_all (l : List Int) (n : Nat) (h : l.length≤n) : V (l.take n)=V l:=by rw [List.take_of_length_le h]
theorem V_split (l : List Int) (n : Nat) (h : n≤l.length) : V l=V (l.take n)+P n * V (l.drop n):=by
 have h1:=V_append (l.take n) (l.drop n)
 rw [List.take_append_drop,List.length_take,Nat.min_eq_left h] at h1
 exact h1
theorem V_split' (l : List Int) (n : Nat) : V l=V (l.take n)+P n * V (l.drop n):=by
 by_cases h : n≤l.length
 ·exact V_split l n h
 ·rw [List.take_of_length_le (by omega),List.drop_of_length_le (by omega),V_nil]
  simp
theorem V_set (l : List Int) (i : Nat) (x : Int) (h : i < l.length) : V (l.set i x)=V l+P i * (x - rd l (i : Int)):=by
 induction l generalizing i with
|nil=>cases h
|cons y l ih =>
  cases i with
 |zero=>simp [V,rd,P];omega
 |succ i =>
   rw [List.set_cons_succ,V_cons,V_cons,ih i (by simpa using h),P_succ]
   have e : rd (y :: l) ((i+1 : Nat) : Int)=rd l (i : Int):=by simp only [rd,Int.toNat_natCast,List.getD_cons_succ]
   rw [e]
   grind
theorem rd_set_eq (l : List Int) (i : Nat) (x : Int) (h : i < l.length) : rd (l.set i x) (i : Int)=x:=by
 simp [rd,List.getD_eq_getElem?_getD,h]
theorem rd_set_ne (l : List Int) (i : Nat) (x : Int) (j : Int) (h : j.toNat≠i) : rd (l.set i x) j=rd l j:=by
 simp only [rd,List.getD_eq_getElem?_getD]
 rw [List.getElem?_set_ne (by omega)]
theorem rd_replicate (n : Nat) (i : Int) : rd (List.replicate n 0) i=0:=by
 simp only [rd,List.getD_eq_getElem?_getD,List.getElem?_replicate]
 split <;> rfl
def L (n : Int) : List Int:=if h : 0 < n then n % 4294967296 :: L (n / 4294967296) else []
termination_by n.toNat
decreasing_by omega
theorem L_zero : L 0=[]:=by unfold L;rfl
theorem L_pos {n : Int} (h : 0 < n) : L n=n % 4294967296 :: L (n / 4294967296):=by
 conv=>lhs;unfold L
 rw [dif_pos h]
theorem L_neg {n : Int} (h : n≤0) : L n=[]:=by
 unfold L
 rw [dif_neg (by omega)]
theorem V_L : ∀ {n : Int},0≤n→V (L n)=n:=by
 have H : ∀ (k : Nat) (n : Int),n.toNat≤k→0≤n→V (L n)=n:=by
  intro k
  induction k with
 |zero=>intro n h h0;rw [show n=0 by omega,L_zero];rfl
 |succ k ih =>
   intro n h h0
   rcases Int.lt_or_eq_of_le h0 with hp|rfl
   ·rw [L_pos hp,V_cons,ih (n / 4294967296) (by omega) (by omega)]
    omega
   ·rw [L_zero];rfl
 exact fun {n} h=>H n.toNat n (Nat.le_refl _) h
theorem W_L : ∀ (n : Int),W (L n):=by
 have H : ∀ (k : Nat) (n : Int),n.toNat≤k→W (L n):=by
  intro k
  induction k with
 |zero=>intro n h;rw [L_neg (by omega)];exact W_nil
 |succ k ih =>
   intro n h
   by_cases hp : 0 < n
   ·rw [L_pos hp]
    exact W_cons.2 ⟨by omega,ih _ (by omega)⟩
   ·rw [L_neg (by omega)];exact W_nil
 exact fun n=>H n.toNat n (Nat.le_refl _)
theorem L_length_le : ∀ (m : Nat) {n : Int},n < P m→(L n).length≤m:=by
 intro m
 induction m with
|zero =>
  intro n h
  rw [P_zero] at h
  rw [L_neg (by omega)]
  exact Nat.le_refl _
|succ m ih =>
  intro n h
  rw [P_succ] at h
  by_cases hp : 0 < n
  ·rw [L_pos hp,List.length_cons]
   have:=ih (n:=n / 4294967296) (by omega)
   omega
  ·rw [L_neg (by omega)]
   exact Nat.zero_le _
theorem L_length_lt {m : Nat} {n : Int} (h : P m≤n) : m < (L n).length:=by
 rcases Nat.lt_or_ge m (L n).length with hlt|hge
 ·exact hlt
 ·have h0 : 0≤n:=by have:=P_pos m;omega
  have h1:=V_lt (W_L n)
  rw [V_L h0] at h1
  have:=P_le hge
  omega
theorem L_nil_iff {n : Int} (h : 0≤n) : L n=[]↔n=0:=by
 constructor
 ·intro e
  have:=V_L h
  rw [e] at this
  exact this.symm
 ·rintro rfl
  exact L_zero
theorem L_inj {m n : Int} (hm : 0≤m) (hn : 0≤n) (h : L m=L n) : m=n:=by rw [← V_L hm,← V_L hn,h]
theorem L_V : ∀ {l : List Int},W l→(∀ h : l≠[],l.getLast h≠0)→L (V l)=l:=by
 intro l
 induction l with
|nil=>intro _ _;exact L_zero
|cons x l ih =>
  intro hw hl
  obtain ⟨h1,h2⟩:=W_cons.1 hw
  have hv:=V_nonneg h2
  have hih : L (V l)=l:=ih h2 (fun hne=>by
   have:=hl (by simp)
   rwa [List.getLast_cons hne] at this)
  have hp : 0 < V (x :: l):=by
   rw [V_cons]
   by_cases hne : l=[]
   ·subst hne
    have:=hl (by simp)
    simp at this
    simp [V]
    omega
   ·have : V l≠0:=fun e=>hne (by rw [← hih,e,L_zero])
    omega
  rw [L_pos hp,V_cons,show (x+4294967296 * V l) % 4294967296=x by omega,show (x+4294967296 * V l) / 4294967296=V l by omega,hih]
theorem L_last {n : Int} : ∀ h : L n≠[],(L n).getLast h≠0:=by
 have H : ∀ (k : Nat) (n : Int),n.toNat≤k → ∀ h : L n≠[],(L n).getLast h≠0:=by
  intro k
  induction k with
 |zero=>intro n h hne;exact absurd (L_neg (by omega)) hne
 |succ k ih =>
   intro n h hne
   by_cases hp : 0 < n
   ·have e:=L_pos hp
    by_cases hz : L (n / 4294967296)=[]
    ·have hz0:=(L_nil_iff (show 0≤n / 4294967296 by omega)).1 hz
     have : (L n).getLast hne=n % 4294967296:=by
      simp only [e,hz,List.getLast_singleton]
     rw [this]
     omega
    ·have:=ih (n / 4294967296) (by omega) hz
     have e2 : (L n).getLast hne=(L (n / 4294967296)).getLast hz:=by
      simp only [e,List.getLast_cons hz]
     rw [e2]
     exact this
   ·exact absurd (L_neg (by omega)) hne
 exact H n.toNat n (Nat.le_refl _)
theorem V_take_lt {a : List Int} (h : W a) (i : Nat) : V (a.take i) < P i:=by
 have h1:=V_lt (W_take h i)
 have h2 : (a.take i).length≤i:=List.length_take_le _ _
 have:=P_le h2
 omega
theorem P_mul_lt {i : Nat} {x y p q : Int} (hp0 : 0≤p) (hp : p < P i) (hq0 : 0≤q) (h : x < y) : p+P i * x < q+P i * y:=by
 have h1 : P i * (x+1)≤P i * y:=Int.mul_le_mul_of_nonneg_left (by omega) (by have:=P_pos i;omega)
 rw [Int.mul_add] at h1
 omega
theorem wrap64_of {x : Int} (h0 : -9223372036854775808≤x) (h1 : x≤9223372036854775807) : wrap64 x=x:=by unfold wrap64;omega
theorem wrap_u64_of {x : Int} (h0 : 0≤x) (h1 : x < 18446744073709551616) : IntKind.u64.wrap x=x:=by
 simp only [IntKind.wrap,IntKind.bits,IntKind.signed]
 simp
 omega
theorem wf_of {l : List Int} (h : ∀ x∈l,(Lit.int .u32 x).wf=true) : W l:=fun x hx=>by
 have h1:=h x hx
 simp [Lit.wf] at h1
 have e1 : IntKind.u32.min=0:=rfl
 have e2 : IntKind.u32.max=4294967295:=rfl
 omega
attribute [irreducible] P V
end Go.Proofs.YtncdiodnbkhacaaDoor.N
end
section
namespace Go.Proofs.YtncdiodnbkhacaaDoor.N
set_option linter.unusedVariables false
set_option linter.unusedSimpArgs false
open Go.RowKit Go.Proofs.YtncdiodnbkhacaaDoorW.PrintWords Go.Proofs.YtncdiodnbkhacaaDoorW.PrintLast Go.Proofs.YtncdiodnbkhacaaDoor.Pq
theorem Ev_pos {α : Type} {c : Prop} [Decidable c] {f g : Nat→Option α} {r : α} (hc : c) (h : Ev f r) : Ev (fun k=>if c then f k else g k) r:=Ev.congr (fun k=>if_pos hc) h
theorem Ev_neg {α : Type} {c : Prop} [Decidable c] {f g : Nat→Option α} {r : α} (hc : ¬ c) (h : Ev g r) : Ev (fun k=>if c then f k else g k) r:=Ev.congr (fun k=>if_neg hc) h
theorem Ev_some {α β : Type} {o : Option α} {f : Nat→α→Option β} {a : α} {r : β} (h : o=some a) (k : Ev (fun n=>f n a) r) : Ev (fun n=>o.bind (f n)) r:=by
 subst h
 exact k
theorem Ev_now {α : Type} {o : Option α} {r : α} (h : o=some r) : Ev (fun _=>o) r:=⟨0,fun _ _=>h⟩
theorem Ev_eq {α : Type} {f : Nat→Option α} {r s : α} (h : Ev f r) (e : r=s) : Ev f s:=e ▸ h
theorem Ev_up {α : Type} {f : Nat→Option α} {r : α} (h : Ev (fun k=>f (k+1)) r) : Ev f r:=Ev.step (fun k=>rfl) h
theorem n_take {l : List Int} (hw : W l) : ∀ m,m≤l.length→l.take (nat_trim.n l m)=L (V (l.take m))
|0,_=>by
  show l.take 0=_
  rw [List.take_zero,V_nil,L_zero]
|m+1,h=>by
  have hv:=V_take_succ l m (by omega)
  show l.take (if l.getD m 0=0 then nat_trim.n l m else m+1)=_
  have hrd : rd l (m : Int)=l.getD m 0:=rfl
  by_cases hz : l.getD m 0=0
  ·rw [if_pos hz,n_take hw m (by omega),hv,hrd,hz]
   simp
  ·rw [if_neg hz]
   refine (L_V (W_take hw _) (fun hne=>?_)).symm
   have e:=take_succ_rd l m (by omega)
   have : (l.take (m+1)).getLast hne=rd l (m : Int):=by
    simp only [e,List.getLast_append,List.getLast_singleton]
    simp
   rw [this,hrd]
   exact hz
theorem trim_f {l : List Int} (hw : W l) : nat_trim.f l=some (L (V l)):=by
 unfold nat_trim.f
 rw [n_take hw l.length (Nat.le_refl _),List.take_length]
theorem L_len_le {l : List Int} (hw : W l) : (L (V l)).length≤l.length:=L_length_le _ (V_lt hw)
abbrev Sm (l : List Int) : Prop:=l.length < 35184372087809
theorem Sm_L {l : List Int} (hw : W l) (h : Sm l) : Sm (L (V l)):=Nat.lt_of_le_of_lt (L_len_le hw) h
theorem clone_f {l : List Int} (h : l.length < 35184372088832) : slices_Clone_uint32_uint32.f l=some l:=if_pos h
theorem norm_f {l : List Int} (hw : W l) (h : Sm l) : nat_Norm.f l=some (L (V l)):=by
 have hl:=Sm_L hw h
 unfold nat_Norm.f
 rw [trim_f hw,Option.bind_some,clone_f (by unfold Sm at hl;omega),Option.bind_some]
theorem same_l (a : List Int) (h : a.length < 4611686018427387904) : ∀ (d m : Nat),a.length - m=d→m≤a.length→Ev (fun k=>penumbraref01_Same.l0 k a a (m : Int)) true
|0,m,hd,hm=>by
  refine Ev.step (fun k=>rfl) ?_
  refine Ev_neg (by omega) ?_
  exact Ev.now _
|d+1,m,hd,hm=>by
  have w1 : wrap64 ((m : Int)+1)=((m+1 : Nat) : Int):=by unfold wrap64;omega
  refine Ev.step (fun k=>rfl) ?_
  refine Ev_pos (by omega) ?_
  refine Ev_pos (by omega) ?_
  refine Ev_pos (by omega) ?_
  refine Ev_pos rfl ?_
  rw [w1]
  exact same_l a h d (m+1) (by omega) (by omega)
theorem same_f {a : List Int} (h : a.length < 4611686018427387904) : Ev (fun k=>penumbraref01_Same.f k a a) true:=by
 refine Ev_pos rfl ?_
 exact same_l a h a.length 0 (by omega) (by omega)
theorem add32_f {a b c : Int} (ha : 0≤a∧a < 4294967296) (hb : 0≤b∧b < 4294967296) (hc : 0≤c∧c≤1) : bits_Add32.f a b c=some ((a+b+c) % 4294967296,(a+b+c) / 4294967296):=by
 unfold bits_Add32.f
 rw [wrap_u64_of ha.1 (by omega),wrap_u64_of hb.1 (by omega),wrap_u64_of hc.1 (by omega),wrap_u64_of (x:=a+b) (by omega) (by omega),wrap_u64_of (x:=a+b+c) (by omega) (by omega)]
 rw [show ((a+b+c) / 4294967296) % 4294967296=(a+b+c) / 4294967296 by omega]
theorem sub32_f {a b c : Int} (ha : 0≤a∧a < 4294967296) (hb : 0≤b∧b < 4294967296) (hc : 0≤c∧c≤1) : bits_Sub32.f a b c=some ((a - b - c) % 4294967296,bits_Sub32.b a b c):=by
 unfold bits_Sub32.f
 rw [if_pos ⟨ha,hb,hc⟩]
def cm (x y : Int) : Int:=if x < y then -1 else if y < x then 1 else 0
theorem cmp_step (a b : List Int) (i : Nat) (ha : W a) (hb : W b) : cm (V (a.take (i+1))) (V (b.take (i+1)))=if rd a (i : Int) < rd b (i : Int) then -1 else if rd a (i : Int) > rd b (i : Int) then 1 else cm (V (a.take i)) (V (b.take i)):=by
 rw [V_take_succ',V_take_succ']
 have a1:=V_nonneg (W_take ha i)
 have a2:=V_take_lt ha i
 have b1:=V_nonneg (W_take hb i)
 have b2:=V_take_lt hb i
 rcases Int.lt_trichotomy (rd a (i : Int)) (rd b (i : Int)) with h|h|h
 ·rw [if_pos h]
  unfold cm
  rw [if_pos (P_mul_lt a1 a2 b1 h)]
 ·rw [if_neg (by omega),if_neg (by omega),h]
  unfold cm
  generalize P i * rd b (i : Int)=z
  by_cases h1 : V (a.take i) < V (b.take i)
  ·rw [if_pos h1,if_pos (by omega)]
  ·rw [if_neg h1,if_neg (by omega)]
   by_cases h2 : V (b.take i) < V (a.take i)
   ·rw [if_pos h2,if_pos (by omega)]
   ·rw [if_neg h2,if_neg (by omega)]
 ·have:=P_mul_lt b1 b2 a1 h
  rw [if_neg (by omega),if_pos h]
  unfold cm
  rw [if_neg (by omega),if_pos this]
theorem ncmp_l {a b : List Int} (ha : W a) (hb : W b) (hl : a.length=b.length) (hs : a.length < 35184372087809) : ∀ (m : Nat),m≤a.length→Ev (fun k=>nat_Cmp.l0 k a b ((m : Int) - 1)) (cm (V (a.take m)) (V (b.take m)))
|0,_=>by
  refine Ev.step (fun k=>rfl) ?_
  refine Ev_neg (by omega) ?_
  exact Ev_now (by simp [cm])
|m+1,h=>by
  have e : ((m+1 : Nat) : Int) - 1=(m : Int):=by omega
  have w1 : wrap64 ((m : Int) - 1)=(m : Int) - 1:=by unfold wrap64;omega
  rw [e,cmp_step a b m ha hb]
  refine Ev.step (fun k=>rfl) ?_
  refine Ev_pos (by omega) ?_
  refine Ev_pos (by omega) ?_
  refine Ev_pos (by omega) ?_
  refine Ev_pos (by omega) ?_
  by_cases h1 : rd a (m : Int) < rd b (m : Int)
  ·rw [if_pos h1]
   refine Ev_pos h1 ?_
   exact Ev.now _
  ·rw [if_neg h1]
   refine Ev_neg h1 ?_
   by_cases h2 : rd a (m : Int) > rd b (m : Int)
   ·rw [if_pos h2]
    refine Ev_pos h2 ?_
    exact Ev.now _
   ·rw [if_neg h2,w1]
    refine Ev_neg h2 ?_
    exact ncmp_l ha hb hl hs m (by omega)
theorem ncmp_f {a b : List Int} (ha : W a) (hb : W b) (sa : Sm a) (sb : Sm b) : Ev (fun k=>nat_Cmp.f k a b) (cm (V a) (V b)):=by
 have hla:=Sm_L ha sa
 have hlb:=Sm_L hb sb
 unfold Sm at hla hlb
 have va:=V_nonneg ha
 have vb:=V_nonneg hb
 have A:=V_lt (W_L (V a))
 have Bv:=V_lt (W_L (V b))
 rw [V_L va] at A
 rw [V_L vb] at Bv
 refine Ev_some (trim_f ha) ?_
 refine Ev_some (trim_f hb) ?_
 rcases Nat.lt_trichotomy (L (V a)).length (L (V b)).length with h|h|h
 ·refine Ev_neg (by omega) ?_
  refine Ev_pos (by omega) ?_
  refine Ev_now ?_
  have : V a < V b:=by
   by_cases h1 : V a < V b
   ·exact h1
   ·have:=L_length_le (L (V a)).length (n:=V b) (by omega)
    omega
  unfold cm
  rw [if_pos this]
 ·refine Ev_pos (by omega) ?_
  have w1 : wrap64 (((L (V a)).length : Int) - 1)=((L (V a)).length : Int) - 1:=by unfold wrap64;omega
  rw [w1]
  refine Ev_eq (ncmp_l (W_L _) (W_L _) h hla _ (Nat.le_refl _)) ?_
  rw [List.take_length,h,List.take_length,V_L va,V_L vb]
 ·refine Ev_neg (by omega) ?_
  refine Ev_neg (by omega) ?_
  refine Ev_now ?_
  have : V b < V a:=by
   by_cases h1 : V b < V a
   ·exact h1
   ·have:=L_length_le (L (V b)).length (n:=V a) (by omega)
    omega
  unfold cm
  rw [if_neg (by omega),if_pos this]
theorem nadd_l0 {a b : List Int} (ha : W a) (hb : W b) (hl : b.length≤a.length) (sa : Sm a) : ∀ (d i : Nat) (p : List Int) (c : Int),a.length - i=d→i≤a.length→W p→p.length=i→0≤c∧c≤1 →
  V p+P i * c=V (a.take i)+V (b.take i)→Ev (fun k=>nat_Add.l0 k b p c a (a.length : Int) (i : Int)) (L (V a+V b)):=by
 intro d
 induction d with
|zero =>
  intro i p c hd hi hp hpl hc hv
  have sa' : a.length < 35184372087809:=sa
  obtain rfl : i=a.length:=by omega
  refine Ev.step (fun k=>rfl) ?_
  refine Ev_neg (by omega) ?_
  refine Ev_pos (by omega) ?_
  refine Ev_some (trim_f (W_append hp (W_one hc.1 (by omega)))) ?_
  refine Ev_now ?_
  rw [V_snoc,hpl,hv,List.take_length,V_take_all b _ hl]
|succ d ih =>
  intro i p c hd hi hp hpl hc hv
  have HV:=Aside0.mk hv
  clear hv
  have sa' : a.length < 35184372087809:=sa
  have w1 : wrap64 ((i : Int)+1)=((i+1 : Nat) : Int):=by unfold wrap64;omega
  have ra:=W_rd ha (i : Int)
  have rb:=W_rd hb (i : Int)
  have key : Aside0 (V (p++[(rd a (i : Int)+rd b (i : Int)+c) % 4294967296])+P (i+1) * ((rd a (i : Int)+rd b (i : Int)+c) / 4294967296)=V (a.take (i+1))+V (b.take (i+1))):=⟨by
   have hv:=HV.out
   rw [V_snoc,hpl,V_take_succ' a i,V_take_succ' b i,P_succ]
   have:=Int.emod_add_mul_ediv (rd a (i : Int)+rd b (i : Int)+c) 4294967296
   grind⟩
  have hrec:=ih (i+1) (p++[(rd a (i : Int)+rd b (i : Int)+c) % 4294967296]) ((rd a (i : Int)+rd b (i : Int)+c) / 4294967296) (by omega) (by omega) (W_append hp (W_one (by omega) (by omega))) (by simp [hpl]) (by omega) key.out
  refine Ev.step (fun k=>rfl) ?_
  refine Ev_pos (by omega) ?_
  refine Ev_pos (by omega) ?_
  refine Ev_pos (by omega) ?_
  by_cases hib : (i : Int) < (b.length : Int)
  ·refine Ev_pos hib ?_
   refine Ev_some (add32_f ra rb hc) ?_
   refine Ev_pos (by omega) ?_
   rw [w1]
   exact hrec
  ·have hz : rd b (i : Int)=0:=rd_beyond b _ (by omega)
   rw [hz] at hrec rb
   refine Ev_neg hib ?_
   refine Ev_some (add32_f ra rb hc) ?_
   refine Ev_pos (by omega) ?_
   rw [w1]
   exact hrec
theorem nadd_l100 {a b : List Int} (ha : W a) (hb : W b) (hl : b.length≤a.length) (sa : Sm a) : ∀ (d i : Nat) (p : List Int) (c : Int),a.length - i=d→i≤a.length→W p→p.length=i→0≤c∧c≤1 →
  V p+P i * c=V (a.take i)+V (b.take i)→Ev (fun k=>nat_Add.l100 k b p c a (a.length : Int) (i : Int)) (L (V a+V b)):=by
 intro d
 induction d with
|zero =>
  intro i p c hd hi hp hpl hc hv
  have sa' : a.length < 35184372087809:=sa
  obtain rfl : i=a.length:=by omega
  refine Ev.step (fun k=>rfl) ?_
  refine Ev_neg (by omega) ?_
  refine Ev_pos (by omega) ?_
  refine Ev_some (trim_f (W_append hp (W_one hc.1 (by omega)))) ?_
  refine Ev_now ?_
  rw [V_snoc,hpl,hv,List.take_length,V_take_all b _ hl]
|succ d ih =>
  intro i p c hd hi hp hpl hc hv
  have HV:=Aside0.mk hv
  clear hv
  have sa' : a.length < 35184372087809:=sa
  have w1 : wrap64 ((i : Int)+1)=((i+1 : Nat) : Int):=by unfold wrap64;omega
  have ra:=W_rd ha (i : Int)
  have rb:=W_rd hb (i : Int)
  have key : Aside0 (V (p++[(rd a (i : Int)+rd b (i : Int)+c) % 4294967296])+P (i+1) * ((rd a (i : Int)+rd b (i : Int)+c) / 4294967296)=V (a.take (i+1))+V (b.take (i+1))):=⟨by
   have hv:=HV.out
   rw [V_snoc,hpl,V_take_succ' a i,V_take_succ' b i,P_succ]
   have:=Int.emod_add_mul_ediv (rd a (i : Int)+rd b (i : Int)+c) 4294967296
   grind⟩
  have hrec:=ih (i+1) (p++[(rd a (i : Int)+rd b (i : Int)+c) % 4294967296]) ((rd a (i : Int)+rd b (i : Int)+c) / 4294967296) (by omega) (by omega) (W_append hp (W_one (by omega) (by omega))) (by simp [hpl]) (by omega) key.out
  refine Ev.step (fun k=>rfl) ?_
  refine Ev_pos (by omega) ?_
  refine Ev_pos (by omega) ?_
  refine Ev_pos (by omega) ?_
  by_cases hib : (i : Int) < (b.length : Int)
  ·refine Ev_pos hib ?_
   refine Ev_some (add32_f ra rb hc) ?_
   refine Ev_pos (by omega) ?_
   rw [w1]
   exact hrec
  ·have hz : rd b (i : Int)=0:=rd_beyond b _ (by omega)
   rw [hz] at hrec rb
   refine Ev_neg hib ?_
   refine Ev_some (add32_f ra rb hc) ?_
   refine Ev_pos (by omega) ?_
   rw [w1]
   exact hrec
theorem nadd_f {a b : List Int} (ha : W a) (hb : W b) (sa : Sm a) (sb : Sm b) : Ev (fun k=>nat_Add.f k a b) (L (V a+V b)):=by
 have hla:=Sm_L ha sa
 have hlb:=Sm_L hb sb
 have va:=V_nonneg ha
 have vb:=V_nonneg hb
 have hla':=hla
 have hlb':=hlb
 unfold Sm at hla' hlb'
 refine Ev_some (trim_f ha) ?_
 refine Ev_some (trim_f hb) ?_
 by_cases h : ((L (V a)).length : Int) < ((L (V b)).length : Int)
 ·have w1 : wrap64 (((L (V b)).length : Int)+1)=((L (V b)).length : Int)+1:=by unfold wrap64;omega
  refine Ev_pos h ?_
  rw [w1]
  refine Ev_pos (by omega) ?_
  refine Ev_pos (by omega) ?_
  refine Ev_eq (nadd_l0 (W_L _) (W_L _) (by omega) hlb _ 0 [] 0 rfl (Nat.zero_le _) W_nil rfl (by omega) (by simp [V])) ?_
  rw [V_L va,V_L vb,Int.add_comm]
 ·have w1 : wrap64 (((L (V a)).length : Int)+1)=((L (V a)).length : Int)+1:=by unfold wrap64;omega
  refine Ev_neg h ?_
  rw [w1]
  refine Ev_pos (by omega) ?_
  refine Ev_pos (by omega) ?_
  refine Ev_eq (nadd_l100 (W_L _) (W_L _) (by omega) hla _ 0 [] 0 rfl (Nat.zero_le _) W_nil rfl (by omega) (by simp [V])) ?_
  rw [V_L va,V_L vb]
theorem cm_neg {x y : Int} : cm x y < 0↔x < y:=by
 unfold cm
 split
 ·simp [*]
 ·split <;> simp [*]
theorem two_limbs {n : Int} (h0 : 0≤n) (h1 : n < 18446744073709551616) : W [n % 4294967296,(n / 4294967296) % 4294967296]∧V [n % 4294967296,(n / 4294967296) % 4294967296]=n :=
 ⟨W_cons.2 ⟨by omega,W_one (by omega) (by omega)⟩,by simp [V];omega⟩
theorem nof_f {n : Int} (h0 : 0≤n) (h1 : n < 18446744073709551616) : nat_Of.f n=some (L n):=by
 obtain ⟨hw,hv⟩:=two_limbs h0 h1
 unfold nat_Of.f
 rw [norm_f hw (by unfold Sm;simp),hv,Option.bind_some]
end Go.Proofs.YtncdiodnbkhacaaDoor.N
end
section
namespace Go.Proofs.YtncdiodnbkhacaaDoor.N
open Go.RowKit Go.Proofs.YtncdiodnbkhacaaDoorW.PrintWords Go.Proofs.YtncdiodnbkhacaaDoorW.PrintLast Go.Proofs.YtncdiodnbkhacaaDoor.Pq
set_option maxRecDepth 100000 in
theorem fixed4_at : penumbralaw04_fixed.f 200=some true:=by decide +kernel
theorem fixed4 : Ev (fun k=>penumbralaw04_fixed.f k) true:=Ev.of (fun k=>penumbralaw04_fixed.mono k) fixed4_at
end Go.Proofs.YtncdiodnbkhacaaDoor.N
end
section
namespace Go.Proofs.YtncdiodnbkhacaaDoor.N
set_option linter.unusedVariables false
set_option linter.unusedSimpArgs false
open Go.RowKit Go.Proofs.YtncdiodnbkhacaaDoorW.PrintWords Go.Proofs.YtncdiodnbkhacaaDoorW.PrintLast Go.Proofs.YtncdiodnbkhacaaDoor.Pq
def bl (n : Int) : Int:=if 0 < n then (Nat.log2 n.toNat : Int)+1 else 0
theorem bl_zero : bl 0=0:=by decide +kernel
theorem bl_nonneg (n : Int) : 0≤bl n:=by unfold bl;split <;> omega
theorem bl_pos {n : Int} (h : 0 < n) : 0 < bl n:=by unfold bl;rw [if_pos h];omega
theorem bl_half {x : Int} (h : 0 < x) : bl x=bl (x / 2)+1:=by
 unfold bl
 rw [if_pos h,Nat.log2_def]
 by_cases h2 : x.toNat ≥ 2
 ·rw [if_pos h2,if_pos (by omega),show (x / 2).toNat=x.toNat / 2 by omega]
  omega
 ·rw [if_neg h2,if_neg (by omega)]
  rfl
theorem bl_log {n : Int} (h : 0 < n) : (2 : Int) ^ (n.toNat.log2)≤n∧n < (2 : Int) ^ (n.toNat.log2+1):=by
 have hne : n.toNat≠0:=by omega
 have h1:=Nat.log2_self_le hne
 have h2:=(Nat.log2_lt (k:=n.toNat.log2+1) hne).1 (Nat.lt_succ_self _)
 have e : n=(n.toNat : Int):=by omega
 constructor
 ·rw [e];exact_mod_cast h1
 ·rw [e];exact_mod_cast h2
theorem bl_of {n : Int} {m : Nat} (h1 : (2 : Int) ^ m≤n) (h2 : n < (2 : Int) ^ (m+1)) : bl n=(m : Int)+1:=by
 have hp : (0 : Int) < 2 ^ m:=Int.pow_pos (by decide)
 have hn : 0 < n:=by omega
 obtain ⟨k,rfl⟩ : ∃ k : Nat,n=(k : Int):=⟨n.toNat,by omega⟩
 have g1 : 2 ^ m≤k:=by exact_mod_cast h1
 have g2 : k < 2 ^ (m+1):=by exact_mod_cast h2
 have hk : k≠0:=by omega
 have e1:=(Nat.le_log2 (k:=m) hk).2 g1
 have e2:=(Nat.log2_lt (k:=m+1) hk).2 g2
 unfold bl
 rw [if_pos hn,Int.toNat_natCast]
 omega
theorem bl_le {m n : Int} (h : m≤n) : bl m≤bl n:=by
 by_cases hm : 0 < m
 ·unfold bl
  rw [if_pos hm,if_pos (by omega)]
  have hn0 : n.toNat≠0:=by omega
  have h1:=Nat.log2_self_le (n:=m.toNat) (by omega)
  have:=(Nat.le_log2 (k:=m.toNat.log2) hn0).2 (by omega)
  omega
 ·have:=bl_nonneg n
  have e : bl m=0:=by unfold bl;rw [if_neg hm]
  omega
theorem P_pow (i : Nat) : P i=(2 : Int) ^ (32 * i):=by
 induction i with
|zero=>exact P_zero
|succ i ih=>rw [P_succ,ih,show 32 * (i+1)=32 * i+32 by omega,Int.pow_add];omega
theorem bl_V {l : List Int} (hw : W l) (i : Nat) (hi : l.length=i+1) (hp : 0 < rd l (i : Int)) : bl (V l)=32 * (i : Int)+bl (rd l (i : Int)):=by
 have h:=bl_log hp
 have hv:=V_take_succ' l i
 rw [List.take_of_length_le (by omega)] at hv
 have h0:=V_nonneg (W_take hw i)
 have h1:=V_take_lt hw i
 have hP:=P_pos i
 have k1 : P i * (2 : Int) ^ ((rd l (i : Int)).toNat.log2)≤P i * rd l (i : Int):=Int.mul_le_mul_of_nonneg_left h.1 (by omega)
 have k2 : P i * (rd l (i : Int)+1)≤P i * (2 : Int) ^ ((rd l (i : Int)).toNat.log2+1):=Int.mul_le_mul_of_nonneg_left (by omega) (by omega)
 rw [Int.mul_add] at k2
 have e1 : (2 : Int) ^ (32 * i+(rd l (i : Int)).toNat.log2)=P i * (2 : Int) ^ ((rd l (i : Int)).toNat.log2):=by rw [Int.pow_add,P_pow]
 have e2 : (2 : Int) ^ (32 * i+(rd l (i : Int)).toNat.log2+1)=P i * (2 : Int) ^ ((rd l (i : Int)).toNat.log2+1):=by rw [Nat.add_assoc,Int.pow_add,P_pow]
 rw [bl_of (m:=32 * i+(rd l (i : Int)).toNat.log2) (by rw [e1];omega) (by rw [e2];omega)]
 unfold bl
 rw [if_pos hp]
 omega
theorem rd_last {n : Int} (h : 0 < n) : ∃ i,(L n).length=i+1∧0 < rd (L n) (i : Int):=by
 have hne : L n≠[]:=fun e=>by
  have:=(L_nil_iff (by omega)).1 e
  omega
 have hl:=List.length_pos_iff.2 hne
 refine ⟨(L n).length - 1,by omega,?_⟩
 have h1:=L_last hne
 have h2:=W_rd (W_L n) (((L n).length - 1 : Nat) : Int)
 have e : rd (L n) (((L n).length - 1 : Nat) : Int)=(L n).getLast hne:=by
  rw [List.getLast_eq_getElem]
  simp only [rd,Int.toNat_natCast,List.getD_eq_getElem?_getD]
  rw [List.getElem?_eq_getElem (by omega),Option.getD_some]
 omega
attribute [irreducible] bl
theorem tab_bl' : ∀ y : Fin 256,bt (⟨#[0,1,2,2,3,3,3,3,4,4,4,4,4,4,4,4,5,5,5,5,5,5,5,5,5,5,5,5,5,5,5,5,6,6,6,6,6,6,6,6,6,6,6,6,6,6,6,6,6,6,6,6,6,6,6,6,6,6,6,6,6,6,6,6,7,7,7,7,7,7,7,7,7,7,7,7,7,7,7,7,7,7,7,7,7,7,7,7,7,7,7,7,7,7,7,7,7,7,7,7,7,7,7,7,7,7,7,7,7,7,7,7,7,7,7,7,7,7,7,7,7,7,7,7,7,7,7,7,8,8,8,8,8,8,8,8,8,8,8,8,8,8,8,8,8,8,8,8,8,8,8,8,8,8,8,8,8,8,8,8,8,8,8,8,8,8,8,8,8,8,8,8,8,8,8,8,8,8,8,8,8,8,8,8,8,8,8,8,8,8,8,8,8,8,8,8,8,8,8,8,8,8,8,8,8,8,8,8,8,8,8,8,8,8,8,8,8,8,8,8,8,8,8,8,8,8,8,8,8,8,8,8,8,8,8,8,8,8,8,8,8,8,8,8,8,8,8,8,8,8,8,8,8,8,8,8]⟩ : ByteArray) (y.val : Int)=bl (y.val : Int):=by decide +kernel
set_option maxRecDepth 20000 in
theorem tab_bl {y : Int} (h0 : 0≤y) (h1 : y < 256) : bt (⟨#[0,1,2,2,3,3,3,3,4,4,4,4,4,4,4,4,5,5,5,5,5,5,5,5,5,5,5,5,5,5,5,5,6,6,6,6,6,6,6,6,6,6,6,6,6,6,6,6,6,6,6,6,6,6,6,6,6,6,6,6,6,6,6,6,7,7,7,7,7,7,7,7,7,7,7,7,7,7,7,7,7,7,7,7,7,7,7,7,7,7,7,7,7,7,7,7,7,7,7,7,7,7,7,7,7,7,7,7,7,7,7,7,7,7,7,7,7,7,7,7,7,7,7,7,7,7,7,7,8,8,8,8,8,8,8,8,8,8,8,8,8,8,8,8,8,8,8,8,8,8,8,8,8,8,8,8,8,8,8,8,8,8,8,8,8,8,8,8,8,8,8,8,8,8,8,8,8,8,8,8,8,8,8,8,8,8,8,8,8,8,8,8,8,8,8,8,8,8,8,8,8,8,8,8,8,8,8,8,8,8,8,8,8,8,8,8,8,8,8,8,8,8,8,8,8,8,8,8,8,8,8,8,8,8,8,8,8,8,8,8,8,8,8,8,8,8,8,8,8,8,8,8,8,8,8,8]⟩ : ByteArray) y=bl y:=by
 have h : bt (⟨#[0,1,2,2,3,3,3,3,4,4,4,4,4,4,4,4,5,5,5,5,5,5,5,5,5,5,5,5,5,5,5,5,6,6,6,6,6,6,6,6,6,6,6,6,6,6,6,6,6,6,6,6,6,6,6,6,6,6,6,6,6,6,6,6,7,7,7,7,7,7,7,7,7,7,7,7,7,7,7,7,7,7,7,7,7,7,7,7,7,7,7,7,7,7,7,7,7,7,7,7,7,7,7,7,7,7,7,7,7,7,7,7,7,7,7,7,7,7,7,7,7,7,7,7,7,7,7,7,8,8,8,8,8,8,8,8,8,8,8,8,8,8,8,8,8,8,8,8,8,8,8,8,8,8,8,8,8,8,8,8,8,8,8,8,8,8,8,8,8,8,8,8,8,8,8,8,8,8,8,8,8,8,8,8,8,8,8,8,8,8,8,8,8,8,8,8,8,8,8,8,8,8,8,8,8,8,8,8,8,8,8,8,8,8,8,8,8,8,8,8,8,8,8,8,8,8,8,8,8,8,8,8,8,8,8,8,8,8,8,8,8,8,8,8,8,8,8,8,8,8,8,8,8,8,8,8]⟩ : ByteArray) (y.toNat : Int)=bl (y.toNat : Int):=tab_bl' ⟨y.toNat,by omega⟩
 rw [show ((y.toNat : Nat) : Int)=y by omega] at h
 exact h
theorem bl_shift8 {x : Int} (h : 256≤x) : bl x=bl (x / 256)+8:=by
 rw [bl_half (x:=x) (by omega),bl_half (x:=x / 2) (by omega),bl_half (x:=x / 2 / 2) (by omega),bl_half (x:=x / 2 / 2 / 2) (by omega),bl_half (x:=x / 2 / 2 / 2 / 2) (by omega),
  bl_half (x:=x / 2 / 2 / 2 / 2 / 2) (by omega),bl_half (x:=x / 2 / 2 / 2 / 2 / 2 / 2) (by omega),bl_half (x:=x / 2 / 2 / 2 / 2 / 2 / 2 / 2) (by omega),show x / 2 / 2 / 2 / 2 / 2 / 2 / 2 / 2=x / 256 by omega]
 omega
theorem bl_small {x : Int} (h0 : 0≤x) (h1 : x < 256) : 0≤bl x∧bl x≤8:=by
 refine ⟨bl_nonneg x,?_⟩
 have:=bl_le (show x≤255 by omega)
 have e : bl 255=8:=by decide +kernel
 omega
set_option maxRecDepth 20000 in
theorem len32_f {x : Int} (h0 : 0≤x) (h1 : x < 4294967296) : bits_Len32.f x=some (bl x):=by
 unfold bits_Len32.f
 by_cases c1 : x ≥ 65536
 ·rw [if_pos c1]
  by_cases c2 : x / 65536 ≥ 256
  ·rw [if_pos c2,if_pos (by omega),if_pos (by omega),show x / 65536 / 256 % 256=x / 65536 / 256 by omega,tab_bl (by omega) (by omega)]
   have:=bl_small (x:=x / 65536 / 256) (by omega) (by omega)
   rw [bl_shift8 (x:=x) (by omega),bl_shift8 (x:=x / 256) (by omega),bl_shift8 (x:=x / 256 / 256) (by omega),show x / 256 / 256 / 256=x / 65536 / 256 by omega]
   unfold wrap64
   refine congrArg some ?_
   omega
  ·rw [if_neg c2,if_pos (by omega),if_pos (by omega),show x / 65536 % 256=x / 65536 by omega,tab_bl (by omega) (by omega)]
   have:=bl_small (x:=x / 65536) (by omega) (by omega)
   rw [bl_shift8 (x:=x) (by omega),bl_shift8 (x:=x / 256) (by omega),show x / 256 / 256=x / 65536 by omega]
   unfold wrap64
   refine congrArg some ?_
   omega
 ·rw [if_neg c1]
  by_cases c2 : x ≥ 256
  ·rw [if_pos c2,if_pos (by omega),if_pos (by omega),show x / 256 % 256=x / 256 by omega,tab_bl (by omega) (by omega)]
   have:=bl_small (x:=x / 256) (by omega) (by omega)
   rw [bl_shift8 (x:=x) (by omega)]
   unfold wrap64
   refine congrArg some ?_
   omega
  ·rw [if_neg c2,if_pos (by omega),if_pos (by omega),show x % 256=x by omega,tab_bl (by omega) (by omega)]
   have:=bl_small (x:=x) (by omega) (by omega)
   unfold wrap64
   refine congrArg some ?_
   omega
theorem bl_32 {x : Int} (h1 : x < 4294967296) : bl x≤32:=by
 have:=bl_le (show x≤4294967295 by omega)
 have e : bl 4294967295=32:=by decide +kernel
 omega
theorem bits_arith {n i t : Int} (h : n=i+1) (hi : 0≤i) (hn : n < 35184372087809) (h0 : 0≤t) (h1 : t≤32) : wrap64 (wrap64 (32 * n) - wrap64 (32 - t))=32 * i+t:=by
 unfold wrap64
 omega
theorem nbits_f {a : List Int} (ha : W a) (sa : Sm a) : nat_Bits.f a=some (bl (V a)):=by
 have va:=V_nonneg ha
 have la:=L_len_le ha
 have sa' : a.length < 35184372087809:=sa
 unfold nat_Bits.f
 rw [trim_f ha,Option.bind_some]
 by_cases hz : V a=0
 ·rw [hz,L_zero,bl_zero]
  exact if_pos rfl
 ·obtain ⟨i,hi,hp⟩:=rd_last (n:=V a) (by omega)
  have w1 : wrap64 (((L (V a)).length : Int) - 1)=(i : Int):=by unfold wrap64;omega
  have hb:=bl_V (W_L (V a)) i hi hp
  rw [V_L va] at hb
  have hr:=W_rd (W_L (V a)) (i : Int)
  have h32:=bl_32 hr.2
  have h32':=bl_nonneg (rd (L (V a)) (i : Int))
  rw [if_neg (by omega),w1,if_pos (by omega),if_pos (by omega)]
  unfold bits_LeadingZeros32.f
  rw [len32_f hr.1 hr.2,Option.bind_some,Option.bind_some,hb]
  exact congrArg some (bits_arith (by omega) (by omega) (by omega) h32' h32)
end Go.Proofs.YtncdiodnbkhacaaDoor.N
end
section
namespace Go.Proofs.YtncdiodnbkhacaaDoor.N
set_option linter.unusedVariables false
set_option linter.unusedSimpArgs false
open Go.RowKit Go.Proofs.YtncdiodnbkhacaaDoorW.PrintWords Go.Proofs.YtncdiodnbkhacaaDoorW.PrintLast Go.Proofs.YtncdiodnbkhacaaDoor.Pq
theorem limb_mul {x y o c : Int} (hx : 0≤x∧x < 4294967296) (hy : 0≤y∧y < 4294967296) (ho : 0≤o∧o < 4294967296) (hc : 0≤c∧c < 4294967296) :
  0≤x * y∧x * y≤18446744065119617025:=by
 constructor
 ·exact Int.mul_nonneg hx.1 hy.1
 ·have h1 : x * y≤4294967295 * y:=Int.mul_le_mul_of_nonneg_right (by omega) hy.1
  omega
theorem mul_wrap {x y o c : Int} (hx : 0≤x∧x < 4294967296) (hy : 0≤y∧y < 4294967296) (ho : 0≤o∧o < 4294967296) (hc : 0≤c∧c < 4294967296) :
  IntKind.u64.wrap (IntKind.u64.wrap (IntKind.u64.wrap (IntKind.u64.wrap x * IntKind.u64.wrap y)+IntKind.u64.wrap o)+c)=x * y+o+c:=by
 have h:=limb_mul hx hy ho hc
 rw [wrap_u64_of (x:=x) (by omega) (by omega),wrap_u64_of (x:=y) (by omega) (by omega),wrap_u64_of (x:=o) (by omega) (by omega),wrap_u64_of (x:=x * y) (by omega) (by omega),wrap_u64_of (x:=x * y+o) (by omega) (by omega),wrap_u64_of (by omega) (by omega)]
theorem mul_step {o : List Int} (n : Nat) (h : n < o.length) (x y c : Int) :
  V (o.set n ((x * y+rd o (n : Int)+c) % 4294967296))+P (n+1) * ((x * y+rd o (n : Int)+c) / 4294967296)=V o+P n * (x * y+c):=by
 rw [V_set o n _ h,P_succ]
 have:=Int.emod_add_mul_ediv (x * y+rd o (n : Int)+c) 4294967296
 grind
structure MulI (a b o : List Int) (n i : Nat) : Prop where
 w : W o
 len : o.length=n
 val : V o=V (a.take i) * V b
 zero : ∀ j : Nat,i+b.length≤j→rd o (j : Int)=0
structure MulJ (a b o : List Int) (n i j : Nat) (c : Int) : Prop where
 w : W o
 len : o.length=n
 c0 : 0≤c∧c < 4294967296
 val : V o+P (i+j) * c=V (a.take i) * V b+P i * (rd a (i : Int) * V (b.take j))
 zero : ∀ m : Nat,i+b.length≤m→rd o (m : Int)=0
theorem MulI.start (a b : List Int) (n : Nat) : MulI a b (List.replicate n 0) n 0 :=
 ⟨W_replicate n,by simp,by simp [V_replicate,V_nil],fun j _=>rd_replicate n j⟩
theorem MulI.inner {a b o : List Int} {n i : Nat} (h : MulI a b o n i) : MulJ a b o n i 0 0 :=
 ⟨h.w,h.len,by omega,by rw [h.val];simp [V_nil],h.zero⟩
theorem MulJ.step {a b o : List Int} {n i j : Nat} {c : Int} (h : MulJ a b o n i j c) (hb : W b) (ha : W a) (hj : j < b.length) (hn : i+b.length < n) :
  MulJ a b (o.set (i+j) ((rd a (i : Int) * rd b (j : Int)+rd o ((i+j : Nat) : Int)+c) % 4294967296)) n i (j+1) ((rd a (i : Int) * rd b (j : Int)+rd o ((i+j : Nat) : Int)+c) / 4294967296):=by
 have hlt : i+j < o.length:=by rw [h.len];omega
 have ra:=W_rd ha (i : Int)
 have rb:=W_rd hb (j : Int)
 have ro:=W_rd h.w ((i+j : Nat) : Int)
 have hm:=limb_mul ra rb ro h.c0
 have hc:=h.c0
 refine ⟨W_set h.w _ (by omega) (by omega),by rw [List.length_set,h.len],by omega,?_,?_⟩
 ·have e:=mul_step (i+j) hlt (rd a (i : Int)) (rd b (j : Int)) c
  have hv:=h.val
  have ep:=P_add i j
  rw [V_take_succ' b j,show i+(j+1)=i+j+1 by omega]
  clear hm hc ro rb ra
  grind
 ·intro m hm
  rw [rd_set_ne _ _ _ _ (by omega)]
  exact h.zero m hm
theorem MulJ.done {a b o : List Int} {n i : Nat} {c : Int} (h : MulJ a b o n i b.length c) (hn : i+b.length < n) : MulI a b (o.set (i+b.length) (c % 4294967296)) n (i+1):=by
 have hc:=h.c0
 rw [Int.emod_eq_of_lt hc.1 hc.2]
 refine ⟨W_set h.w _ hc.1 hc.2,by rw [List.length_set,h.len],?_,?_⟩
 ·rw [V_set _ _ _ (by rw [h.len];omega),h.zero (i+b.length) (Nat.le_refl _),V_take_succ' a i]
  have hv:=h.val
  rw [List.take_length] at hv
  grind
 ·intro m hm
  rw [rd_set_ne _ _ _ _ (by omega)]
  exact h.zero m (by omega)
theorem nmul_l1 {a b : List Int} (ha : W a) (hb : W b) (hl : a.length+b.length≤70368744177664) {i : Nat} (hi : i < a.length) (R : List Int)
  (hnext : ∀ o,MulI a b o (a.length+b.length) (i+1)→Ev (fun k=>nat_Mul.l0 k b o a (a.length : Int) ((i+1 : Nat) : Int)) R) :
  ∀ (d j : Nat) (o : List Int) (c : Int),b.length - j=d→j≤b.length→MulJ a b o (a.length+b.length) i j c →
   Ev (fun k=>nat_Mul.l1 k b o (i : Int) (rd a (i : Int)) c a (a.length : Int) (i : Int) b (b.length : Int) (j : Int)) R:=by
 intro d
 induction d with
|zero =>
  intro j o c hd hj h
  obtain rfl : j=b.length:=by omega
  have hlen:=h.len
  have w1 : wrap64 ((i : Int)+(b.length : Int))=((i+b.length : Nat) : Int):=by unfold wrap64;omega
  have w2 : wrap64 ((i : Int)+1)=((i+1 : Nat) : Int):=by unfold wrap64;omega
  refine Ev_up ?_
  unfold nat_Mul.l1
  refine Ev_neg (by omega) ?_
  rw [w1,w2,Int.toNat_natCast]
  refine Ev_pos (by omega) ?_
  refine Ev_pos (by omega) ?_
  exact hnext _ (h.done (by omega))
|succ d ih =>
  intro j o c hd hj h
  have hlen:=h.len
  have w1 : wrap64 ((i : Int)+(j : Int))=((i+j : Nat) : Int):=by unfold wrap64;omega
  have w2 : wrap64 ((j : Int)+1)=((j+1 : Nat) : Int):=by unfold wrap64;omega
  refine Ev_up ?_
  unfold nat_Mul.l1
  refine Ev_pos (by omega) ?_
  refine Ev_pos (by omega) ?_
  refine Ev_pos (by omega) ?_
  rw [w1,w2,Int.toNat_natCast]
  refine Ev_pos (by omega) ?_
  refine Ev_pos (by omega) ?_
  rw [mul_wrap (W_rd ha _) (W_rd hb _) (W_rd h.w _) h.c0]
  exact ih (j+1) _ _ (by omega) (by omega) (h.step hb ha (by omega) (by omega))
theorem nmul_l0 {a b : List Int} (ha : W a) (hb : W b) (hl : a.length+b.length≤70368744177664) : ∀ (d i : Nat) (o : List Int),a.length - i=d→i≤a.length→MulI a b o (a.length+b.length) i →
  Ev (fun k=>nat_Mul.l0 k b o a (a.length : Int) (i : Int)) (L (V a * V b)):=by
 intro d
 induction d with
|zero =>
  intro i o hd hi h
  obtain rfl : i=a.length:=by omega
  refine Ev_up ?_
  unfold nat_Mul.l0
  refine Ev_neg (by omega) ?_
  refine Ev_some (trim_f h.w) ?_
  refine Ev_now ?_
  rw [h.val,List.take_length]
|succ d ih =>
  intro i o hd hi h
  refine Ev_up ?_
  unfold nat_Mul.l0
  refine Ev_pos (by omega) ?_
  refine Ev_pos (by omega) ?_
  refine Ev_pos (by omega) ?_
  exact nmul_l1 ha hb hl (by omega) _ (fun o' h'=>ih (i+1) o' (by omega) (by omega) h') _ 0 o 0 rfl (Nat.zero_le _) h.inner
theorem nmul_f {a b : List Int} (ha : W a) (hb : W b) (hl : a.length+b.length≤70368744177664) : Ev (fun k=>nat_Mul.f k a b) (L (V a * V b)):=by
 have la:=L_len_le ha
 have lb:=L_len_le hb
 have va:=V_nonneg ha
 have vb:=V_nonneg hb
 refine Ev_some (trim_f ha) ?_
 refine Ev_some (trim_f hb) ?_
 have w1 : wrap64 (((L (V a)).length : Int)+((L (V b)).length : Int))=(((L (V a)).length+(L (V b)).length : Nat) : Int):=by unfold wrap64;omega
 rw [w1,Int.toNat_natCast]
 refine Ev_pos (by omega) ?_
 refine Ev_pos (by omega) ?_
 have:=nmul_l0 (W_L (V a)) (W_L (V b)) (by omega) _ 0 _ rfl (Nat.zero_le _) (MulI.start _ _ _)
 rw [V_L va,V_L vb] at this
 exact this
end Go.Proofs.YtncdiodnbkhacaaDoor.N
end
section
namespace Go.Proofs.YtncdiodnbkhacaaDoor.N
set_option linter.unusedVariables false
set_option linter.unusedSimpArgs false
open Go.RowKit Go.Proofs.YtncdiodnbkhacaaDoorW.PrintWords Go.Proofs.YtncdiodnbkhacaaDoorW.PrintLast Go.Proofs.YtncdiodnbkhacaaDoor.Pq
structure Nm (l : List Int) (n : Nat) (x : Int) : Prop where
 w : W l
 v : V l=x
 le : l.length≤n
theorem Nm.pos {l : List Int} {n : Nat} {x : Int} (h : Nm l n x) : 0≤x:=h.v ▸ V_nonneg h.w
theorem Nm.lt {l : List Int} {n : Nat} {x : Int} (h : Nm l n x) : x < P n:=by
 have h1:=V_lt h.w
 have h2:=P_le h.le
 have h3:=h.v
 omega
theorem Nm.L {n : Nat} {x : Int} (h0 : 0≤x) (h1 : x < P n) : Nm (L x) n x:=⟨W_L x,V_L h0,L_length_le n h1⟩
theorem Nm.of {l : List Int} {n : Nat} (h : ∀ x∈l,(Lit.int .u32 x).wf=true) (hn : l.length≤n) : Nm l n (V l):=⟨wf_of h,rfl,hn⟩
theorem Nm.nil : Nm [] 0 0:=⟨W_nil,V_nil,Nat.le_refl _⟩
theorem Nm.one : Nm [1] 1 1:=⟨W_one (by decide) (by decide),V_one 1,Nat.le_refl _⟩
theorem Nm.up {l : List Int} {m n : Nat} {x : Int} (h : Nm l m x) (hmn : m≤n) : Nm l n x:=⟨h.w,h.v,Nat.le_trans h.le hmn⟩
theorem Nm.norm {l : List Int} {n : Nat} {x : Int} (h : Nm l n x) : Nm (N.L x) n x:=Nm.L h.pos h.lt
theorem Nm.mulL {a b : List Int} {m n : Nat} {x y : Int} (h : Nm a m x) (k : Nm b n y) : Nm (N.L (x * y)) (m+n) (x * y):=by
 refine Nm.L (Int.mul_nonneg h.pos k.pos) ?_
 rw [P_add]
 have h1 : x * y≤x * (P n - 1):=Int.mul_le_mul_of_nonneg_left (by have:=k.lt;omega) h.pos
 have h2 : x * P n < P m * P n:=Int.mul_lt_mul_of_pos_right h.lt (P_pos n)
 have h3:=h.pos
 rw [Int.mul_sub] at h1
 omega
theorem Nm.add {a b : List Int} {m n : Nat} {x y : Int} (h : Nm a m x) (k : Nm b n y) (hm : m < 35184372087809) (hn : n < 35184372087809) : Ev (fun r=>nat_Add.f r a b) (N.L (x+y)):=by
 have h1:=h.le
 have h2:=k.le
 have e:=nadd_f h.w k.w (by unfold Sm;omega) (by unfold Sm;omega)
 rwa [h.v,k.v] at e
theorem Nm.cmp {a b : List Int} {m n : Nat} {x y : Int} (h : Nm a m x) (k : Nm b n y) (hm : m < 35184372087809) (hn : n < 35184372087809) : Ev (fun r=>nat_Cmp.f r a b) (cm x y):=by
 have h1:=h.le
 have h2:=k.le
 have e:=ncmp_f h.w k.w (by unfold Sm;omega) (by unfold Sm;omega)
 rwa [h.v,k.v] at e
theorem Nm.mul {a b : List Int} {m n : Nat} {x y : Int} (h : Nm a m x) (k : Nm b n y) (hm : m < 35184372087809) (hn : n < 35184372087809) : Ev (fun r=>nat_Mul.f r a b) (N.L (x * y)):=by
 have h1:=h.le
 have h2:=k.le
 have e:=nmul_f h.w k.w (by omega)
 rwa [h.v,k.v] at e
theorem Nm.nrm {a : List Int} {m : Nat} {x : Int} (h : Nm a m x) (hm : m < 35184372087809) : nat_Norm.f a=some (N.L x):=by
 have h1:=h.le
 have e:=norm_f h.w (by unfold Sm;omega)
 rwa [h.v] at e
end Go.Proofs.YtncdiodnbkhacaaDoor.N
end
section
namespace Go.Proofs.YtncdiodnbkhacaaDoor.N
set_option linter.unusedVariables false
set_option linter.unusedSimpArgs false
open Go Go.RowKit Go.Proofs.YtncdiodnbkhacaaDoorW.PrintWords Go.Proofs.YtncdiodnbkhacaaDoorW.PrintLast Go.Proofs.YtncdiodnbkhacaaDoorW.PrintMore Go.Proofs.YtncdiodnbkhacaaDoor.Pq
def shS (x s : Int) : List Int × Bool:=if s < 0 then ([],false) else if s > 65536 then ([],false) else (L (x * 2 ^ s.toNat),true)
theorem u32_wrap (x : Int) : IntKind.u32.wrap x=x % 4294967296:=by
 simp only [IntKind.wrap,IntKind.bits,IntKind.signed]
 simp
theorem shl_limb {r : Nat} (hr : r < 32) {x c : Int} (hx : 0≤x∧x < 4294967296) (hc : 0≤c∧c < 2 ^ r) :
  Go.bits .or .u32 (shl .u32 x (r : Int)) c=x * 2 ^ r % 4294967296+c∧shr .u64 (IntKind.u64.wrap x) (32 - (r : Int)) % 4294967296=x * 2 ^ r / 4294967296 ∧
   0≤x * 2 ^ r % 4294967296+c∧x * 2 ^ r % 4294967296+c < 4294967296∧0≤x * 2 ^ r / 4294967296∧x * 2 ^ r / 4294967296 < 2 ^ r:=by
 have hT : (0 : Int) < 2 ^ r:=Int.pow_pos (by decide)
 have hU : (0 : Int) < 2 ^ (32 - r):=Int.pow_pos (by decide)
 have hTU : (2 : Int) ^ r * 2 ^ (32 - r)=4294967296:=by rw [← Int.pow_add,show r+(32 - r)=32 by omega];rfl
 have e1 : shl .u32 x (r : Int)=x * 2 ^ r % 4294967296:=by
  unfold shl
  rw [u32_wrap,Int.toNat_natCast,Nat.min_eq_left (show r≤IntKind.u32.bits by show r≤32;omega)]
 have e2 : shr .u64 (IntKind.u64.wrap x) (32 - (r : Int))=x / 2 ^ (32 - r):=by
  unfold shr
  rw [wrap_u64_of hx.1 (by omega),show (32 - (r : Int)).toNat=32 - r by omega,Nat.min_eq_left (show 32 - r≤IntKind.u64.bits by show 32 - r≤64;omega)]
 have key : x * 2 ^ r % 4294967296 % 2 ^ r=0:=by
  rw [← hTU,Int.emod_emod_of_dvd _ (Int.dvd_mul_right _ _)]
  exact Int.mul_emod_left _ _
 have hTle : (2 : Int) ^ r≤4294967296:=by
  have : (2 : Int) ^ r * 1≤2 ^ r * 2 ^ (32 - r):=Int.mul_le_mul_of_nonneg_left (by omega) (by omega)
  rw [hTU] at this
  omega
 have jo : ∀ y : Int,0≤y→y % 2 ^ r=0→y < 4294967296→Go.bits .or .u32 y c=y+c:=fun y h0 h1 h2 =>
  bits_join .u32 32 (Nat.le_refl _) (fun n h0 h1=>by rw [u32_wrap];omega) r y c h0 h1 (by omega) hc.1 hc.2 (by omega)
 rw [e1,e2,jo _ (by omega) key (by omega)]
 clear jo e1 e2
 generalize (2 : Int) ^ r=T at *
 generalize (2 : Int) ^ (32 - r)=U at *
 have m1 : x * T % 4294967296=T * (x % U):=by rw [← hTU,Int.mul_comm x T,Int.mul_emod_mul_of_pos _ _ hT]
 have d1 : x * T / 4294967296=x / U:=by rw [← hTU,Int.mul_comm x T,Int.mul_ediv_mul_of_pos _ _ hT]
 have xu0:=Int.emod_nonneg x (show U≠0 by omega)
 have xu1:=Int.emod_lt_of_pos x hU
 have xd0 : 0≤x / U:=Int.ediv_nonneg hx.1 (by omega)
 have xd1 : x / U < T:=Int.ediv_lt_of_lt_mul hU (by rw [hTU];exact hx.2)
 have p0 : 0≤T * (x % U):=Int.mul_nonneg (by omega) xu0
 have p1 : T * (x % U+1)≤T * U:=Int.mul_le_mul_of_nonneg_left (by omega) (by omega)
 rw [Int.mul_add,hTU] at p1
 rw [m1,d1]
 clear m1 d1 key
 refine ⟨rfl,?_,by omega,by omega,xd0,xd1⟩
 rw [Int.emod_eq_of_lt xd0 (by omega)]
theorem shl_step {r : Nat} (hr : r < 32) {x c : Int} (hx : 0≤x∧x < 4294967296) (hc : 0≤c∧c < 2 ^ r) :
  ∃ dg cy,Go.bits .or .u32 (shl .u32 x (r : Int)) c=dg∧shr .u64 (IntKind.u64.wrap x) (32 - (r : Int)) % 4294967296=cy∧0≤dg∧dg < 4294967296∧0≤cy∧cy < 2 ^ r∧dg+4294967296 * cy=x * 2 ^ r+c:=by
 obtain ⟨e1,e2,b1,b2,b3,b4⟩:=shl_limb hr hx hc
 have e:=Int.emod_add_mul_ediv (x * 2 ^ r) 4294967296
 refine ⟨_,_,e1,e2,b1,b2,b3,b4,?_⟩
 clear e1 e2 b1 b2 b3 b4 hc hx
 generalize x * 2 ^ r=X at *
 omega
theorem two_pow_le' : ∀ r : Fin 32,(2 : Int) ^ r.val≤4294967296:=by decide +kernel
theorem two_pow_le {r : Nat} (hr : r < 32) : (2 : Int) ^ r≤4294967296:=two_pow_le' ⟨r,hr⟩
theorem nshl_l {t : List Int} (ht : W t) {s : Int} {q r : Nat} {T : Int} (hTB : T≤4294967296) (hr : r < 32) (hs : Aside0 (Int.tmod s 32=(r : Int))) (hl : q+t.length < 35184372088832)
  (step : ∀ x c : Int,0≤x∧x < 4294967296→0≤c∧c < T → ∃ dg cy,Go.bits .or .u32 (shl .u32 x (r : Int)) c=dg∧shr .u64 (IntKind.u64.wrap x) (32 - (r : Int)) % 4294967296=cy∧0≤dg∧dg < 4294967296∧0≤cy∧cy < T∧dg+4294967296 * cy=x * T+c) :
  ∀ (d i : Nat) (o : List Int) (c : Int),t.length - i=d→i≤t.length→W o→o.length=q+i→0≤c∧c < T →
   Aside0 (V o+P (q+i) * c=P q * (T * V (t.take i)))→Ev (fun k=>nat_Shl.l0 k s o c t (t.length : Int) (i : Int)) (L (P q * (T * V t)),true):=by
 intro d
 induction d with
|zero =>
  intro i o c hd hi hw ho hc HV
  obtain rfl : i=t.length:=by omega
  refine Ev_up ?_
  unfold nat_Shl.l0
  refine Ev_neg (by omega) ?_
  refine Ev_pos (by omega) ?_
  refine Ev_some (trim_f (W_append hw (W_one hc.1 (by omega)))) ?_
  refine Ev_now ?_
  have hv:=HV.out
  rw [List.take_length] at hv
  rw [V_snoc,ho,hv]
|succ d ih =>
  intro i o c hd hi hw ho hc HV
  have w1 : wrap64 ((i : Int)+1)=((i+1 : Nat) : Int):=by unfold wrap64;omega
  have w2 : wrap64 (32 - (r : Int))=32 - (r : Int):=by unfold wrap64;omega
  have rt:=W_rd ht (i : Int)
  obtain ⟨dg,cy,e1,e2,b1,b2,b3,b4,hs0⟩:=step _ c rt hc
  have HS:=Aside0.mk hs0
  clear hs0
  have key : Aside0 (V (o++[dg])+P (q+(i+1)) * cy=P q * (T * V (t.take (i+1)))):=⟨by
   have hv:=HV.out
   have hs1:=HS.out
   rw [V_snoc,ho,V_take_succ' t i,show q+(i+1)=q+i+1 by omega,P_succ,P_add]
   rw [P_add] at hv
   clear e1 e2 ih
   grind⟩
  have hrec:=ih (i+1) (o++[dg]) cy (by omega) (by omega) (W_append hw (W_one b1 b2)) (by simp [ho];omega) ⟨b3,b4⟩ key
  refine Ev_up ?_
  unfold nat_Shl.l0
  refine Ev_pos (by omega) ?_
  refine Ev_pos (by omega) ?_
  refine Ev_pos (by omega) ?_
  rw [hs.out,w1,w2,e1,e2]
  refine Ev_pos (by omega) ?_
  refine Ev_pos (by omega) ?_
  refine Ev_pos (by omega) ?_
  exact hrec
theorem two_pow_split {s : Int} {q r : Nat} (h : s=32 * (q : Int)+(r : Int)) : (2 : Int) ^ s.toNat=P q * 2 ^ r:=by
 rw [show s.toNat=32 * q+r by omega,Int.pow_add,P_pow]
theorem nshl_f {a : List Int} (ha : W a) (sa : a.length < 35184370000000) (s : Int) : Ev (fun k=>nat_Shl.f k a s) (shS (V a) s):=by
 have la:=L_len_le ha
 have va:=V_nonneg ha
 unfold shS
 by_cases h0 : s < 0
 ·rw [if_pos h0]
  refine Ev_pos h0 ?_
  refine Ev_up ?_
  unfold nat_Shl.j0
  refine Ev_pos rfl ?_
  exact Ev.now _
 ·rw [if_neg h0]
  refine Ev_neg h0 ?_
  refine Ev_up ?_
  unfold nat_Shl.j0
  by_cases h1 : s > 65536
  ·rw [if_pos h1,decide_eq_true h1]
   refine Ev_pos rfl ?_
   exact Ev.now _
  ·rw [if_neg h1,decide_eq_false h1]
   refine Ev_neg (by decide) ?_
   have e1 : Int.tdiv s 32=s / 32:=Int.tdiv_eq_ediv_of_nonneg (by omega)
   have e2 : Aside0 (Int.tmod s 32=((s % 32).toNat : Int)):=⟨by rw [Int.tmod_eq_emod_of_nonneg (by omega)];omega⟩
   have w1 : wrap64 (Int.tdiv s 32)=((s / 32).toNat : Int):=by rw [e1];clear e1;unfold wrap64;omega
   clear e1
   rw [w1,Int.toNat_natCast]
   refine Ev_pos (by omega) ?_
   refine Ev_pos (by omega) ?_
   refine Ev_some (trim_f ha) ?_
   have h:=nshl_l (W_L (V a)) (s:=s) (q:=(s / 32).toNat) (r:=(s % 32).toNat) (two_pow_le (by omega)) (by omega) e2 (by omega) (fun x c hx hc=>shl_step (by omega) hx hc) _ 0 (List.replicate (s / 32).toNat 0) 0 rfl (Nat.zero_le _) (W_replicate _) (by simp) ⟨by omega,Int.pow_pos (by decide)⟩ ⟨by simp [V_replicate,V_nil]⟩
   refine Ev_eq h ?_
   rw [V_L va,two_pow_split (s:=s) (q:=(s / 32).toNat) (r:=(s % 32).toNat) (by omega),Int.mul_comm (V a),Int.mul_assoc]
end Go.Proofs.YtncdiodnbkhacaaDoor.N
end
section
namespace Go.Proofs.YtncdiodnbkhacaaDoor.N
set_option linter.unusedVariables false
set_option linter.unusedSimpArgs false
open Go.RowKit Go.Proofs.YtncdiodnbkhacaaDoorW.PrintWords Go.Proofs.YtncdiodnbkhacaaDoorW.PrintLast Go.Proofs.YtncdiodnbkhacaaDoor.Pq
theorem two_pow_mono {m n : Nat} (h : m≤n) : (2 : Int) ^ m≤2 ^ n:=by
 obtain ⟨d,rfl⟩:=Nat.exists_eq_add_of_le h
 rw [Int.pow_add]
 have h1 : (0 : Int) < 2 ^ m:=Int.pow_pos (by decide)
 have h2 : (0 : Int) < 2 ^ d:=Int.pow_pos (by decide)
 have h3 : (2 : Int) ^ m * 1≤2 ^ m * 2 ^ d:=Int.mul_le_mul_of_nonneg_left (by omega) (by omega)
 omega
theorem shS_ok {x s : Int} (h0 : 0≤s) (h1 : s≤65536) : shS x s=(L (x * 2 ^ s.toNat),true):=by
 unfold shS
 rw [if_neg (by omega),if_neg (by omega)]
theorem Nm.shl {a : List Int} {n : Nat} {x : Int} (h : Nm a n x) (hn : n < 35184360000000) (s : Int) : Ev (fun k=>nat_Shl.f k a s) (shS x s):=by
 have h1:=h.le
 have e:=nshl_f h.w (by omega) s
 rwa [h.v] at e
theorem Nm.bits {a : List Int} {n : Nat} {x : Int} (h : Nm a n x) (hn : n < 35184360000000) : nat_Bits.f a=some (bl x):=by
 have h1:=h.le
 have e:=nbits_f h.w (by unfold Sm;omega)
 rwa [h.v] at e
theorem bl_shift {x : Int} (h : 0 < x) (n : Nat) : bl (x * 2 ^ n)=bl x+(n : Int):=by
 have h1:=bl_log h
 have hT : (0 : Int) < 2 ^ n:=Int.pow_pos (by decide)
 have k1 : (2 : Int) ^ x.toNat.log2 * 2 ^ n≤x * 2 ^ n:=Int.mul_le_mul_of_nonneg_right h1.1 (by omega)
 have k2 : x * 2 ^ n < (2 : Int) ^ (x.toNat.log2+1) * 2 ^ n:=Int.mul_lt_mul_of_pos_right h1.2 hT
 rw [← Int.pow_add] at k1 k2
 rw [bl_of (m:=x.toNat.log2+n) k1 (by rw [show x.toNat.log2+n+1=x.toNat.log2+1+n by omega];exact k2)]
 have e : bl x=(x.toNat.log2 : Int)+1:=bl_of h1.1 h1.2
 omega
theorem Nm.bl_le {l : List Int} {n : Nat} {x : Int} (h : Nm l n x) : bl x≤32 * (n : Int):=by
 by_cases hp : 0 < x
 ·obtain ⟨i,hi,hr⟩:=rd_last hp
  have h1:=bl_V (W_L x) i hi hr
  rw [V_L h.pos] at h1
  have h2:=bl_32 (W_rd (W_L x) (i : Int)).2
  have h3:=h.norm.le
  omega
 ·have:=h.pos
  obtain rfl : x=0:=by omega
  rw [bl_zero]
  omega
end Go.Proofs.YtncdiodnbkhacaaDoor.N
end
section
namespace Go.Proofs.YtncdiodnbkhacaaDoor.N
set_option linter.unusedVariables false
set_option linter.unusedSimpArgs false
open Go Go.RowKit Go.Proofs.YtncdiodnbkhacaaDoorW.PrintWords Go.Proofs.YtncdiodnbkhacaaDoorW.PrintLast Go.Proofs.YtncdiodnbkhacaaDoorW.PrintMore Go.Proofs.YtncdiodnbkhacaaDoor.Pq
theorem div32_f {a b d : Int} (ha : 0≤a∧a < d) (hb : 0≤b∧b < 4294967296) (hd : d < 4294967296) : bits_Div32.f a b d=some ((a * 4294967296+b) / d,(a * 4294967296+b) % d):=if_pos ⟨ha,hb,hd⟩
theorem small_l {x : List Int} (hx : W x) {dv : Int} (hd : 0 < dv∧dv < 4294967296) (hl : x.length < 35184372087809) : ∀ (i : Nat) (o : List Int) (r : Int),i≤x.length→W o→o.length=x.length→0≤r∧r < dv →
  (∀ j : Nat,j < i→rd o (j : Int)=0)→Aside0 (P i * r+dv * V o+V (x.take i)=V x) →
  Ev (fun k=>nat_small.l0 k x dv o r ((i : Int) - 1)) (L (V x / dv),L (V x % dv)):=by
 intro i
 induction i with
|zero =>
  intro o r hi hw ho hr hz HV
  refine Ev_up ?_
  unfold nat_small.l0
  refine Ev_neg (by omega) ?_
  refine Ev_some (trim_f hw) ?_
  refine Ev_some (trim_f (W_one hr.1 (by omega))) ?_
  refine Ev_now ?_
  have hv:=HV.out
  rw [List.take_zero,V_nil,P_zero] at hv
  have h1 : V x / dv=V o:=by
   rw [← hv,show 1 * r+dv * V o+0=r+dv * V o by omega,Int.add_mul_ediv_left _ _ (by omega),Int.ediv_eq_zero_of_lt hr.1 hr.2]
   omega
  have h2 : V x % dv=r:=by
   rw [← hv,show 1 * r+dv * V o+0=r+dv * V o by omega,Int.add_mul_emod_self_left,Int.emod_eq_of_lt hr.1 hr.2]
  rw [h1,h2,V_one]
|succ i ih =>
  intro o r hi hw ho hr hz HV
  have rx:=W_rd hx (i : Int)
  have w1 : wrap64 (((i+1 : Nat) : Int) - 1 - 1)=(i : Int) - 1:=by unfold wrap64;omega
  have w0 : ((i+1 : Nat) : Int) - 1=(i : Int):=by omega
  have q0 : 0≤(r * 4294967296+rd x (i : Int)) / dv:=Int.ediv_nonneg (by omega) (by omega)
  have q1 : (r * 4294967296+rd x (i : Int)) / dv < 4294967296:=Int.ediv_lt_of_lt_mul hd.1 (by omega)
  have r0:=Int.emod_nonneg (r * 4294967296+rd x (i : Int)) (show dv≠0 by omega)
  have r1:=Int.emod_lt_of_pos (r * 4294967296+rd x (i : Int)) hd.1
  have key : Aside0 (P i * ((r * 4294967296+rd x (i : Int)) % dv)+dv * V (o.set i ((r * 4294967296+rd x (i : Int)) / dv))+V (x.take i)=V x):=⟨by
   have hv:=HV.out
   have e:=Int.emod_add_mul_ediv (r * 4294967296+rd x (i : Int)) dv
   rw [V_set o i _ (by omega),hz i (by omega)]
   rw [V_take_succ' x i,P_succ] at hv
   clear ih hz
   grind⟩
  have hrec:=ih (o.set i ((r * 4294967296+rd x (i : Int)) / dv)) ((r * 4294967296+rd x (i : Int)) % dv) (by omega) (W_set hw _ q0 q1) (by rw [List.length_set,ho]) ⟨r0,r1⟩
   (fun j hj=>by rw [rd_set_ne _ _ _ _ (by omega)];exact hz j (by omega)) key
  refine Ev_up ?_
  unfold nat_small.l0
  rw [w1,w0]
  refine Ev_pos (by omega) ?_
  refine Ev_pos (by omega) ?_
  refine Ev_pos (by omega) ?_
  refine Ev_some (div32_f hr rx hd.2) ?_
  rw [Int.toNat_natCast]
  refine Ev_pos (by omega) ?_
  exact hrec
theorem small_f {x : List Int} (hx : W x) {dv : Int} (hd : 0 < dv∧dv < 4294967296) (hl : x.length < 35184372087809) : Ev (fun k=>nat_small.f k x dv) (L (V x / dv),L (V x % dv)):=by
 have w1 : wrap64 ((x.length : Int) - 1)=(x.length : Int) - 1:=by unfold wrap64;omega
 unfold nat_small.f
 refine Ev_pos (by omega) ?_
 refine Ev_pos (by omega) ?_
 rw [w1,Int.toNat_natCast]
 exact small_l hx hd hl x.length _ 0 (Nat.le_refl _) (W_replicate _) (by simp) ⟨by omega,hd.1⟩ (fun j _=>rd_replicate _ _) ⟨by simp [V_replicate]⟩
theorem V_drop (l : List Int) (i : Nat) : V (l.drop i)=rd l (i : Int)+4294967296 * V (l.drop (i+1)):=by
 by_cases h : i < l.length
 ·rw [List.drop_eq_getElem_cons h,V_cons]
  simp [rd,List.getD_eq_getElem?_getD,h]
 ·rw [rd_beyond l i (by simpa using h),List.drop_of_length_le (by omega),List.drop_of_length_le (by omega),V_nil]
  rfl
theorem or64_f {h x : Int} (hh : 0≤h∧h < 4294967296) (hx : 0≤x∧x < 4294967296) : Go.bits .or .u64 (h * 4294967296) x=h * 4294967296+x :=
 bits_join .u64 64 (Nat.le_refl _) (fun n h0 h1=>wrap_u64_of h0 h1) 32 _ _ (by omega) (by omega) (by omega) hx.1 hx.2 (by omega)
theorem or64_w {h x : Int} (hh : 0≤h∧h < 4294967296) (hx : 0≤x∧x < 4294967296) : Go.bits .or .u64 (IntKind.u64.wrap (IntKind.u64.wrap h * 4294967296)) (IntKind.u64.wrap x)=h * 4294967296+x:=by
 rw [wrap_u64_of hh.1 (by omega),wrap_u64_of (x:=h * 4294967296) (by omega) (by omega),wrap_u64_of hx.1 (by omega),or64_f hh hx]
theorem or64_z {x : Int} (hx : 0≤x∧x < 4294967296) : Go.bits .or .u64 0 (IntKind.u64.wrap x)=0 * 4294967296+x:=by
 rw [wrap_u64_of hx.1 (by omega)]
 exact or64_f (h:=0) (by omega) hx
theorem shr_limb {T U lo Y hi Z : Int} (hT : 0 < T) (hTU : T * U=4294967296) (hlo : 0≤lo∧lo < 4294967296) (hY : Y=hi+4294967296 * Z) :
  (lo+4294967296 * Y) / T=(hi * 4294967296+lo) / T % 4294967296+4294967296 * (Y / T):=by
 have eY:=Int.emod_add_mul_ediv Y T
 have eh:=Int.emod_add_mul_ediv hi T
 have y0:=Int.emod_nonneg Y (show T≠0 by omega)
 have y1:=Int.emod_lt_of_pos Y hT
 have em : hi % T=Y % T:=by
  rw [hY,← hTU,Int.mul_assoc,Int.add_mul_emod_self_left]
 have a1 : (lo+4294967296 * Y) / T=(lo+4294967296 * (Y % T)) / T+4294967296 * (Y / T):=by
  rw [show lo+4294967296 * Y=lo+4294967296 * (Y % T)+T * (4294967296 * (Y / T)) by grind,Int.add_mul_ediv_left _ _ (by omega)]
 have a2 : (hi * 4294967296+lo) / T=(lo+4294967296 * (Y % T)) / T+4294967296 * (hi / T):=by
  rw [show hi * 4294967296+lo=lo+4294967296 * (Y % T)+T * (4294967296 * (hi / T)) by grind,Int.add_mul_ediv_left _ _ (by omega)]
 have b0 : 0≤(lo+4294967296 * (Y % T)) / T:=Int.ediv_nonneg (by omega) (by omega)
 have b1 : (lo+4294967296 * (Y % T)) / T < 4294967296:=Int.ediv_lt_of_lt_mul hT (by omega)
 rw [a1,a2]
 generalize (lo+4294967296 * (Y % T)) / T=d at *
 generalize hi / T=h2 at *
 omega
theorem shr_w {r : Nat} (hr : r < 32) (x : Int) : shr .u64 x (r : Int)=x / 2 ^ r:=by
 unfold shr
 rw [Int.toNat_natCast,Nat.min_eq_left (show r≤IntKind.u64.bits by show r≤64;omega)]
theorem nshr_l {l : List Int} (hl : W l) (hn : l.length < 35184372087809) {r : Nat} (hr : r < 32) : ∀ (d i : Nat) (o : List Int),l.length - i=d→i≤l.length→W o→o.length=l.length →
  Aside0 (V (o.take i)+P i * (V (l.drop i) / 2 ^ r)=V l / 2 ^ r)→Ev (fun k=>nat_shr.l0 k l (r : Int) o l (l.length : Int) (i : Int)) (L (V l / 2 ^ r)):=by
 have hT : (0 : Int) < 2 ^ r:=Int.pow_pos (by decide)
 have HTU : Aside0 ((2 : Int) ^ r * 2 ^ (32 - r)=4294967296):=⟨by rw [← Int.pow_add,show r+(32 - r)=32 by omega];rfl⟩
 have hT':=Aside0.mk hT
 clear hT
 intro d
 induction d with
|zero =>
  intro i o hd hi hw ho HV
  obtain rfl : i=l.length:=by omega
  refine Ev_up ?_
  unfold nat_shr.l0
  refine Ev_neg (by omega) ?_
  refine Ev_some (trim_f hw) ?_
  refine Ev_now ?_
  have hv:=HV.out
  rw [List.drop_length,V_nil,V_take_all o _ (by omega),Int.zero_ediv,Int.mul_zero,Int.add_zero] at hv
  rw [hv]
|succ d ih =>
  intro i o hd hi hw ho HV
  have w1 : wrap64 ((i : Int)+1)=((i+1 : Nat) : Int):=by unfold wrap64;omega
  have rl:=W_rd hl (i : Int)
  have rh:=W_rd hl ((i+1 : Nat) : Int)
  have SL:=Aside0.mk (shr_limb hT'.out HTU.out rl (V_drop l (i+1)))
  have D0:=Aside0.mk (V_drop l i)
  have hq0 : 0≤(rd l ((i+1 : Nat) : Int) * 4294967296+rd l (i : Int)) / 2 ^ r % 4294967296:=Int.emod_nonneg _ (by decide)
  have hq1 : (rd l ((i+1 : Nat) : Int) * 4294967296+rd l (i : Int)) / 2 ^ r % 4294967296 < 4294967296:=Int.emod_lt_of_pos _ (by decide)
  have hrec:=ih (i+1) (o.set i ((rd l ((i+1 : Nat) : Int) * 4294967296+rd l (i : Int)) / 2 ^ r % 4294967296)) (by omega) (by omega) (W_set hw _ hq0 hq1) (by rw [List.length_set,ho]) ⟨by
   have hv:=HV.out
   rw [D0.out,SL.out] at hv
   rw [V_take_succ' _ i,rd_set_eq _ _ _ (by omega),P_succ,show (o.set i ((rd l ((i+1 : Nat) : Int) * 4294967296+rd l (i : Int)) / 2 ^ r % 4294967296)).take i=o.take i by rw [List.take_set_of_le (Nat.le_refl _)]]
   clear ih
   grind⟩
  refine Ev_up ?_
  unfold nat_shr.l0
  rw [w1,Int.toNat_natCast]
  refine Ev_pos (by omega) ?_
  refine Ev_pos (by omega) ?_
  refine Ev_pos (by omega) ?_
  by_cases hh : ((i+1 : Nat) : Int) < (l.length : Int)
  ·refine Ev_pos hh ?_
   refine Ev_pos (by omega) ?_
   refine Ev_pos (by omega) ?_
   refine Ev_pos (by omega) ?_
   rw [or64_w rh rl,shr_w hr]
   exact hrec
  ·rw [rd_beyond l ((i+1 : Nat) : Int) (by omega)] at hrec
   refine Ev_neg hh ?_
   refine Ev_pos (by omega) ?_
   refine Ev_pos (by omega) ?_
   rw [or64_z rl,shr_w hr]
   exact hrec
theorem nshr_f {l : List Int} (hl : W l) (hn : l.length < 35184372087809) {r : Nat} (hr : r < 32) : Ev (fun k=>nat_shr.f k l (r : Int)) (L (V l / 2 ^ r)):=by
 unfold nat_shr.f
 refine Ev_pos (by omega) ?_
 refine Ev_pos (by omega) ?_
 rw [Int.toNat_natCast]
 exact nshr_l hl hn hr _ 0 _ rfl (Nat.zero_le _) (W_replicate _) (by simp) ⟨by simp [V_nil,P_zero]⟩
end Go.Proofs.YtncdiodnbkhacaaDoor.N
end
section
namespace Go.Proofs.YtncdiodnbkhacaaDoor.N
set_option linter.unusedVariables false
set_option linter.unusedSimpArgs false
open Go Go.RowKit Go.Proofs.YtncdiodnbkhacaaDoorW.PrintWords Go.Proofs.YtncdiodnbkhacaaDoorW.PrintLast Go.Proofs.YtncdiodnbkhacaaDoorW.PrintMore Go.Proofs.YtncdiodnbkhacaaDoor.Pq
theorem b01 (x y c : Int) : bits_Sub32.b x y c=0∨bits_Sub32.b x y c=1:=by
 unfold bits_Sub32.b
 split
 ·exact .inr rfl
 ·exact .inl rfl
theorem sub_limb {x y c : Int} (hx : 0≤x∧x < 4294967296) (hy : 0≤y∧y < 4294967296) (hc : 0≤c∧c≤1) :
  (x - y - c) % 4294967296=x - y - c+4294967296 * bits_Sub32.b x y c:=by
 unfold bits_Sub32.b
 split <;> omega
theorem less_at {u v : List Int} (hu : W u) (hv : W v) (j : Nat) {g : Int} (hg : 0≤g∧g < 4294967296) : ∀ (i : Nat),i≤v.length→j+v.length≤u.length →
  ∃ u' c b,nat_less.at u v j g i=some (u',c,b)∧W u'∧u'.length=u.length∧0≤c∧c < 4294967296∧(b=0∨b=1)∧(∀ m : Nat,j+i≤m→rd u' (m : Int)=rd u (m : Int)) ∧
   Aside0 (V u'=V u - P j * (g * V (v.take i))+P (j+i) * (c+b)):=by
 intro i
 induction i with
|zero =>
  intro _ _
  exact ⟨u,0,0,rfl,hu,rfl,by omega,by omega,.inl rfl,fun _ _=>rfl,⟨by simp [V_nil]⟩⟩
|succ i ih =>
  intro hi hl
  obtain ⟨u',c,b,e,hw,hlen,c0,c1,hb,hrd,HV⟩:=ih (by omega) hl
  have rv:=W_rd hv (i : Int)
  have ru:=W_rd hw ((j+i : Nat) : Int)
  have hm:=limb_mul hg rv (o:=0) (c:=0) (by omega) (by omega)
  have t0 : 0≤(g * rd v (i : Int)+c) % 4294967296:=by omega
  have t1 : (g * rd v (i : Int)+c) % 4294967296 < 4294967296:=by omega
  have hs:=sub_limb ru ⟨t0,t1⟩ (show 0≤b∧b≤1 by omega)
  have s0 : 0≤(rd u' ((j+i : Nat) : Int) - (g * rd v (i : Int)+c) % 4294967296 - b) % 4294967296:=by omega
  have s1 : (rd u' ((j+i : Nat) : Int) - (g * rd v (i : Int)+c) % 4294967296 - b) % 4294967296 < 4294967296:=by omega
  refine ⟨u'.set (j+i) ((rd u' ((j+i : Nat) : Int) - (g * rd v (i : Int)+c) % 4294967296 - b) % 4294967296),(g * rd v (i : Int)+c) / 4294967296,bits_Sub32.b (rd u' ((j+i : Nat) : Int)) ((g * rd v (i : Int)+c) % 4294967296) b,?_,W_set hw _ s0 s1,by rw [List.length_set,hlen],by omega,by omega,b01 _ _ _,?_,⟨?_⟩⟩
  ·show (nat_less.at u v j g i).bind _=_
   rw [e,Option.bind_some]
   dsimp only
   rw [if_pos ⟨⟨hg.1,by omega⟩,rv,c0,hm.1,by omega⟩,sub32_f ru ⟨t0,t1⟩ (by omega),Option.bind_some]
  ·intro m hm'
   rw [rd_set_ne _ _ _ _ (by omega)]
   exact hrd m (by omega)
  ·have hv':=HV.out
   have ed:=Int.emod_add_mul_ediv (g * rd v (i : Int)+c) 4294967296
   rw [V_set _ _ _ (by omega),hv',V_take_succ' v i,show j+(i+1)=j+i+1 by omega,P_succ,P_add j i,hs]
   clear ih hs s0 s1 t0 t1 hm
   grind
theorem less_f {u v : List Int} (hu : W u) (hv : W v) (j : Nat) {g : Int} (hg : 0≤g∧g < 4294967296) (hl : j+v.length < u.length) :
  ∃ u' b,nat_less.f u j v g=some (decide (b=1),u')∧W u'∧u'.length=u.length∧(b=0∨b=1)∧(∀ m : Nat,j+v.length < m→rd u' (m : Int)=rd u (m : Int)) ∧
   Aside0 (V u'=V u - P j * (g * V v)+P (j+v.length+1) * b):=by
 obtain ⟨u1,c,b,e,hw,hlen,c0,c1,hb,hrd,HV⟩:=less_at hu hv j hg v.length (Nat.le_refl _) (by omega)
 have ru:=W_rd hw ((j+v.length : Nat) : Int)
 have hs:=sub_limb ru ⟨c0,c1⟩ (show 0≤b∧b≤1 by omega)
 have ec : c % 4294967296=c:=by omega
 refine ⟨u1.set (j+v.length) ((rd u1 ((j+v.length : Nat) : Int) - c - b) % 4294967296),bits_Sub32.b (rd u1 ((j+v.length : Nat) : Int)) c b,?_,W_set hw _ (by omega) (by omega),by rw [List.length_set,hlen],b01 _ _ _,?_,⟨?_⟩⟩
 ·unfold nat_less.f
  rw [e,Option.bind_some]
  dsimp only
  rw [if_pos ⟨c0,by omega⟩,ec,sub32_f ru ⟨c0,c1⟩ (by omega),Option.bind_some]
  rcases b01 (rd u1 ((j+v.length : Nat) : Int)) c b with h|h <;> rw [h] <;> rfl
 ·intro m hm
  rw [rd_set_ne _ _ _ _ (by omega)]
  exact hrd m (by omega)
 ·have hv':=HV.out
  rw [List.take_length] at hv'
  rw [V_set _ _ _ (by omega),hv',P_succ,hs]
  grind
theorem back_at {u v : List Int} (hu : W u) (hv : W v) (j : Nat) : ∀ (i : Nat),i≤v.length→j+v.length≤u.length →
  ∃ u' c,nat_back.at u v j i=some (u',c)∧W u'∧u'.length=u.length∧0≤c∧c≤1∧(∀ m : Nat,j+i≤m→rd u' (m : Int)=rd u (m : Int)) ∧
   Aside0 (V u'+P (j+i) * c=V u+P j * V (v.take i)):=by
 intro i
 induction i with
|zero =>
  intro _ _
  exact ⟨u,0,rfl,hu,rfl,by omega,by omega,fun _ _=>rfl,⟨by simp [V_nil]⟩⟩
|succ i ih =>
  intro hi hl
  obtain ⟨u',c,e,hw,hlen,c0,c1,hrd,HV⟩:=ih (by omega) hl
  have rv:=W_rd hv (i : Int)
  have ru:=W_rd hw ((j+i : Nat) : Int)
  refine ⟨u'.set (j+i) ((rd u' ((j+i : Nat) : Int)+rd v (i : Int)+c) % 4294967296),(rd u' ((j+i : Nat) : Int)+rd v (i : Int)+c) / 4294967296,?_,W_set hw _ (by omega) (by omega),by rw [List.length_set,hlen],by omega,by omega,?_,⟨?_⟩⟩
  ·show (nat_back.at u v j i).bind _=_
   rw [e,Option.bind_some]
   dsimp only
   rw [add32_f ru rv ⟨c0,c1⟩,Option.bind_some]
  ·intro m hm'
   rw [rd_set_ne _ _ _ _ (by omega)]
   exact hrd m (by omega)
  ·have hv':=HV.out
   have ed:=Int.emod_add_mul_ediv (rd u' ((j+i : Nat) : Int)+rd v (i : Int)+c) 4294967296
   rw [V_set _ _ _ (by omega),V_take_succ' v i,show j+(i+1)=j+i+1 by omega,P_succ]
   rw [P_add j i] at *
   clear ih
   grind
theorem back_f {u v : List Int} (hu : W u) (hv : W v) (j : Nat) (hl : j+v.length < u.length) :
  ∃ u' b,nat_back.f u j v=some u'∧W u'∧u'.length=u.length∧(b=0∨b=1)∧(∀ m : Nat,j+v.length < m→rd u' (m : Int)=rd u (m : Int)) ∧
   Aside0 (V u'=V u+P j * V v - P (j+v.length+1) * b):=by
 obtain ⟨u1,c,e,hw,hlen,c0,c1,hrd,HV⟩:=back_at hu hv j v.length (Nat.le_refl _) (by omega)
 have ru:=W_rd hw ((j+v.length : Nat) : Int)
 refine ⟨u1.set (j+v.length) ((rd u1 ((j+v.length : Nat) : Int)+c) % 4294967296),(rd u1 ((j+v.length : Nat) : Int)+c) / 4294967296,?_,W_set hw _ (by omega) (by omega),by rw [List.length_set,hlen],by omega,?_,⟨?_⟩⟩
 ·unfold nat_back.f
  rw [e,Option.bind_some]
 ·intro m hm
  rw [rd_set_ne _ _ _ _ (by omega)]
  exact hrd m (by omega)
 ·have hv':=HV.out
  have ed:=Int.emod_add_mul_ediv (rd u1 ((j+v.length : Nat) : Int)+c) 4294967296
  rw [List.take_length] at hv'
  rw [V_set _ _ _ (by omega),P_succ]
  grind
end Go.Proofs.YtncdiodnbkhacaaDoor.N
end
section
namespace Go.Proofs.YtncdiodnbkhacaaDoor.N
set_option linter.unusedVariables false
set_option linter.unusedSimpArgs false
open Go Go.RowKit Go.Proofs.YtncdiodnbkhacaaDoorW.PrintWords Go.Proofs.YtncdiodnbkhacaaDoorW.PrintLast Go.Proofs.YtncdiodnbkhacaaDoorW.PrintMore Go.Proofs.YtncdiodnbkhacaaDoor.Pq
structure Two (X D top u2 v1 v2 Q xl dl : Int) : Prop where
 q : 0 < Q
 x : X=(top * 4294967296+u2) * Q+xl
 d : D=(v1 * 4294967296+v2) * Q+dl
 xl : 0≤xl∧xl < Q
 dl : 0≤dl∧dl < Q
 u2 : 0≤u2∧u2 < 4294967296
 v2 : 0≤v2∧v2 < 4294967296
 v1 : 0 < v1∧v1 < 4294967296
 top : 0≤top∧top < 18446744073709551616
 lt : X < 4294967296 * D
theorem Two.x0 {X D top u2 v1 v2 Q xl dl : Int} (h : Two X D top u2 v1 v2 Q xl dl) : 0≤X:=by
 have h1 : 0≤(top * 4294967296+u2) * Q:=Int.mul_nonneg (by have:=h.top;have:=h.u2;omega) (by have:=h.q;omega)
 have:=h.x
 have:=h.xl
 omega
theorem Two.d0 {X D top u2 v1 v2 Q xl dl : Int} (h : Two X D top u2 v1 v2 Q xl dl) : 4294967296 * Q≤D:=by
 have h1 : 4294967296 * Q≤(v1 * 4294967296+v2) * Q:=Int.mul_le_mul_of_nonneg_right (by have:=h.v1;have:=h.v2;omega) (by have:=h.q;omega)
 have:=h.d
 have:=h.dl
 omega
theorem Two.more {X D top u2 v1 v2 Q xl dl : Int} (h : Two X D top u2 v1 v2 Q xl dl) {g r : Int} (g0 : 0≤g) (e : g * v1+r=top) (hc : r * 4294967296+u2 < g * v2) : X < g * D:=by
 have h1 : (top * 4294967296+u2+1) * Q≤(g * (v1 * 4294967296+v2)) * Q:=Int.mul_le_mul_of_nonneg_right (by
  have : g * (v1 * 4294967296+v2)=(g * v1) * 4294967296+g * v2:=by grind
  rw [this]
  omega) (by have:=h.q;omega)
 have h2 : 0≤g * dl:=Int.mul_nonneg g0 h.dl.1
 have h3 : g * D=(g * (v1 * 4294967296+v2)) * Q+g * dl:=by rw [h.d];grind
 have h4 : (top * 4294967296+u2+1) * Q=(top * 4294967296+u2) * Q+Q:=by grind
 have:=h.x
 have:=h.xl
 omega
theorem Two.less {X D top u2 v1 v2 Q xl dl : Int} (h : Two X D top u2 v1 v2 Q xl dl) {g r : Int} (g0 : 0≤g) (g1 : g < 4294967296) (e : g * v1+r=top) (hc : g * v2≤r * 4294967296+u2) : (g - 1) * D≤X:=by
 have h1 : (g * (v1 * 4294967296+v2)) * Q≤(top * 4294967296+u2) * Q:=Int.mul_le_mul_of_nonneg_right (by
  have : g * (v1 * 4294967296+v2)=(g * v1) * 4294967296+g * v2:=by grind
  rw [this]
  omega) (by have:=h.q;omega)
 have h2 : g * dl≤4294967296 * dl:=Int.mul_le_mul_of_nonneg_right (by omega) h.dl.1
 have h3 : g * D=(g * (v1 * 4294967296+v2)) * Q+g * dl:=by rw [h.d];grind
 have h4 : (g - 1) * D=g * D - D:=by grind
 have:=h.x
 have:=h.xl
 have:=h.dl
 have:=h.d0
 omega
theorem Two.first {X D top u2 v1 v2 Q xl dl : Int} (h : Two X D top u2 v1 v2 Q xl dl) : X < (top / v1+1) * D:=by
 have e:=Int.emod_add_mul_ediv top v1
 have e1:=Int.emod_lt_of_pos top h.v1.1
 have h1 : (top+1)≤(top / v1+1) * v1:=by grind
 have q:=h.q
 have g0 : 0≤top / v1:=Int.ediv_nonneg h.top.1 (by have:=h.v1;omega)
 have h2 : (top+1) * (4294967296 * Q)≤(top / v1+1) * v1 * (4294967296 * Q):=Int.mul_le_mul_of_nonneg_right h1 (by omega)
 have h3 : v1 * (4294967296 * Q)≤D:=by
  rw [h.d]
  have : 0≤v2 * Q:=Int.mul_nonneg h.v2.1 (by omega)
  have:=h.dl
  grind
 have h4 : (top / v1+1) * (v1 * (4294967296 * Q))≤(top / v1+1) * D:=Int.mul_le_mul_of_nonneg_left h3 (by omega)
 have h5 : X < (top+1) * (4294967296 * Q):=by
  rw [h.x]
  have h6 : u2 * Q≤4294967295 * Q:=Int.mul_le_mul_of_nonneg_right (by have:=h.u2;omega) (by omega)
  have:=h.xl
  grind
 rw [← Int.mul_assoc] at h4
 omega
theorem Two.small {X D top u2 v1 v2 Q xl dl : Int} (h : Two X D top u2 v1 v2 Q xl dl) {g r : Int} (e : g * v1+r=top) (hr : 4294967296≤r) : g < 4294967296:=by
 have q:=h.q
 have h1 : top * 4294967296 * Q≤X:=by
  rw [h.x]
  have : 0≤u2 * Q:=Int.mul_nonneg h.u2.1 (by omega)
  have:=h.xl
  grind
 have h2 : D < (v1 * 4294967296+v2+1) * Q:=by
  rw [h.d]
  have:=h.dl
  grind
 have h3 : top < v1 * 4294967296+4294967296:=by
  rcases Int.lt_or_le top (v1 * 4294967296+4294967296) with k|k
  ·exact k
  ·exfalso
   have h4 : (v1 * 4294967296+v2+1) * Q≤top * Q:=Int.mul_le_mul_of_nonneg_right (by have:=h.v2;omega) (by omega)
   have:=h.lt
   have : top * 4294967296 * Q=4294967296 * (top * Q):=by grind
   omega
 have h5 : g * v1 < 4294967296 * v1:=by omega
 exact Int.lt_of_mul_lt_mul_right h5 (by have:=h.v1;omega)
structure Gs (X D top v1 g r : Int) : Prop where
 lt : X < (g+1) * D
 e : g * v1+r=top
 r : 0≤r∧r < 4294967296
 g : 0≤g∧g < 18446744073709551616
theorem Two.pos {X D top u2 v1 v2 Q xl dl : Int} (h : Two X D top u2 v1 v2 Q xl dl) {g : Int} (k : X < g * D) : 0 < g:=by
 rcases Int.lt_or_le 0 g with h1|h1
 ·exact h1
 ·exfalso
  have h2 : g * D≤0 * D:=Int.mul_le_mul_of_nonneg_right h1 (by have:=h.d0;have:=h.q;omega)
  have:=h.x0
  omega
end Go.Proofs.YtncdiodnbkhacaaDoor.N
end
section
namespace Go.Proofs.YtncdiodnbkhacaaDoor.N
set_option linter.unusedVariables false
set_option linter.unusedSimpArgs false
open Go Go.RowKit Go.Proofs.YtncdiodnbkhacaaDoorW.PrintWords Go.Proofs.YtncdiodnbkhacaaDoorW.PrintLast Go.Proofs.YtncdiodnbkhacaaDoorW.PrintMore Go.Proofs.YtncdiodnbkhacaaDoor.Pq
theorem guess_l {u v q : List Int} {sh : Int} (hu : W u) (hv : W v) {j n : Nat} (hn : v.length=n+2) (hlen : j+n+2 < u.length) (hul : u.length < 35184372088832) {X D top u2 v1 v2 Q xl dl : Int}
  (h : Two X D top u2 v1 v2 Q xl dl) (e1 : v1=rd v ((n+1 : Nat) : Int)) (e2 : v2=rd v (n : Int)) (eu : u2=rd u ((j+n : Nat) : Int)) (R : List Int × List Int)
  (next : ∀ g,0≤g→g < 4294967296→(g - 1) * D≤X→X < (g+1) * D→Ev (fun k=>nat_long.j4 k sh v u ((n+2 : Nat) : Int) q (j : Int) g) R) :
  ∀ (m : Nat) (g r : Int),g.toNat≤m→Gs X D top v1 g r→Ev (fun k=>nat_long.l2 k sh v u ((n+2 : Nat) : Int) q (j : Int) g r) R:=by
 have b2 : (n : Int) < (v.length : Int):=by omega
 have b4 : ((j+n : Nat) : Int) < (u.length : Int):=by omega
 have w1 : wrap64 (((n+2 : Nat) : Int) - 1)=((n+1 : Nat) : Int):=by unfold wrap64;omega
 have w2 : wrap64 (((n+2 : Nat) : Int) - 2)=(n : Int):=by unfold wrap64;omega
 have w3 : wrap64 (wrap64 ((j : Int)+((n+2 : Nat) : Int)) - 2)=((j+n : Nat) : Int):=by
  rw [show wrap64 ((j : Int)+((n+2 : Nat) : Int))=((j+n+2 : Nat) : Int) by unfold wrap64;omega]
  unfold wrap64
  omega
 have dpos : 0 < D:=by have:=h.d0;have:=h.q;omega
 have hv1:=h.v1
 have hv2:=h.v2
 have hu2:=h.u2
 have e0 : IntKind.u64.wrap (rd v ((n+1 : Nat) : Int))=v1:=by rw [← e1,wrap_u64_of (by omega) (by omega)]
 -- the way down by one
 have down : ∀ (m : Nat),(∀ (g r : Int),g.toNat≤m→Gs X D top v1 g r→Ev (fun k=>nat_long.l2 k sh v u ((n+2 : Nat) : Int) q (j : Int) g r) R) →
   ∀ (g r : Int),g.toNat≤m+1→Gs X D top v1 g r→X < g * D→Ev (fun k=>nat_long.j3 k sh v u ((n+2 : Nat) : Int) q (j : Int) g r true) R:=by
  intro m ih g r hm hg hlt
  have gp:=h.pos hlt
  have hr:=hg.r
  have gb:=hg.g
  have e' : (g - 1) * v1+(r+v1)=top:=by rw [Int.sub_mul,Int.one_mul];have:=hg.e;omega
  have hlt' : X < (g - 1+1) * D:=by rw [show g - 1+1=g by omega];exact hlt
  refine Ev_up ?_
  unfold nat_long.j3
  refine Ev_pos rfl ?_
  rw [w1,e0,wrap_u64_of (x:=r+v1) (by omega) (by omega),wrap_u64_of (x:=g - 1) (by omega) (by omega)]
  refine Ev_pos (by omega) ?_
  refine Ev_pos (by omega) ?_
  by_cases hb : r+v1 ≥ 4294967296
  ·refine Ev_pos hb ?_
   have gs:=h.small e' hb
   have h3 : (g - 1) * v2≤4294967296 * v2:=Int.mul_le_mul_of_nonneg_right (by omega) hv2.1
   exact next (g - 1) (by omega) gs (h.less (by omega) gs e' (by omega)) hlt'
  ·refine Ev_neg hb ?_
   exact ih (g - 1) (r+v1) (by omega) ⟨hlt',e',by omega,by omega⟩
 intro m
 have go : ∀ (g r : Int),(X < g * D→Ev (fun k=>nat_long.j3 k sh v u ((n+2 : Nat) : Int) q (j : Int) g r true) R)→Gs X D top v1 g r→Ev (fun k=>nat_long.l2 k sh v u ((n+2 : Nat) : Int) q (j : Int) g r) R:=by
  intro g r hdown hg
  have hr:=hg.r
  have gb:=hg.g
  refine Ev_up ?_
  unfold nat_long.l2
  by_cases hb : g ≥ 4294967296
  ·refine Ev_pos hb ?_
   refine hdown ?_
   have h1 : 4294967296 * D≤g * D:=Int.mul_le_mul_of_nonneg_right hb (by omega)
   have:=h.lt
   omega
  ·refine Ev_neg hb ?_
   refine Ev_pos (by omega) ?_
   have hm:=limb_mul (x:=g) (y:=v2) (o:=0) (c:=0) ⟨gb.1,by omega⟩ hv2 (by omega) (by omega)
   have ew : IntKind.u64.wrap (g * IntKind.u64.wrap (rd v (n : Int)))=g * v2:=by
    rw [← e2,wrap_u64_of hv2.1 (by omega),wrap_u64_of hm.1 (by omega)]
   have eo : Go.bits .or .u64 (IntKind.u64.wrap (r * 4294967296)) (IntKind.u64.wrap (rd u ((j+n : Nat) : Int)))=r * 4294967296+u2:=by
    rw [← eu,wrap_u64_of (x:=r * 4294967296) (by omega) (by omega),wrap_u64_of hu2.1 (by omega),or64_f hr hu2]
   rw [w2,w3,ew,eo]
   refine Ev_pos (Int.natCast_nonneg _) ?_
   refine Ev_pos b2 ?_
   refine Ev_pos (Int.natCast_nonneg _) ?_
   refine Ev_pos b4 ?_
   by_cases hc : g * v2 > r * 4294967296+u2
   ·rw [decide_eq_true hc]
    exact hdown (h.more gb.1 hg.e hc)
   ·rw [decide_eq_false hc]
    refine Ev_up ?_
    unfold nat_long.j3
    refine Ev_neg (by decide) ?_
    exact next g gb.1 (by omega) (h.less gb.1 (by omega) hg.e (by omega)) hg.lt
 induction m with
|zero =>
  intro g r hm hg
  refine go g r (fun hlt=>?_) hg
  have:=h.pos hlt
  omega
|succ m ih =>
  intro g r hm hg
  exact go g r (fun hlt=>down m ih g r hm hg hlt) hg
end Go.Proofs.YtncdiodnbkhacaaDoor.N
end
section
namespace Go.Proofs.YtncdiodnbkhacaaDoor.N
set_option linter.unusedVariables false
set_option linter.unusedSimpArgs false
open Go Go.RowKit Go.Proofs.YtncdiodnbkhacaaDoorW.PrintWords Go.Proofs.YtncdiodnbkhacaaDoorW.PrintLast Go.Proofs.YtncdiodnbkhacaaDoorW.PrintMore Go.Proofs.YtncdiodnbkhacaaDoor.Pq
theorem drop_eq {l m : List Int} {k : Nat} (hl : l.length=m.length) (h : ∀ i : Nat,k≤i→rd l (i : Int)=rd m (i : Int)) : l.drop k=m.drop k:=by
 apply List.ext_getElem (by simp [hl])
 intro i h1 h2
 have h3:=h (k+i) (by omega)
 simp only [List.length_drop] at h1 h2
 have e1 : rd l ((k+i : Nat) : Int)=l[k+i]:=by simp only [rd,Int.toNat_natCast,List.getD_eq_getElem?_getD,List.getElem?_eq_getElem (show k+i < l.length by omega),Option.getD_some]
 have e2 : rd m ((k+i : Nat) : Int)=m[k+i]:=by simp only [rd,Int.toNat_natCast,List.getD_eq_getElem?_getD,List.getElem?_eq_getElem (show k+i < m.length by omega),Option.getD_some]
 rw [e1,e2] at h3
 rw [List.getElem_drop,List.getElem_drop]
 exact h3
structure Dg (v : List Int) (A : Int) (N : Nat) (u q : List Int) (j : Nat) : Prop where
 wu : W u
 wq : W q
 lu : u.length=N
 lq : q.length+v.length=N
 lt : V u < P j * V v
 e : V u+V v * V q=A
 z : ∀ m : Nat,m < j→rd q (m : Int)=0
theorem Dg.top {v : List Int} {A : Int} {N : Nat} {u q : List Int} {j : Nat} (h : Dg v A N u q (j+1)) (hv : W v) : V (u.drop (j+v.length+1))=0:=by
 have h1:=V_split' u (j+v.length+1)
 have h2:=V_nonneg (W_take h.wu (j+v.length+1))
 have h3:=V_nonneg (W_drop h.wu (j+v.length+1))
 have h4 : P (j+1) * V v < P (j+1) * P v.length:=Int.mul_lt_mul_of_pos_left (V_lt hv) (P_pos _)
 rw [← P_add,show j+1+v.length=j+v.length+1 by omega] at h4
 have h5:=h.lt
 rcases (show V (u.drop (j+v.length+1))=0∨1≤V (u.drop (j+v.length+1)) by omega) with h6|h6
 ·exact h6
 ·have h7 : P (j+v.length+1) * 1≤P (j+v.length+1) * V (u.drop (j+v.length+1)):=Int.mul_le_mul_of_nonneg_left h6 (by have:=P_pos (j+v.length+1);omega)
  omega
theorem Dg.x {v : List Int} {A : Int} {N : Nat} {u q : List Int} {j : Nat} (h : Dg v A N u q (j+1)) : V (u.drop j) < 4294967296 * V v:=by
 have h1:=V_split' u j
 have h2:=V_nonneg (W_take h.wu j)
 have h3:=h.lt
 have h4 : P (j+1) * V v=P j * (4294967296 * V v):=by rw [P_succ];grind
 have h5 : P j * V (u.drop j) < P j * (4294967296 * V v):=by omega
 exact Int.lt_of_mul_lt_mul_left h5 (by have:=P_pos j;omega)
theorem Dg.next {v : List Int} {A : Int} {N : Nat} {u q u' : List Int} {j : Nat} (h : Dg v A N u q (j+1)) (hw : W u') (hl : u'.length=N) {t : Int} (ht : 0≤t∧t < 4294967296)
  (hV : V u'=V u - P j * (t * V v)) (h1 : V (u.drop j) < (t+1) * V v) (hj : j < q.length) : Dg v A N u' (q.set j t) j where
 wu:=hw
 wq:=W_set h.wq _ ht.1 ht.2
 lu:=hl
 lq:=by rw [List.length_set];exact h.lq
 lt:=by
  have h2:=V_split' u j
  have h3:=V_take_lt h.wu j
  have h4 : P j * (V (u.drop j)+1)≤P j * ((t+1) * V v):=Int.mul_le_mul_of_nonneg_left (by omega) (by have:=P_pos j;omega)
  have h5 : P j * ((t+1) * V v)=P j * (t * V v)+P j * V v:=by grind
  rw [Int.mul_add] at h4
  omega
 e:=by
  have h2:=h.e
  rw [V_set _ _ _ hj,h.z j (by omega),hV]
  grind
 z:=fun m hm=>by rw [rd_set_ne _ _ _ _ (by omega)];exact h.z m (by omega)
theorem V_lt_of_drop {l : List Int} (h : W l) {k : Nat} (hz : V (l.drop k)=0) : V l < P k:=by
 have h1:=V_split' l k
 have h2:=V_take_lt h k
 rw [hz,Int.mul_zero] at h1
 omega
theorem digit_b2 {U V1 V2 G D M T X b2 : Int} (hv1 : V1=U - G+M * 1) (hv2 : V2=V1+D - M * b2) (hb2 : b2=0∨b2=1) (k1 : G - D≤X) (hx : U=T+X) (T0 : 0≤T) (hlt : V2 < M) : b2=1:=by
 rcases hb2 with rfl|rfl
 ·exfalso
  omega
 ·rfl
theorem digit_lt {U V1 G M T X : Int} (hv1 : V1=U - G+M * 1) (hx : U=T+X) (T0 : 0≤T) (hlt : V1 < M) : X < G:=by omega
theorem digit_new {U V1 V2 G D M : Int} (hv1 : V1=U - G+M * 1) (hv2 : V2=V1+D - M * 1) : V2=U - (G - D):=by omega
theorem digit_steps {v : List Int} (hv : W v) {A : Int} {N : Nat} {u q : List Int} {j : Nat} (h : Dg v A N u q (j+1)) {g : Int} (hg : 0≤g∧g < 4294967296)
  (h0 : (g - 1) * V v≤V (u.drop j)) (h1 : V (u.drop j) < (g+1) * V v) (hj : j < q.length) :
  ∃ u1,W u1∧u1.length=N∧((nat_less.f u j v g=some (false,u1)∧Dg v A N u1 (q.set j g) j) ∨
   (nat_less.f u j v g=some (true,u1)∧0 < g ∧ ∃ u2,nat_back.f u1 j v=some u2∧Dg v A N u2 (q.set j (g - 1)) j)):=by
 have hlu:=h.lu
 have hlq:=h.lq
 have hjN : j+v.length < u.length:=by clear h0 h1;omega
 have htop:=h.top hv
 have X0:=Aside0.mk (V_split' u j)
 have XT:=Aside0.mk (V_nonneg (W_take h.wu j))
 have hPj:=Aside0.mk (P_pos j)
 have H0:=Aside0.mk h0
 have H1:=Aside0.mk h1
 clear h0 h1
 obtain ⟨u1,b,e1,hw1,hl1,hb,hrd1,HV1⟩:=less_f h.wu hv j hg hjN
 have hd1 : V (u1.drop (j+v.length+1))=0:=by rw [drop_eq hl1 (fun i hi=>hrd1 i (by omega)),htop]
 have hlt1:=Aside0.mk (V_lt_of_drop hw1 hd1)
 refine ⟨u1,hw1,by omega,?_⟩
 rcases hb with hb|hb
 ·subst hb
  refine .inl ⟨e1,h.next hw1 (by omega) hg ?_ H1.out hj⟩
  have hv1:=HV1.out
  rw [Int.mul_zero,Int.add_zero] at hv1
  exact hv1
 ·subst hb
  obtain ⟨u2,b2,e2,hw2,hl2,hb2,hrd2,HV2⟩:=back_f hw1 hv j (by omega)
  have hd2 : V (u2.drop (j+v.length+1))=0:=by rw [drop_eq hl2 (fun i hi=>hrd2 i (by omega)),hd1]
  have hlt2:=Aside0.mk (V_lt_of_drop hw2 hd2)
  have k2 : Aside0 (P j * ((g - 1) * V v)=P j * (g * V v) - P j * V v):=⟨by rw [Int.sub_mul,Int.one_mul,Int.mul_sub]⟩
  have k1 : Aside0 (P j * (g * V v) - P j * V v≤P j * V (u.drop j)):=⟨by
   rw [← k2.out]
   exact Int.mul_le_mul_of_nonneg_left H0.out (Int.le_of_lt hPj.out)⟩
  obtain rfl:=digit_b2 HV1.out HV2.out hb2 k1.out X0.out XT.out hlt2.out
  have k4 : Aside0 (V (u.drop j) < g * V v):=⟨Int.lt_of_mul_lt_mul_left (digit_lt HV1.out X0.out XT.out hlt1.out) (Int.le_of_lt hPj.out)⟩
  have gp : 0 < g:=by
   rcases Int.lt_or_le 0 g with h2|h2
   ·exact h2
   ·exfalso
    obtain rfl : g=0:=by omega
    have h3:=k4.out
    rw [Int.zero_mul] at h3
    have:=V_nonneg (W_drop h.wu j)
    omega
  refine .inr ⟨e1,gp,u2,e2,h.next hw2 (by omega) (by omega) ?_ ?_ hj⟩
  ·rw [k2.out]
   exact digit_new HV1.out HV2.out
  ·rw [Int.sub_add_cancel]
   exact k4.out
theorem digit {v : List Int} (hv : W v) {A : Int} {N : Nat} (hN : N < 35184372088832) {sh : Int} {u q : List Int} {j : Nat} (h : Dg v A N u q (j+1)) {g : Int} (hg : 0≤g∧g < 4294967296)
  (h0 : Aside0 ((g - 1) * V v≤V (u.drop j))) (h1 : Aside0 (V (u.drop j) < (g+1) * V v)) (hj : j < q.length) (R : List Int × List Int)
  (next : ∀ u' q',Dg v A N u' q' j→Ev (fun k=>nat_long.l1 k sh v u' (v.length : Int) q' ((j : Int) - 1)) R) :
  Ev (fun k=>nat_long.j4 k sh v u (v.length : Int) q (j : Int) g) R:=by
 have hlu:=h.lu
 have hlq:=h.lq
 have w1 : wrap64 (wrap64 ((j : Int)+(v.length : Int))+1)=((j+v.length+1 : Nat) : Int):=by
  rw [show wrap64 ((j : Int)+(v.length : Int))=((j+v.length : Nat) : Int) by unfold wrap64;omega]
  unfold wrap64
  omega
 have w2 : wrap64 ((j : Int) - 1)=(j : Int) - 1:=by unfold wrap64;omega
 have c2 : (j : Int) < ((j+v.length+1 : Nat) : Int):=by omega
 have c3 : ((j+v.length+1 : Nat) : Int)≤(u.length : Int):=by omega
 have c4 : (j : Int)+(v.length : Int) < ((j+v.length+1 : Nat) : Int):=by omega
 have c5 : (j : Int) < (q.length : Int):=by omega
 obtain ⟨u1,hw1,hl1,hs⟩:=digit_steps hv h hg h0.out h1.out hj
 refine Ev_up ?_
 unfold nat_long.j4
 rw [w1,w2,Int.toNat_natCast]
 refine Ev_pos (Int.natCast_nonneg _) ?_
 refine Ev_pos c2 ?_
 refine Ev_pos c3 ?_
 refine Ev_pos c4 ?_
 rcases hs with ⟨e1,hd⟩|⟨e1,gp,u2,e2,hd⟩
 ·refine Ev_some e1 ?_
  refine Ev_neg (by simp) ?_
  refine Ev_pos c5 ?_
  rw [show g % 4294967296=g by omega]
  exact next _ _ hd
 ·refine Ev_some e1 ?_
  refine Ev_pos rfl ?_
  refine Ev_some e2 ?_
  refine Ev_pos c5 ?_
  rw [wrap_u64_of (x:=g - 1) (by omega) (by omega),show (g - 1) % 4294967296=g - 1 by omega]
  exact next _ _ hd
theorem Dg.two {v : List Int} (hv : W v) {A : Int} {N n : Nat} {u q : List Int} {j : Nat} (h : Dg v A N u q (j+1)) (hn : v.length=n+2) (hp : 0 < rd v ((n+1 : Nat) : Int)) :
  Two (V (u.drop j)) (V v) (rd u ((j+n+2 : Nat) : Int) * 4294967296+rd u ((j+n+1 : Nat) : Int)) (rd u ((j+n : Nat) : Int)) (rd v ((n+1 : Nat) : Int)) (rd v (n : Int)) (P n) (V ((u.drop j).take n)) (V (v.take n)) where
 q:=P_pos n
 x:=by
  have h1:=V_split' (u.drop j) n
  rw [List.drop_drop,V_drop u (j+n),V_drop u (j+n+1),V_drop u (j+n+1+1)] at h1
  have h2:=h.top hv
  rw [hn] at h2
  rw [show j+n+1+1+1=j+(n+2)+1 by omega,h2,show j+n+1+1=j+n+2 by omega] at h1
  rw [h1]
  grind
 d:=by
  have h1:=V_split' v n
  rw [V_drop v n,V_drop v (n+1),List.drop_of_length_le (by omega),V_nil] at h1
  rw [h1]
  grind
 xl:=⟨V_nonneg (W_take (W_drop h.wu j) n),V_take_lt (W_drop h.wu j) n⟩
 dl:=⟨V_nonneg (W_take hv n),V_take_lt hv n⟩
 u2:=W_rd h.wu _
 v2:=W_rd hv _
 v1:=⟨hp,(W_rd hv _).2⟩
 top:=by
  have h1:=W_rd h.wu ((j+n+2 : Nat) : Int)
  have h2:=W_rd h.wu ((j+n+1 : Nat) : Int)
  omega
 lt:=h.x
theorem Two.start {X D top u2 v1 v2 Q xl dl : Int} (h : Two X D top u2 v1 v2 Q xl dl) : Gs X D top v1 (top / v1) (top % v1) where
 lt:=h.first
 e:=by
  have:=Int.emod_add_mul_ediv top v1
  rw [Int.mul_comm]
  omega
 r:=by
  have h1:=h.v1
  have h2:=Int.emod_nonneg top (show v1≠0 by omega)
  have h3:=Int.emod_lt_of_pos top h1.1
  omega
 g:=by
  have h1:=h.top
  have h2:=Int.ediv_nonneg h1.1 (Int.le_of_lt h.v1.1)
  have h3:=Int.ediv_le_self v1 h1.1
  omega
theorem v_pos {v : List Int} (hv : W v) {n : Nat} (hn : v.length=n+2) (hp : 0 < rd v ((n+1 : Nat) : Int)) : 0 < V v:=by
 have h1:=V_split' v (n+1)
 have h2:=V_nonneg (W_take hv (n+1))
 rw [V_drop v (n+1),List.drop_of_length_le (by omega),V_nil,Int.mul_zero,Int.add_zero] at h1
 have h4 : 0 < P (n+1) * rd v ((n+1 : Nat) : Int):=Int.mul_pos (P_pos (n+1)) hp
 omega
theorem Dg.done {v : List Int} (hv : W v) (hvp : 0 < V v) {A : Int} {N : Nat} {u q : List Int} (h : Dg v A N u q 0) : V q=A / V v∧V (u.take v.length)=A % V v:=by
 have hlt:=h.lt
 have hge:=V_nonneg h.wu
 rw [P_zero,Int.one_mul] at hlt
 have e:=h.e
 have h2 : V (u.take v.length)=V u:=by
  have h3:=V_split' u v.length
  have h4:=V_nonneg (W_drop h.wu v.length)
  have h5:=V_lt hv
  have h6:=V_nonneg (W_take h.wu v.length)
  rcases (show V (u.drop v.length)=0∨1≤V (u.drop v.length) by omega) with h7|h7
  ·rw [h7,Int.mul_zero] at h3
   omega
  ·have h8 : P v.length * 1≤P v.length * V (u.drop v.length):=Int.mul_le_mul_of_nonneg_left h7 (by have:=P_pos v.length;omega)
   omega
 have d1 : A / V v=V q:=by rw [← e,Int.add_mul_ediv_left _ _ (by omega),Int.ediv_eq_zero_of_lt hge hlt];omega
 have d2 : A % V v=V u:=by rw [← e,Int.add_mul_emod_self_left,Int.emod_eq_of_lt hge hlt]
 exact ⟨d1.symm,by rw [h2,d2]⟩
theorem long_l1 {v : List Int} (hv : W v) {n : Nat} (hn : v.length=n+2) (hp : 0 < rd v ((n+1 : Nat) : Int)) {A : Int} {N : Nat} (hN : N < 35184372087809) {r : Nat} (hr : r < 32) : ∀ (j : Nat) (u q : List Int),j≤q.length→Dg v A N u q j →
  Ev (fun k=>nat_long.l1 k (r : Int) v u (v.length : Int) q ((j : Int) - 1)) (L (A / V v),L (A % V v / 2 ^ r)):=by
 have hvp:=Aside0.mk (v_pos hv hn hp)
 intro j
 induction j with
|zero =>
  intro u q hj h
  have hlu:=h.lu
  have hlq:=h.lq
  have hd:=h.done hv hvp.out
  have c1 : ((v.length : Nat) : Int)≤(u.length : Int):=by omega
  have c2 : (u.take v.length).length < 35184372087809:=by rw [List.length_take];omega
  refine Ev_up ?_
  unfold nat_long.l1
  refine Ev_neg (by omega) ?_
  refine Ev_some (trim_f h.wq) ?_
  refine Ev_pos (Int.natCast_nonneg _) ?_
  refine Ev_pos c1 ?_
  rw [Int.toNat_natCast]
  refine Ev.bind (nshr_f (W_take h.wu _) c2 hr) ?_
  refine Ev_now ?_
  rw [hd.1,hd.2]
|succ j ih =>
  intro u q hj h
  have hlu:=h.lu
  have hlq:=h.lq
  have w0 : ((j+1 : Nat) : Int) - 1=(j : Int):=by omega
  have w1 : wrap64 ((j : Int)+(v.length : Int))=((j+n+2 : Nat) : Int):=by unfold wrap64;omega
  have w2 : wrap64 (((j+n+2 : Nat) : Int) - 1)=((j+n+1 : Nat) : Int):=by unfold wrap64;omega
  have w3 : wrap64 ((v.length : Int) - 1)=((n+1 : Nat) : Int):=by unfold wrap64;omega
  have c1 : ((j+n+2 : Nat) : Int) < (u.length : Int):=by omega
  have c2 : ((j+n+1 : Nat) : Int) < (u.length : Int):=by omega
  have c3 : ((n+1 : Nat) : Int) < (v.length : Int):=by omega
  have c4 : j+n+2 < u.length:=by omega
  have c5 : u.length < 35184372088832:=by omega
  have c6 : N < 35184372088832:=by omega
  have c7 : j < q.length:=by omega
  have c8 : ((v.length : Int))=((n+2 : Nat) : Int):=by omega
  have h2:=h.two hv hn hp
  have hs:=h2.start
  have r0:=W_rd h.wu ((j+n+2 : Nat) : Int)
  have r1:=W_rd h.wu ((j+n+1 : Nat) : Int)
  have rv:=W_rd hv ((n+1 : Nat) : Int)
  have htop:=h2.top
  have eo : Go.bits .or .u64 (IntKind.u64.wrap (IntKind.u64.wrap (rd u ((j+n+2 : Nat) : Int)) * 4294967296)) (IntKind.u64.wrap (rd u ((j+n+1 : Nat) : Int)))=rd u ((j+n+2 : Nat) : Int) * 4294967296+rd u ((j+n+1 : Nat) : Int):=by
   rw [wrap_u64_of (x:=rd u ((j+n+2 : Nat) : Int)) (by omega) (by omega),wrap_u64_of (x:=rd u ((j+n+2 : Nat) : Int) * 4294967296) (by omega) (by omega),wrap_u64_of (x:=rd u ((j+n+1 : Nat) : Int)) (by omega) (by omega),or64_f r0 r1]
  have ev : IntKind.u64.wrap (rd v ((n+1 : Nat) : Int))=rd v ((n+1 : Nat) : Int):=wrap_u64_of (by omega) (by omega)
  have wg:=wrap_u64_of hs.g.1 hs.g.2
  have np : ¬ rd v ((n+1 : Nat) : Int)=0:=by omega
  refine Ev_up ?_
  unfold nat_long.l1
  rw [w0,w1,w2,w3,eo,ev,Int.tdiv_eq_ediv_of_nonneg htop.1,Int.tmod_eq_emod_of_nonneg htop.1,wg]
  refine Ev_pos (Int.natCast_nonneg _) ?_
  refine Ev_pos (Int.natCast_nonneg _) ?_
  refine Ev_pos c1 ?_
  refine Ev_pos (Int.natCast_nonneg _) ?_
  refine Ev_pos c2 ?_
  refine Ev_pos (Int.natCast_nonneg _) ?_
  refine Ev_pos c3 ?_
  refine Ev_neg np ?_
  rw [c8]
  refine guess_l h.wu hv hn c4 c5 h2 rfl rfl rfl _ (fun g' ga gb gc gd=>?_) _ _ _ (Nat.le_refl _) hs
  rw [← c8]
  exact digit hv c6 h ⟨ga,gb⟩ ⟨gc⟩ ⟨gd⟩ c7 _ (fun u' q' hd=>ih u' q' (by have:=hd.lq;omega) hd)
end Go.Proofs.YtncdiodnbkhacaaDoor.N
end
section
namespace Go.Proofs.YtncdiodnbkhacaaDoor.N
set_option linter.unusedVariables false
set_option linter.unusedSimpArgs false
open Go Go.RowKit Go.Proofs.YtncdiodnbkhacaaDoorW.PrintWords Go.Proofs.YtncdiodnbkhacaaDoorW.PrintLast Go.Proofs.YtncdiodnbkhacaaDoorW.PrintMore Go.Proofs.YtncdiodnbkhacaaDoor.Pq
theorem shifted_length {y : Int} (hy : 0 < y) {i r : Nat} (hi : (L y).length=i+1) (hr : (r : Int)=32 - bl (rd (L y) (i : Int))) (hp : 0 < rd (L y) (i : Int)) : (L (y * 2 ^ r)).length=i+1:=by
 have h1:=bl_V (W_L y) i hi hp
 rw [V_L (by omega)] at h1
 have h2:=bl_shift hy r
 have hpow : (0 : Int) < 2 ^ r:=Int.pow_pos (by decide)
 have hpos : 0 < y * 2 ^ r:=Int.mul_pos hy hpow
 have h3:=bl_log hpos
 have h4 : bl (y * 2 ^ r)=((y * 2 ^ r).toNat.log2 : Int)+1:=bl_of h3.1 h3.2
 have h5 : (y * 2 ^ r).toNat.log2+1=32 * (i+1):=by omega
 rw [h5,← P_pow] at h3
 have h6 : P i≤2 ^ (y * 2 ^ r).toNat.log2:=by
  rw [P_pow]
  exact two_pow_mono (by omega)
 have h7:=L_length_le (i+1) h3.2
 have h8:=L_length_lt (Int.le_trans h6 h3.1)
 omega
theorem L_le {x : Int} (h0 : 0≤x) : x < P (L x).length:=by
 have:=V_lt (W_L x)
 rwa [V_L h0] at this
theorem P_le_of_length {y : Int} (hy : 0≤y) {i : Nat} (hi : (L y).length=i+1) : P i≤y:=by
 rcases Int.lt_or_le y (P i) with h|h
 ·have:=L_length_le i h
  omega
 ·exact h
theorem long_l0 {a v : List Int} {A : Int} {r : Nat} {R : List Int × List Int} (ha : a.length < 35184372087800) {n : Nat} (hn : n≤a.length)
  (next : ∀ u,W u→u.length=a.length+1→Aside0 (V u=A)→Ev (fun k=>nat_long.l1 k (r : Int) v u (n : Int) (List.replicate (a.length+1 - n) 0) (((a.length+1 - n : Nat) : Int) - 1)) R) :
  ∀ (d : Nat) (u : List Int),a.length+1 - u.length=d→u.length≤a.length+1→W u→Aside0 (V u=A)→Ev (fun k=>nat_long.l0 k a (r : Int) v u (n : Int)) R:=by
 intro d
 induction d with
|zero =>
  intro u hd hl hw hv
  have hul : u.length=a.length+1:=by omega
  have w1 : wrap64 ((u.length : Int) - (n : Int))=((a.length+1 - n : Nat) : Int):=by unfold wrap64;omega
  have w2 : wrap64 (((a.length+1 - n : Nat) : Int) - 1)=((a.length+1 - n : Nat) : Int) - 1:=by unfold wrap64;omega
  refine Ev_up ?_
  unfold nat_long.l0
  rw [w1,w2,Int.toNat_natCast]
  refine Ev_neg (by omega) ?_
  refine Ev_pos (Int.natCast_nonneg _) ?_
  refine Ev_pos (by omega) ?_
  exact next u hw hul hv
|succ d ih =>
  intro u hd hl hw hv
  refine Ev_up ?_
  unfold nat_long.l0
  refine Ev_pos (by omega) ?_
  refine Ev_pos (by omega) ?_
  refine ih (u++[0]) (by simp;omega) (by simp;omega) (W_append hw (W_one (by decide) (by decide))) ⟨?_⟩
  rw [V_snoc,Int.mul_zero,Int.add_zero]
  exact hv.out
theorem dg_start {x y : Int} {v u : List Int} {i r la : Nat} (hx0 : 0≤x) (hxl : x < P la) (hyl : P i≤y) (hvv : V v=y * 2 ^ r) (hvl : v.length=i+1) (hila : i+1≤la)
  (hu : W u) (hul : u.length=la+1) (huv : V u=x * 2 ^ r) : Dg v (x * 2 ^ r) (la+1) u (List.replicate (la+1 - (i+1)) 0) (la+1 - (i+1)) where
 wu:=hu
 wq:=W_replicate _
 lu:=hul
 lq:=by rw [List.length_replicate];omega
 lt:=by
  have hpow : (0 : Int) < 2 ^ r:=Int.pow_pos (by decide)
  have h1 : P (la+1 - (i+1)) * P i≤P (la+1 - (i+1)) * y:=Int.mul_le_mul_of_nonneg_left hyl (Int.le_of_lt (P_pos _))
  rw [← P_add,show la+1 - (i+1)+i=la by omega] at h1
  have h2 : x * 2 ^ r < P (la+1 - (i+1)) * y * 2 ^ r:=Int.mul_lt_mul_of_pos_right (Int.lt_of_lt_of_le hxl h1) hpow
  rw [huv,hvv,← Int.mul_assoc]
  exact h2
 e:=by rw [V_replicate,Int.mul_zero,Int.add_zero,huv]
 z:=fun m _=>rd_replicate _ _
theorem lz_f {t : Int} (h0 : 0 < t) (h1 : t < 4294967296) : bits_LeadingZeros32.f t=some (32 - bl t):=by
 have h2:=bl_pos h0
 have h3:=bl_32 h1
 unfold bits_LeadingZeros32.f
 rw [len32_f (Int.le_of_lt h0) h1,Option.bind_some,show wrap64 (32 - bl t)=32 - bl t by unfold wrap64;omega]
theorem div_shift {x y : Int} (hy : 0 < y) (r : Nat) : x * 2 ^ r / (y * 2 ^ r)=x / y∧x * 2 ^ r % (y * 2 ^ r) / 2 ^ r=x % y:=by
 have hpow : (0 : Int) < 2 ^ r:=Int.pow_pos (by decide)
 constructor
 ·exact Int.mul_ediv_mul_of_pos_left x y hpow
 ·rw [Int.mul_comm x,Int.mul_comm y,Int.mul_emod_mul_of_pos _ _ hpow,Int.mul_comm]
  exact Int.mul_ediv_cancel _ (by omega)
theorem long_f {x y : Int} (hy : 0 < y) (hyx : y≤x) (h2 : 2≤(L y).length) (hl : (L x).length < 35184360000000) : Ev (fun k=>nat_long.f k (L x) (L y)) (L (x / y),L (x % y)):=by
 obtain ⟨i,hi,hp⟩:=rd_last hy
 have rt:=W_rd (W_L y) (i : Int)
 have hb1:=bl_pos hp
 have hb2:=bl_32 rt.2
 obtain ⟨r,hr⟩ : ∃ r : Nat,(r : Int)=32 - bl (rd (L y) (i : Int)):=⟨(32 - bl (rd (L y) (i : Int))).toNat,by omega⟩
 have hr32 : r < 32:=by omega
 have hr65 : (r : Int)≤65536:=by omega
 have hx0 : 0≤x:=by omega
 have hy0 : 0≤y:=by omega
 have hxl:=L_le hx0
 have hyl:=P_le_of_length hy0 hi
 have hvl:=shifted_length hy hi hr hp
 have hila : i+1≤(L x).length:=by
  have:=L_length_lt (Int.le_trans hyl hyx)
  omega
 have hpow : (0 : Int) < 2 ^ r:=Int.pow_pos (by decide)
 have hys : 0 < y * 2 ^ r:=Int.mul_pos hy hpow
 have hxs : 0≤x * 2 ^ r:=Int.mul_nonneg hx0 (by omega)
 have hvv : V (L (y * 2 ^ r))=y * 2 ^ r:=V_L (by omega)
 have huv : V (L (x * 2 ^ r))=x * 2 ^ r:=V_L hxs
 obtain ⟨n,rfl⟩ : ∃ n,i=n+1:=⟨i - 1,by omega⟩
 obtain ⟨i',hi',hp'⟩:=rd_last hys
 have hii : i'=n+1:=by omega
 subst hii
 have hul : (L (x * 2 ^ r)).length≤(L x).length+1:=by
  refine L_length_le _ ?_
  rw [P_succ,Int.mul_comm 4294967296]
  have h3:=two_pow_le hr32
  have h4 : x * 2 ^ r < P (L x).length * 2 ^ r:=Int.mul_lt_mul_of_pos_right hxl hpow
  have h5 : P (L x).length * 2 ^ r≤P (L x).length * 4294967296:=Int.mul_le_mul_of_nonneg_left h3 (Int.le_of_lt (P_pos _))
  omega
 have w1 : wrap64 (((L y).length : Int) - 1)=((n+1 : Nat) : Int):=by unfold wrap64;omega
 have c1 : ((n+1 : Nat) : Int) < ((L y).length : Int):=by omega
 have c2 : (L y).length < 35184370000000:=by omega
 have c3 : (L x).length < 35184370000000:=by omega
 have c4 : (L x).length < 35184372087800:=by omega
 have c5 : (L x).length+1 < 35184372087809:=by omega
 have c6 : (L (y * 2 ^ r)).length≤(L x).length:=by omega
 have s1:=nshl_f (W_L y) c2 (r : Int)
 have s2:=nshl_f (W_L x) c3 (r : Int)
 rw [V_L hy0,shS_ok (Int.natCast_nonneg _) hr65,Int.toNat_natCast] at s1
 rw [V_L hx0,shS_ok (Int.natCast_nonneg _) hr65,Int.toNat_natCast] at s2
 have hds:=div_shift (x:=x) hy r
 unfold nat_long.f
 rw [w1]
 refine Ev_pos (Int.natCast_nonneg _) ?_
 refine Ev_pos c1 ?_
 refine Ev_some (lz_f hp rt.2) ?_
 rw [← hr]
 refine Ev.bind s1 ?_
 refine Ev.bind s2 ?_
 refine long_l0 c4 c6 (A:=x * 2 ^ r) (fun u hu hul' huv'=>?_) _ _ rfl hul (W_L _) ⟨huv⟩
 have hdg:=dg_start hx0 hxl hyl hvv (by omega : (L (y * 2 ^ r)).length=n+1+1) hila hu hul' huv'.out
 have e:=long_l1 (W_L (y * 2 ^ r)) hi' hp' c5 hr32 _ u _ (by rw [List.length_replicate];exact Nat.le_refl _) hdg
 rw [hvv,hds.1,hds.2] at e
 rw [hvl]
 rw [hvl] at e
 exact e
def dmS (x y : Int) : List Int × List Int × Bool:=if y=0 then ([],[],false) else (L (x / y),L (x % y),true)
theorem ndm_f {a b : List Int} (ha : W a) (hb : W b) (sa : a.length < 35184360000000) (sb : b.length < 35184360000000) : Ev (fun k=>nat_DivMod.f k a b) (dmS (V a) (V b)):=by
 have va:=V_nonneg ha
 have vb:=V_nonneg hb
 have la:=L_len_le ha
 have lb:=L_len_le hb
 have hsa : Sm (L (V a)):=by unfold Sm;omega
 have hsb : Sm (L (V b)):=by unfold Sm;omega
 have sa' : (L (V a)).length < 35184372087809:=by omega
 have sa2 : (L (V a)).length < 35184360000000:=by omega
 refine Ev_some (trim_f ha) ?_
 refine Ev_some (trim_f hb) ?_
 generalize V a=x at *
 generalize V b=y at *
 unfold dmS
 by_cases hy : y=0
 ·subst hy
  rw [if_pos rfl,L_zero]
  refine Ev_pos rfl ?_
  exact Ev.now _
 ·rw [if_neg hy]
  have hne : (L y).length≠0:=fun e=>hy ((L_nil_iff vb).1 (List.eq_nil_of_length_eq_zero e))
  have hyp : 0 < y:=by omega
  have n1 : ¬ ((L y).length : Int)=0:=by omega
  have hc:=ncmp_f (W_L x) (W_L y) hsa hsb
  rw [V_L va,V_L vb] at hc
  refine Ev_neg n1 ?_
  refine Ev.bind hc ?_
  by_cases h : x < y
  ·refine Ev_pos (cm_neg.2 h) ?_
   have hn:=norm_f (W_L x) hsa
   rw [V_L va] at hn
   refine Ev_some hn ?_
   rw [Int.ediv_eq_zero_of_lt va h,Int.emod_eq_of_lt va h,L_zero]
   exact Ev.now _
  ·refine Ev_neg (fun e=>h (cm_neg.1 e)) ?_
   by_cases h1 : ((L y).length : Int)=1
   ·refine Ev_pos h1 ?_
    refine Ev_pos (by omega) ?_
    obtain ⟨z,hz⟩:=List.length_eq_one_iff.1 (show (L y).length=1 by omega)
    have hv:=V_L vb
    rw [hz,V_one] at hv
    subst hv
    have hw:=W_L z
    rw [hz] at hw
    have hzb:=hw z (List.mem_singleton.2 rfl)
    have hs:=small_f (W_L x) (dv:=z) ⟨hyp,hzb.2⟩ sa'
    rw [V_L va] at hs
    rw [hz]
    refine Ev.bind hs ?_
    exact Ev.now _
   ·refine Ev_neg h1 ?_
    refine Ev.bind (long_f hyp (by omega) (by omega) sa2) ?_
    exact Ev.now _
end Go.Proofs.YtncdiodnbkhacaaDoor.N
end
section
namespace Go.Proofs.YtncdiodnbkhacaaDoor.N
set_option linter.unusedVariables false
set_option linter.unusedSimpArgs false
open Go Go.RowKit Go.Proofs.YtncdiodnbkhacaaDoorW.PrintWords Go.Proofs.YtncdiodnbkhacaaDoorW.PrintLast Go.Proofs.YtncdiodnbkhacaaDoorW.PrintMore Go.Proofs.YtncdiodnbkhacaaDoor.Pq
theorem Nm.zero : Nm (N.L 0) 0 0:=by rw [L_zero];exact Nm.nil
theorem cm_zero_iff {x y : Int} : cm x y=0↔x=y:=by
 unfold cm
 by_cases h1 : x < y
 ·rw [if_pos h1];omega
 ·rw [if_neg h1]
  by_cases h2 : y < x
  ·rw [if_pos h2];omega
  ·rw [if_neg h2];omega
theorem Nm.dm {a b : List Int} {m n : Nat} {x y : Int} (h : Nm a m x) (k : Nm b n y) (hm : m < 35184360000000) (hn : n < 35184360000000) : Ev (fun r=>nat_DivMod.f r a b) (dmS x y):=by
 have h1:=h.le
 have h2:=k.le
 have e:=ndm_f h.w k.w (by omega) (by omega)
 rwa [h.v,k.v] at e
end Go.Proofs.YtncdiodnbkhacaaDoor.N
end
