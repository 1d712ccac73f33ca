import Derived.Test.YtjiaobcoeegioaaPBas5
set_option linter.unusedVariables false
set_option linter.unusedSimpArgs false
section
namespace Go.Proofs.Ytjiaobcoeegioaa.Pq
open Go.RowKit Go.Proofs.YtjiaobcoeegioaaW.PrintWords Go.Proofs.YtjiaobcoeegioaaW.PrintLast Go.Proofs.YtjiaobcoeegioaaW.PrintMore
attribute [local go_sem] max2_int min2_int max_two min_two max_three min_three max_four min_four
set_option linter.unusedVariables false
set_option linter.unusedSimpArgs false
set_option maxHeartbeats 8000000
set_option maxRecDepth 100000
def penumbraref09_Same.T6 : Bool × List (List Nat × List Nat):=(true,[([],[]),([],[]),([0,1],[0,1]),([2],[2]),([],[]),([],[]),([4,5],[4,5]),([6],[6]),([3,7],[3,7]),([8],[8])])
def penumbraref09_Same.B6 : List Nat:=[0,0,3,7,0,0,48,112,255,511]
theorem penumbraref09_Same.tab6 : rtab .any (opsOf Try.f24 6)=penumbraref09_Same.T6:=by kernel_rfl
theorem penumbraref09_Same.bits6 : waitsOk penumbraref09_Same.T6.2 penumbraref09_Same.B6=true:=by kernel_rfl
theorem penumbraref09_Same.calls (k : Nat) (A0 : Option Addr) (c0 : Nat) (l0 : List (S63)) (A1 : Option Addr) (c1 : Nat) (l1 : List (S63)) (r : Bool) (w : World) (hr0 : Kd.C k63 w A0 l0.length l0) (hc0 : l0.length≤c0) (hr1 : Kd.C k63 w A1 l1.length l1) (hc1 : l1.length≤c1) (h : penumbraref09_Same.f k l0 l1=some r) :
  Calls Try.prog 24 #[.slice A0 l0.length c0,.slice A1 l1.length c1] w fun e w'=>e=.returned (.bool r)∧Below w.heap.size w w':=by
 have hu63:=Try.underlying63
 have HR0:=Aside0.mk hr0
 have HC0:=Aside0.mk hc0
 clear hr0 hc0
 have HR1:=Aside0.mk hr1
 have HC1:=Aside0.mk hc1
 clear hr1 hc1
 have HB:=Aside0.mk (Below.refl w.heap.size w)
 have H : (if (l0.length : Int)=(l1.length : Int) then (penumbraref09_Same.l0 k l0 l1 0) else (some false))=some r:=h
 clear h
 by_cases c3 : (l0.length : Int)=(l1.length : Int)
 ·rw [if_pos c3] at H
  have c3b0 : ((l0.length : Int) == (l1.length : Int))=true:=beq_iff_eq.mpr c3
  have c3b1 : ((l0.length : Int) != (l1.length : Int))=false:=bne_eq_false_iff_eq.mpr c3
  have c3b2 : (l0.length == l1.length)=true:=by first|simpa using c3|(simp at c3 ⊢;omega)
  clear c3
  have H':=Aside0.mk H
  clear H
  go_enter Try.func24,Try.ntmps24
  go_wp2
  go_loopg [5] k (fun kq v5 w'=>∃ (x5_1 : Int),v5=.int .i64 x5_1∧Aside0 (penumbraref09_Same.l0 kq l0 l1 x5_1=some r)∧Aside0 (kq≤k)∧Aside0 (Below w.heap.size w w'))
  case atStart=>exact ⟨(0),(by first|rfl|(simp;done)|(simp [*];done)),H',⟨Nat.le_refl _⟩,⟨by repeat (first|(with_reducible first|exact HB.out|apply below_alloc|apply pw_below_drewN|apply below_drew1)|exact HB.out)⟩⟩
  case round =>
   clear H'
   try clear c1
   try clear c2
   try clear p2
   try clear c3
   try clear c3b0
   try clear c3b1
   try clear c3b2
   obtain ⟨x5_1,rfl,HA,HK1,HB⟩:=hrel
   cases gk with
  |zero=>exact absurd HA.out (by simp [penumbraref09_Same.l0])
  |succ k1 =>
    have H:=HA.out
    clear HA
    simp only [penumbraref09_Same.l0] at H
    by_cases c4 : x5_1 < (l0.length : Int)
    ·rw [if_pos c4] at H
     have c4b0 : decide (x5_1 < (l0.length : Int))=true:=decide_eq_true c4
     clear c4
     by_cases c5 : 0≤x5_1
     ·rw [if_pos c5] at H
      have c5b0 : decide (0≤x5_1)=true:=decide_eq_true c5
      clear c5
      by_cases c6 : x5_1 < (l1.length : Int)
      ·rw [if_pos c6] at H
       have c6b0 : decide (x5_1 < (l1.length : Int))=true:=decide_eq_true c6
       clear c6
       replace H:=Option.bind_eq_some_iff.mp H
       obtain ⟨t448,A70,H⟩:=H
       replace H : (if t448=true then (penumbraref09_Same.l0 k1 l0 l1 (wrap64 (x5_1+1))) else (some false))=some r:=H
       have A7:=Aside0.mk A70
       clear A70
       by_cases c8 : t448=true
       ·subst c8
        have H1 : (penumbraref09_Same.l0 k1 l0 l1 (wrap64 (x5_1+1)))=some r:=by rw [if_pos rfl] at H;exact H
        clear H
        have H:=H1
        clear H1
        have H':=Aside0.mk H
        clear H
        try go_wp2
        have n0_:=Aside0.mk (below_drew1 HB.out)
        clear HB
        have HB:=n0_
        clear n0_
        have p446 : 0≤(x5_1 : Int):=of_decide_eq_true (by first|(with_reducible assumption)|assumption)
        have q446 : x5_1 < (l0.length : Int):=of_decide_eq_true (by first|(with_reducible assumption)|assumption)
        obtain ⟨ad446,A446_1,c446_1,A446_2,c446_2,e446,hx446_0,hx446_1,hx446_2,hl446_1,hi446_1,hl446_2,hi446_2⟩:=at_T63 HR0.out x5_1 p446 q446
        have hw446_2:=hx446_2
        have hw446_1:=hx446_1
        have hw446_0:=hx446_0
        cases e446
        replace hx446_0:=(HB.out.cell (World.block_lt_of_cell? w _ hx446_0)).trans hx446_0
        replace hx446_1:=(HB.out.cell (World.block_lt_of_cell? w _ hx446_1)).trans hx446_1
        replace hx446_2:=(HB.out.cell (World.block_lt_of_cell? w _ hx446_2)).trans hx446_2
        have HR446_1:=Aside0.mk hi446_1
        have HC446_1:=Aside0.mk hl446_1
        clear hi446_1 hl446_1
        have HR446_2:=Aside0.mk hi446_2
        have HC446_2:=Aside0.mk hl446_2
        clear hi446_2 hl446_2
        replace p446:=eq_true p446
        replace q446:=eq_true q446
        have p447 : 0≤(x5_1 : Int):=of_decide_eq_true (by first|(with_reducible assumption)|assumption)
        have q447 : x5_1 < (l1.length : Int):=of_decide_eq_true (by first|(with_reducible assumption)|assumption)
        obtain ⟨ad447,A447_1,c447_1,A447_2,c447_2,e447,hx447_0,hx447_1,hx447_2,hl447_1,hi447_1,hl447_2,hi447_2⟩:=at_T63 HR1.out x5_1 p447 q447
        have hw447_2:=hx447_2
        have hw447_1:=hx447_1
        have hw447_0:=hx447_0
        cases e447
        replace hx447_0:=(HB.out.cell (World.block_lt_of_cell? w _ hx447_0)).trans hx447_0
        replace hx447_1:=(HB.out.cell (World.block_lt_of_cell? w _ hx447_1)).trans hx447_1
        replace hx447_2:=(HB.out.cell (World.block_lt_of_cell? w _ hx447_2)).trans hx447_2
        have HR447_1:=Aside0.mk hi447_1
        have HC447_1:=Aside0.mk hl447_1
        clear hi447_1 hl447_1
        have HR447_2:=Aside0.mk hi447_2
        have HC447_2:=Aside0.mk hl447_2
        clear hi447_2 hl447_2
        replace p447:=eq_true p447
        replace q447:=eq_true q447
        refine start_ (n:=10) (S:=fun w'=>w'.cell? (ad446.add ((x5_1).toNat * 3))=some (.bool ((rd_T63 l0 x5_1).f0))∧w'.cell? ⟨(ad446.add ((x5_1).toNat * 3)).block,(ad446.add ((x5_1).toNat * 3)).off+1,none⟩=some (.slice A446_1 ((rd_T63 l0 x5_1).f1).length c446_1)∧w'.cell? ⟨(ad446.add ((x5_1).toNat * 3)).block,(ad446.add ((x5_1).toNat * 3)).off+2,none⟩=some (.slice A446_2 ((rd_T63 l0 x5_1).f2).length c446_2)∧w'.cell? (ad447.add ((x5_1).toNat * 3))=some (.bool ((rd_T63 l1 x5_1).f0))∧w'.cell? ⟨(ad447.add ((x5_1).toNat * 3)).block,(ad447.add ((x5_1).toNat * 3)).off+1,none⟩=some (.slice A447_1 ((rd_T63 l1 x5_1).f1).length c447_1)∧w'.cell? ⟨(ad447.add ((x5_1).toNat * 3)).block,(ad447.add ((x5_1).toNat * 3)).off+2,none⟩=some (.slice A447_2 ((rd_T63 l1 x5_1).f2).length c447_2)) (ds:=[]) #[false,false,false,false,false,false,false,false,false,false] (by kernel_rfl) rfl rfl ⟨((HB.out.cell (World.block_lt_of_cell? w _ hw446_0)).trans hw446_0),((HB.out.cell (World.block_lt_of_cell? w _ hw446_1)).trans hw446_1),((HB.out.cell (World.block_lt_of_cell? w _ hw446_2)).trans hw446_2),((HB.out.cell (World.block_lt_of_cell? w _ hw447_0)).trans hw447_0),((HB.out.cell (World.block_lt_of_cell? w _ hw447_1)).trans hw447_1),((HB.out.cell (World.block_lt_of_cell? w _ hw447_2)).trans hw447_2)⟩ (fun hHeld=>?_);refine with_tabW penumbraref09_Same.tab6 penumbraref09_Same.bits6 (fun HT_ HW_=>?_)
        generalize wr.drew=w9 at HB HR446_1 HR446_2 HR447_1 HR447_2 hx446_0 hx446_1 hx446_2 hx447_0 hx447_1 hx447_2 hHeld ⊢
        refine pure_ (i:=0) (N:=some 17) (v:=?_) (a':=?_) #[true,false,false,false,false,false,false,false,false,false] rfl rfl (any_of HT_.out (by kernel_rfl)) (fun _ _ _ h=>h) (Or.inl ⟨by rfl,?_⟩) ?_ ?_
        rotate_left
        ·intro w'
         go_simp
         with_reducible rfl
        rotate_left
        ·simp only [Act.put,List.setIfInBounds_toArray,List.set_cons_zero,List.set_cons_succ,i64_w,i32_w]
         rfl
        refine pure_ (i:=1) (N:=some 18) (v:=?_) (a':=?_) #[true,true,false,false,false,false,false,false,false,false] rfl rfl (any_of HT_.out (by kernel_rfl)) (fun _ _ _ h=>h) (Or.inl ⟨by rfl,?_⟩) ?_ ?_
        rotate_left
        ·intro w'
         go_simp
         with_reducible rfl
        rotate_left
        ·simp only [Act.put,List.setIfInBounds_toArray,List.set_cons_zero,List.set_cons_succ,i64_w,i32_w]
         rfl
        refine pure_ (i:=2) (N:=some 19) (v:=?_) (a':=?_) #[true,true,true,false,false,false,false,false,false,false] rfl rfl (any_of HT_.out (by kernel_rfl)) (fun _ _ _ h=>h) (Or.inl ⟨by rfl,?_⟩) ?_ ?_
        rotate_left
        ·intro w'
         go_simp
         with_reducible rfl
        rotate_left
        ·simp only [Act.put,List.setIfInBounds_toArray,List.set_cons_zero,List.set_cons_succ,i64_w,i32_w]
         rfl
        refine pure_ (i:=4) (N:=some 21) (v:=?_) (a':=?_) #[true,true,true,false,true,false,false,false,false,false] rfl rfl (any_of HT_.out (by kernel_rfl)) (fun _ _ _ h=>h) (Or.inl ⟨by rfl,?_⟩) ?_ ?_
        rotate_left
        ·intro w'
         go_simp
         with_reducible rfl
        rotate_left
        ·simp only [Act.put,List.setIfInBounds_toArray,List.set_cons_zero,List.set_cons_succ,i64_w,i32_w]
         rfl
        refine pure_ (i:=5) (N:=some 22) (v:=?_) (a':=?_) #[true,true,true,false,true,true,false,false,false,false] rfl rfl (any_of HT_.out (by kernel_rfl)) (fun _ _ _ h=>h) (Or.inl ⟨by rfl,?_⟩) ?_ ?_
        rotate_left
        ·intro w'
         go_simp
         with_reducible rfl
        rotate_left
        ·simp only [Act.put,List.setIfInBounds_toArray,List.set_cons_zero,List.set_cons_succ,i64_w,i32_w]
         rfl
        refine pure_ (i:=6) (N:=some 23) (v:=?_) (a':=?_) #[true,true,true,false,true,true,true,false,false,false] rfl rfl (any_of HT_.out (by kernel_rfl)) (fun _ _ _ h=>h) (Or.inl ⟨by rfl,?_⟩) ?_ ?_
        rotate_left
        ·intro w'
         go_simp
         with_reducible rfl
        rotate_left
        ·simp only [Act.put,List.setIfInBounds_toArray,List.set_cons_zero,List.set_cons_succ,i64_w,i32_w]
         rfl
        refine take_ (i:=3) (N:=some 20) (v:=?_) (a':=?_) #[true,true,true,true,true,true,true,false,false,false] rfl rfl (take_ofW HT_.out HW_.out (by kernel_rfl)) (fun _ _ _ h=>h) (Or.inl ⟨by rfl,?_⟩) hHeld ?_ ?_
        rotate_left
        ·rintro w' ⟨s0,s1,s2,s3,s4,s5⟩
         go_simp
         with_reducible rfl
        rotate_left
        ·simp only [Act.put,List.setIfInBounds_toArray,List.set_cons_zero,List.set_cons_succ,i64_w,i32_w]
         rfl
        refine take_ (i:=7) (N:=some 24) (v:=?_) (a':=?_) #[true,true,true,true,true,true,true,true,false,false] rfl rfl (take_ofW HT_.out HW_.out (by kernel_rfl)) (fun _ _ _ h=>h) (Or.inl ⟨by rfl,?_⟩) hHeld ?_ ?_
        rotate_left
        ·rintro w' ⟨s0,s1,s2,s3,s4,s5⟩
         go_simp
         with_reducible rfl
        rotate_left
        ·simp only [Act.put,List.setIfInBounds_toArray,List.set_cons_zero,List.set_cons_succ,i64_w,i32_w]
         rfl
        refine one_ (i:=8) (N:=some 25) #[true,true,true,true,true,true,true,true,true,false] rfl rfl (one_of HT_.out (by kernel_rfl)) (by decide) (fun K hK=>?_)
        refine goes_ Try.func37 (by kernel_rfl) rfl #[.agg #[.bool ((rd_T63 l0 x5_1).f0),.slice A446_1 ((rd_T63 l0 x5_1).f1).length c446_1,.slice A446_2 ((rd_T63 l0 x5_1).f2).length c446_2],.agg #[.bool ((rd_T63 l1 x5_1).f0),.slice A447_1 ((rd_T63 l1 x5_1).f1).length c447_1,.slice A447_2 ((rd_T63 l1 x5_1).f2).length c447_2]] (by rfl) rfl rfl (by (try simp only [List.map_toArray,List.map_cons,List.map_nil]);first|done|rfl|(simp only [List.length_drop,List.length_take];rfl)) ?_
        with_reducible refine (penumbraref03_Is.calls k1 ((rd_T63 l0 x5_1).f0) _ _ ((rd_T63 l0 x5_1).f1) _ _ ((rd_T63 l0 x5_1).f2) ((rd_T63 l1 x5_1).f0) _ _ ((rd_T63 l1 x5_1).f1) _ _ ((rd_T63 l1 x5_1).f2) true _ ?side1 ?side2 ?side3 ?side4 ?side5 ?side6 ?side7 ?side8 A7.out).mono ?_
        (case side1=>repeat (first|exact (Kd.C_below HR446_1.out HB.out)|(with_reducible refine Kd.C_alloc ?_ _)|(with_reducible refine Kd.C_drewN ?_ _)|(with_reducible refine Kd.C_drew ?_)))
        (case side2=>exact HC446_1.out)
        (case side3=>repeat (first|exact (Kd.C_below HR446_2.out HB.out)|(with_reducible refine Kd.C_alloc ?_ _)|(with_reducible refine Kd.C_drewN ?_ _)|(with_reducible refine Kd.C_drew ?_)))
        (case side4=>exact HC446_2.out)
        (case side5=>repeat (first|exact (Kd.C_below HR447_1.out HB.out)|(with_reducible refine Kd.C_alloc ?_ _)|(with_reducible refine Kd.C_drewN ?_ _)|(with_reducible refine Kd.C_drew ?_)))
        (case side6=>exact HC447_1.out)
        (case side7=>repeat (first|exact (Kd.C_below HR447_2.out HB.out)|(with_reducible refine Kd.C_alloc ?_ _)|(with_reducible refine Kd.C_drewN ?_ _)|(with_reducible refine Kd.C_drew ?_)))
        (case side8=>exact HC447_2.out)
        rintro e w10 ⟨rfl,hb⟩
        refine ⟨_,rfl,?_⟩
        have n0_:=Aside0.mk (below_step (by repeat (first|(with_reducible first|exact HB.out|apply below_alloc|apply pw_below_drewN|apply below_drew1)|exact HB.out)) hb)
        clear HB
        have HB:=n0_
        clear n0_
        (try clear hb)
        (try clear hb2)
        (try clear hk)
        (try clear hi)
        refine hK.out _ _ ⟨((HB.out.cell (World.block_lt_of_cell? w _ hw446_0)).trans hw446_0),((HB.out.cell (World.block_lt_of_cell? w _ hw446_1)).trans hw446_1),((HB.out.cell (World.block_lt_of_cell? w _ hw446_2)).trans hw446_2),((HB.out.cell (World.block_lt_of_cell? w _ hw447_0)).trans hw447_0),((HB.out.cell (World.block_lt_of_cell? w _ hw447_1)).trans hw447_1),((HB.out.cell (World.block_lt_of_cell? w _ hw447_2)).trans hw447_2)⟩ (fun hHeld=>?_)
        clear hK K
        refine norm_ (a':=?_) ?_ ?_
        rotate_left
        ·show Act.put _ (some 25) _=_
         simp only [Act.put,List.setIfInBounds_toArray,List.set_cons_zero,List.set_cons_succ,i64_w,i32_w]
         rfl
        refine pure_ (i:=9) (N:=some 26) (v:=?_) (a':=?_) #[true,true,true,true,true,true,true,true,true,true] rfl rfl (any_of HT_.out (by kernel_rfl)) (fun _ _ _ h=>h) (Or.inl ⟨by rfl,?_⟩) ?_ ?_
        rotate_left
        ·intro w'
         go_simp
         with_reducible rfl
        rotate_left
        ·simp only [Act.put,List.setIfInBounds_toArray,List.set_cons_zero,List.set_cons_succ,i64_w,i32_w]
         rfl
        refine done_ (done_of HT_.out (by kernel_rfl)) ?_
        try go_wp2
        go_roundg k1
        case measure=>have:=HK1.out;omega
        case rel=>exact ⟨(wrap64 (x5_1+1)),(by first|rfl|(simp;done)|(simp [*];done)),H',⟨by have:=HK1.out;omega⟩,⟨by repeat (first|(with_reducible first|exact HB.out|apply below_alloc|apply pw_below_drewN|apply below_drew1)|exact HB.out)⟩⟩
       ·replace c8:=Bool.eq_false_iff.mpr c8
        subst c8
        have H1 : (some false)=some r:=by rw [if_neg (show ¬ (false=true) by decide)] at H;exact H
        clear H
        have H:=H1
        clear H1
        obtain rfl:=Option.some.inj H
        try go_wp2
        have n0_:=Aside0.mk (below_drew1 HB.out)
        clear HB
        have HB:=n0_
        clear n0_
        have p446 : 0≤(x5_1 : Int):=of_decide_eq_true (by first|(with_reducible assumption)|assumption)
        have q446 : x5_1 < (l0.length : Int):=of_decide_eq_true (by first|(with_reducible assumption)|assumption)
        obtain ⟨ad446,A446_1,c446_1,A446_2,c446_2,e446,hx446_0,hx446_1,hx446_2,hl446_1,hi446_1,hl446_2,hi446_2⟩:=at_T63 HR0.out x5_1 p446 q446
        have hw446_2:=hx446_2
        have hw446_1:=hx446_1
        have hw446_0:=hx446_0
        cases e446
        replace hx446_0:=(HB.out.cell (World.block_lt_of_cell? w _ hx446_0)).trans hx446_0
        replace hx446_1:=(HB.out.cell (World.block_lt_of_cell? w _ hx446_1)).trans hx446_1
        replace hx446_2:=(HB.out.cell (World.block_lt_of_cell? w _ hx446_2)).trans hx446_2
        have HR446_1:=Aside0.mk hi446_1
        have HC446_1:=Aside0.mk hl446_1
        clear hi446_1 hl446_1
        have HR446_2:=Aside0.mk hi446_2
        have HC446_2:=Aside0.mk hl446_2
        clear hi446_2 hl446_2
        replace p446:=eq_true p446
        replace q446:=eq_true q446
        have p447 : 0≤(x5_1 : Int):=of_decide_eq_true (by first|(with_reducible assumption)|assumption)
        have q447 : x5_1 < (l1.length : Int):=of_decide_eq_true (by first|(with_reducible assumption)|assumption)
        obtain ⟨ad447,A447_1,c447_1,A447_2,c447_2,e447,hx447_0,hx447_1,hx447_2,hl447_1,hi447_1,hl447_2,hi447_2⟩:=at_T63 HR1.out x5_1 p447 q447
        have hw447_2:=hx447_2
        have hw447_1:=hx447_1
        have hw447_0:=hx447_0
        cases e447
        replace hx447_0:=(HB.out.cell (World.block_lt_of_cell? w _ hx447_0)).trans hx447_0
        replace hx447_1:=(HB.out.cell (World.block_lt_of_cell? w _ hx447_1)).trans hx447_1
        replace hx447_2:=(HB.out.cell (World.block_lt_of_cell? w _ hx447_2)).trans hx447_2
        have HR447_1:=Aside0.mk hi447_1
        have HC447_1:=Aside0.mk hl447_1
        clear hi447_1 hl447_1
        have HR447_2:=Aside0.mk hi447_2
        have HC447_2:=Aside0.mk hl447_2
        clear hi447_2 hl447_2
        replace p447:=eq_true p447
        replace q447:=eq_true q447
        refine start_ (n:=10) (S:=fun w'=>w'.cell? (ad446.add ((x5_1).toNat * 3))=some (.bool ((rd_T63 l0 x5_1).f0))∧w'.cell? ⟨(ad446.add ((x5_1).toNat * 3)).block,(ad446.add ((x5_1).toNat * 3)).off+1,none⟩=some (.slice A446_1 ((rd_T63 l0 x5_1).f1).length c446_1)∧w'.cell? ⟨(ad446.add ((x5_1).toNat * 3)).block,(ad446.add ((x5_1).toNat * 3)).off+2,none⟩=some (.slice A446_2 ((rd_T63 l0 x5_1).f2).length c446_2)∧w'.cell? (ad447.add ((x5_1).toNat * 3))=some (.bool ((rd_T63 l1 x5_1).f0))∧w'.cell? ⟨(ad447.add ((x5_1).toNat * 3)).block,(ad447.add ((x5_1).toNat * 3)).off+1,none⟩=some (.slice A447_1 ((rd_T63 l1 x5_1).f1).length c447_1)∧w'.cell? ⟨(ad447.add ((x5_1).toNat * 3)).block,(ad447.add ((x5_1).toNat * 3)).off+2,none⟩=some (.slice A447_2 ((rd_T63 l1 x5_1).f2).length c447_2)) (ds:=[]) #[false,false,false,false,false,false,false,false,false,false] (by kernel_rfl) rfl rfl ⟨((HB.out.cell (World.block_lt_of_cell? w _ hw446_0)).trans hw446_0),((HB.out.cell (World.block_lt_of_cell? w _ hw446_1)).trans hw446_1),((HB.out.cell (World.block_lt_of_cell? w _ hw446_2)).trans hw446_2),((HB.out.cell (World.block_lt_of_cell? w _ hw447_0)).trans hw447_0),((HB.out.cell (World.block_lt_of_cell? w _ hw447_1)).trans hw447_1),((HB.out.cell (World.block_lt_of_cell? w _ hw447_2)).trans hw447_2)⟩ (fun hHeld=>?_);refine with_tabW penumbraref09_Same.tab6 penumbraref09_Same.bits6 (fun HT_ HW_=>?_)
        generalize wr.drew=w11 at HB HR446_1 HR446_2 HR447_1 HR447_2 hx446_0 hx446_1 hx446_2 hx447_0 hx447_1 hx447_2 hHeld ⊢
        refine pure_ (i:=0) (N:=some 17) (v:=?_) (a':=?_) #[true,false,false,false,false,false,false,false,false,false] rfl rfl (any_of HT_.out (by kernel_rfl)) (fun _ _ _ h=>h) (Or.inl ⟨by rfl,?_⟩) ?_ ?_
        rotate_left
        ·intro w'
         go_simp
         with_reducible rfl
        rotate_left
        ·simp only [Act.put,List.setIfInBounds_toArray,List.set_cons_zero,List.set_cons_succ,i64_w,i32_w]
         rfl
        refine pure_ (i:=1) (N:=some 18) (v:=?_) (a':=?_) #[true,true,false,false,false,false,false,false,false,false] rfl rfl (any_of HT_.out (by kernel_rfl)) (fun _ _ _ h=>h) (Or.inl ⟨by rfl,?_⟩) ?_ ?_
        rotate_left
        ·intro w'
         go_simp
         with_reducible rfl
        rotate_left
        ·simp only [Act.put,List.setIfInBounds_toArray,List.set_cons_zero,List.set_cons_succ,i64_w,i32_w]
         rfl
        refine pure_ (i:=2) (N:=some 19) (v:=?_) (a':=?_) #[true,true,true,false,false,false,false,false,false,false] rfl rfl (any_of HT_.out (by kernel_rfl)) (fun _ _ _ h=>h) (Or.inl ⟨by rfl,?_⟩) ?_ ?_
        rotate_left
        ·intro w'
         go_simp
         with_reducible rfl
        rotate_left
        ·simp only [Act.put,List.setIfInBounds_toArray,List.set_cons_zero,List.set_cons_succ,i64_w,i32_w]
         rfl
        refine pure_ (i:=4) (N:=some 21) (v:=?_) (a':=?_) #[true,true,true,false,true,false,false,false,false,false] rfl rfl (any_of HT_.out (by kernel_rfl)) (fun _ _ _ h=>h) (Or.inl ⟨by rfl,?_⟩) ?_ ?_
        rotate_left
        ·intro w'
         go_simp
         with_reducible rfl
        rotate_left
        ·simp only [Act.put,List.setIfInBounds_toArray,List.set_cons_zero,List.set_cons_succ,i64_w,i32_w]
         rfl
        refine pure_ (i:=5) (N:=some 22) (v:=?_) (a':=?_) #[true,true,true,false,true,true,false,false,false,false] rfl rfl (any_of HT_.out (by kernel_rfl)) (fun _ _ _ h=>h) (Or.inl ⟨by rfl,?_⟩) ?_ ?_
        rotate_left
        ·intro w'
         go_simp
         with_reducible rfl
        rotate_left
        ·simp only [Act.put,List.setIfInBounds_toArray,List.set_cons_zero,List.set_cons_succ,i64_w,i32_w]
         rfl
        refine pure_ (i:=6) (N:=some 23) (v:=?_) (a':=?_) #[true,true,true,false,true,true,true,false,false,false] rfl rfl (any_of HT_.out (by kernel_rfl)) (fun _ _ _ h=>h) (Or.inl ⟨by rfl,?_⟩) ?_ ?_
        rotate_left
        ·intro w'
         go_simp
         with_reducible rfl
        rotate_left
        ·simp only [Act.put,List.setIfInBounds_toArray,List.set_cons_zero,List.set_cons_succ,i64_w,i32_w]
         rfl
        refine take_ (i:=3) (N:=some 20) (v:=?_) (a':=?_) #[true,true,true,true,true,true,true,false,false,false] rfl rfl (take_ofW HT_.out HW_.out (by kernel_rfl)) (fun _ _ _ h=>h) (Or.inl ⟨by rfl,?_⟩) hHeld ?_ ?_
        rotate_left
        ·rintro w' ⟨s0,s1,s2,s3,s4,s5⟩
         go_simp
         with_reducible rfl
        rotate_left
        ·simp only [Act.put,List.setIfInBounds_toArray,List.set_cons_zero,List.set_cons_succ,i64_w,i32_w]
         rfl
        refine take_ (i:=7) (N:=some 24) (v:=?_) (a':=?_) #[true,true,true,true,true,true,true,true,false,false] rfl rfl (take_ofW HT_.out HW_.out (by kernel_rfl)) (fun _ _ _ h=>h) (Or.inl ⟨by rfl,?_⟩) hHeld ?_ ?_
        rotate_left
        ·rintro w' ⟨s0,s1,s2,s3,s4,s5⟩
         go_simp
         with_reducible rfl
        rotate_left
        ·simp only [Act.put,List.setIfInBounds_toArray,List.set_cons_zero,List.set_cons_succ,i64_w,i32_w]
         rfl
        refine one_ (i:=8) (N:=some 25) #[true,true,true,true,true,true,true,true,true,false] rfl rfl (one_of HT_.out (by kernel_rfl)) (by decide) (fun K hK=>?_)
        refine goes_ Try.func37 (by kernel_rfl) rfl #[.agg #[.bool ((rd_T63 l0 x5_1).f0),.slice A446_1 ((rd_T63 l0 x5_1).f1).length c446_1,.slice A446_2 ((rd_T63 l0 x5_1).f2).length c446_2],.agg #[.bool ((rd_T63 l1 x5_1).f0),.slice A447_1 ((rd_T63 l1 x5_1).f1).length c447_1,.slice A447_2 ((rd_T63 l1 x5_1).f2).length c447_2]] (by rfl) rfl rfl (by (try simp only [List.map_toArray,List.map_cons,List.map_nil]);first|done|rfl|(simp only [List.length_drop,List.length_take];rfl)) ?_
        with_reducible refine (penumbraref03_Is.calls k1 ((rd_T63 l0 x5_1).f0) _ _ ((rd_T63 l0 x5_1).f1) _ _ ((rd_T63 l0 x5_1).f2) ((rd_T63 l1 x5_1).f0) _ _ ((rd_T63 l1 x5_1).f1) _ _ ((rd_T63 l1 x5_1).f2) false _ ?side1 ?side2 ?side3 ?side4 ?side5 ?side6 ?side7 ?side8 A7.out).mono ?_
        (case side1=>repeat (first|exact (Kd.C_below HR446_1.out HB.out)|(with_reducible refine Kd.C_alloc ?_ _)|(with_reducible refine Kd.C_drewN ?_ _)|(with_reducible refine Kd.C_drew ?_)))
        (case side2=>exact HC446_1.out)
        (case side3=>repeat (first|exact (Kd.C_below HR446_2.out HB.out)|(with_reducible refine Kd.C_alloc ?_ _)|(with_reducible refine Kd.C_drewN ?_ _)|(with_reducible refine Kd.C_drew ?_)))
        (case side4=>exact HC446_2.out)
        (case side5=>repeat (first|exact (Kd.C_below HR447_1.out HB.out)|(with_reducible refine Kd.C_alloc ?_ _)|(with_reducible refine Kd.C_drewN ?_ _)|(with_reducible refine Kd.C_drew ?_)))
        (case side6=>exact HC447_1.out)
        (case side7=>repeat (first|exact (Kd.C_below HR447_2.out HB.out)|(with_reducible refine Kd.C_alloc ?_ _)|(with_reducible refine Kd.C_drewN ?_ _)|(with_reducible refine Kd.C_drew ?_)))
        (case side8=>exact HC447_2.out)
        rintro e w12 ⟨rfl,hb⟩
        refine ⟨_,rfl,?_⟩
        have n0_:=Aside0.mk (below_step (by repeat (first|(with_reducible first|exact HB.out|apply below_alloc|apply pw_below_drewN|apply below_drew1)|exact HB.out)) hb)
        clear HB
        have HB:=n0_
        clear n0_
        (try clear hb)
        (try clear hb2)
        (try clear hk)
        (try clear hi)
        refine hK.out _ _ ⟨((HB.out.cell (World.block_lt_of_cell? w _ hw446_0)).trans hw446_0),((HB.out.cell (World.block_lt_of_cell? w _ hw446_1)).trans hw446_1),((HB.out.cell (World.block_lt_of_cell? w _ hw446_2)).trans hw446_2),((HB.out.cell (World.block_lt_of_cell? w _ hw447_0)).trans hw447_0),((HB.out.cell (World.block_lt_of_cell? w _ hw447_1)).trans hw447_1),((HB.out.cell (World.block_lt_of_cell? w _ hw447_2)).trans hw447_2)⟩ (fun hHeld=>?_)
        clear hK K
        refine norm_ (a':=?_) ?_ ?_
        rotate_left
        ·show Act.put _ (some 25) _=_
         simp only [Act.put,List.setIfInBounds_toArray,List.set_cons_zero,List.set_cons_succ,i64_w,i32_w]
         rfl
        refine pure_ (i:=9) (N:=some 26) (v:=?_) (a':=?_) #[true,true,true,true,true,true,true,true,true,true] rfl rfl (any_of HT_.out (by kernel_rfl)) (fun _ _ _ h=>h) (Or.inl ⟨by rfl,?_⟩) ?_ ?_
        rotate_left
        ·intro w'
         go_simp
         with_reducible rfl
        rotate_left
        ·simp only [Act.put,List.setIfInBounds_toArray,List.set_cons_zero,List.set_cons_succ,i64_w,i32_w]
         rfl
        refine done_ (done_of HT_.out (by kernel_rfl)) ?_
        try go_wp2
        go_ret
        exact ⟨by first|rfl|(simp [errW_none,errW_some] <;> rfl)|(simp [*,errW_none,errW_some] <;> rfl),by repeat (first|(with_reducible first|exact HB.out|apply below_alloc|apply pw_below_drewN|apply below_drew1)|exact HB.out)⟩
      ·rw [if_neg c6] at H
       exact absurd H (by simp)
     ·rw [if_neg c5] at H
      exact absurd H (by simp)
    ·rw [if_neg c4] at H
     have c4b0 : decide (x5_1 < (l0.length : Int))=false:=decide_eq_false c4
     clear c4
     obtain rfl:=Option.some.inj H
     go_wp2
     go_ret
     exact ⟨by first|rfl|(simp [errW_none,errW_some] <;> rfl)|(simp [*,errW_none,errW_some] <;> rfl),by repeat (first|(with_reducible first|exact HB.out|apply below_alloc|apply pw_below_drewN|apply below_drew1)|exact HB.out)⟩
 ·rw [if_neg c3] at H
  have c3b0 : ((l0.length : Int) == (l1.length : Int))=false:=beq_eq_false_iff_ne.mpr c3
  have c3b1 : ((l0.length : Int) != (l1.length : Int))=true:=bne_iff_ne.mpr c3
  have c3b2 : (l0.length == l1.length)=false:=by first|simpa using c3|(simp at c3 ⊢;omega)
  obtain rfl:=Option.some.inj H
  go_enter Try.func24,Try.ntmps24
  go_wp2
  go_ret
  exact ⟨by first|rfl|(simp [errW_none,errW_some] <;> rfl)|(simp [*,errW_none,errW_some] <;> rfl),by repeat (first|(with_reducible first|exact HB.out|apply below_alloc|apply pw_below_drewN|apply below_drew1)|exact HB.out)⟩
theorem penumbraref20_Is.calls (k : Nat) (a0_0 : Int) (a0_1 : Int) (a0_2 : Int) (A0_3 : Option Addr) (c0_3 : Nat) (l0_3 : List (S63)) (A0_4 : Option Addr) (c0_4 : Nat) (l0_4 : List (S63)) (a1_0 : Int) (a1_1 : Int) (a1_2 : Int) (A1_3 : Option Addr) (c1_3 : Nat) (l1_3 : List (S63)) (A1_4 : Option Addr) (c1_4 : Nat) (l1_4 : List (S63)) (r : Bool) (w : World) (hr0_3 : Kd.C k63 w A0_3 l0_3.length l0_3) (hc0_3 : l0_3.length≤c0_3) (hr0_4 : Kd.C k63 w A0_4 l0_4.length l0_4) (hc0_4 : l0_4.length≤c0_4) (hr1_3 : Kd.C k63 w A1_3 l1_3.length l1_3) (hc1_3 : l1_3.length≤c1_3) (hr1_4 : Kd.C k63 w A1_4 l1_4.length l1_4) (hc1_4 : l1_4.length≤c1_4) (h : penumbraref20_Is.f k a0_0 a0_1 a0_2 l0_3 l0_4 a1_0 a1_1 a1_2 l1_3 l1_4=some r) :
  Calls Try.prog 11 #[.agg #[.int .i64 a0_0,.int .i64 a0_1,.int .i64 a0_2,.slice A0_3 l0_3.length c0_3,.slice A0_4 l0_4.length c0_4],.agg #[.int .i64 a1_0,.int .i64 a1_1,.int .i64 a1_2,.slice A1_3 l1_3.length c1_3,.slice A1_4 l1_4.length c1_4]] w fun e w'=>e=.returned (.bool r)∧Below w.heap.size w w':=by
 have hu27:=Try.underlying27
 have HR0_3:=Aside0.mk hr0_3
 have HC0_3:=Aside0.mk hc0_3
 clear hr0_3 hc0_3
 have HR0_4:=Aside0.mk hr0_4
 have HC0_4:=Aside0.mk hc0_4
 clear hr0_4 hc0_4
 have HR1_3:=Aside0.mk hr1_3
 have HC1_3:=Aside0.mk hc1_3
 clear hr1_3 hc1_3
 have HR1_4:=Aside0.mk hr1_4
 have HC1_4:=Aside0.mk hc1_4
 clear hr1_4 hc1_4
 have HB:=Aside0.mk (Below.refl w.heap.size w)
 have H : (if a0_0=a1_0 then (if a0_1=a1_1 then (if a0_2=a1_2 then ((penumbraref09_Same.f k l0_3 l1_3).bind fun t451=>(if t451=true then ((penumbraref09_Same.f k l0_4 l1_4).bind fun t452=>(some t452)) else (some false))) else (some false)) else (some false)) else (some false))=some r:=h
 clear h
 by_cases c3 : a0_0=a1_0
 ·rw [if_pos c3] at H
  have c3b0 : (a0_0 == a1_0)=true:=beq_iff_eq.mpr c3
  have c3b1 : (a0_0 != a1_0)=false:=bne_eq_false_iff_eq.mpr c3
  clear c3
  by_cases c4 : a0_1=a1_1
  ·rw [if_pos c4] at H
   have c4b0 : (a0_1 == a1_1)=true:=beq_iff_eq.mpr c4
   have c4b1 : (a0_1 != a1_1)=false:=bne_eq_false_iff_eq.mpr c4
   clear c4
   by_cases c5 : a0_2=a1_2
   ·rw [if_pos c5] at H
    have c5b0 : (a0_2 == a1_2)=true:=beq_iff_eq.mpr c5
    have c5b1 : (a0_2 != a1_2)=false:=bne_eq_false_iff_eq.mpr c5
    clear c5
    replace H:=Option.bind_eq_some_iff.mp H
    obtain ⟨t451,A60,H⟩:=H
    replace H : (if t451=true then ((penumbraref09_Same.f k l0_4 l1_4).bind fun t452=>(some t452)) else (some false))=some r:=H
    have A6:=Aside0.mk A60
    clear A60
    by_cases c7 : t451=true
    ·subst c7
     have H1 : ((penumbraref09_Same.f k l0_4 l1_4).bind fun t452=>(some t452))=some r:=by rw [if_pos rfl] at H;exact H
     clear H
     have H:=H1
     clear H1
     replace H:=Option.bind_eq_some_iff.mp H
     obtain ⟨t452,A80,H⟩:=H
     replace H : (some t452)=some r:=H
     have A8:=Aside0.mk A80
     clear A80
     obtain rfl:=Option.some.inj H
     go_enter Try.func11,Try.ntmps11
     go_wp2_with (first|((with_reducible refine gate_dst (N:=2) rfl ?_);refine box_event ?hg (N:=2) ?hd (cs:=#[.int .i64 a0_0,.int .i64 a0_1,.int .i64 a0_2,.slice A0_3 l0_3.length c0_3,.slice A0_4 l0_4.length c0_4]) (t:=27) ?hr ?_;(case hd=>rfl);(case hg=>rfl);(case hr=>first|(go_simp;done)|(go_simp;(with_reducible rfl))|(go_simp;rfl)|(go_simp;have hu_ : ∀ x : Int,IntKind.u32.wrap x=HMod.hMod x (4294967296 : Int):=(fun x=>by simp only [IntKind.wrap,IntKind.bits,IntKind.signed];simp);simp only [hu_,Int.emod_sub_emod]));intro gb449 hg w9 hbox hb;have n0_:=Aside0.mk (below_step (by repeat (first|(with_reducible first|exact HB.out|apply below_alloc|apply pw_below_drewN|apply below_drew1)|exact HB.out)) hb);have n1_:=Aside0.mk (hbox);have n2_:=Aside0.mk ((by rw [hg];exact (below_size (by repeat (first|(with_reducible first|exact HB.out|apply below_alloc|apply pw_below_drewN|apply below_drew1)|exact HB.out))) : w.heap.size≤gb449));have n3_:=Aside0.mk ((by rw [hg];exact (below_size (by repeat (first|(with_reducible first|exact HB.out|apply below_alloc|apply pw_below_drewN|apply below_drew1)|exact HB.out))) : w.heap.size≤gb449));clear HB;have HB:=n0_;have BK449:=n1_;have GW449:=n2_;have GE449:=n3_;clear n0_ n1_ n2_ n3_;clear hb hbox hg)|((with_reducible refine gate_dst (N:=3) rfl ?_);refine box_event ?hg (N:=3) ?hd (cs:=#[.int .i64 a1_0,.int .i64 a1_1,.int .i64 a1_2,.slice A1_3 l1_3.length c1_3,.slice A1_4 l1_4.length c1_4]) (t:=27) ?hr ?_;(case hd=>rfl);(case hg=>rfl);(case hr=>first|(go_simp;done)|(go_simp;(with_reducible rfl))|(go_simp;rfl)|(go_simp;have hu_ : ∀ x : Int,IntKind.u32.wrap x=HMod.hMod x (4294967296 : Int):=(fun x=>by simp only [IntKind.wrap,IntKind.bits,IntKind.signed];simp);simp only [hu_,Int.emod_sub_emod]));intro gb450 hg w10 hbox hb;have n0_:=Aside0.mk (blk_below (g:=gb449) (o:=.cells #[.int .i64 a0_0,.int .i64 a0_1,.int .i64 a0_2,.slice A0_3 l0_3.length c0_3,.slice A0_4 l0_4.length c0_4] 27 (0,0)) (by (with_reducible repeat (first|refine blk_drewN ?_ _|refine blk_drew ?_|refine blk_alloc ?_ _));exact BK449.out) hb);have n1_:=Aside0.mk (below_step (by repeat (first|(with_reducible first|exact HB.out|apply below_alloc|apply pw_below_drewN|apply below_drew1|refine below_set ?_ GE449.out)|exact HB.out)) hb);have n2_:=Aside0.mk (hbox);have n3_:=Aside0.mk ((by rw [hg];exact (below_size (by repeat (first|(with_reducible first|exact HB.out|apply below_alloc|apply pw_below_drewN|apply below_drew1|refine below_set ?_ GE449.out)|exact HB.out))) : w.heap.size≤gb450));have n4_:=Aside0.mk ((by rw [hg];exact (below_size (by repeat (first|(with_reducible first|exact HB.out|apply below_alloc|apply pw_below_drewN|apply below_drew1|refine below_set ?_ GE449.out)|exact HB.out))) : w.heap.size≤gb450));have n5_:=Aside0.mk ((by rw [hg];exact Nat.ne_of_lt (blk_lt (g:=gb449) (o:=.cells #[.int .i64 a0_0,.int .i64 a0_1,.int .i64 a0_2,.slice A0_3 l0_3.length c0_3,.slice A0_4 l0_4.length c0_4] 27 (0,0)) (by (with_reducible repeat (first|refine blk_drewN ?_ _|refine blk_drew ?_|refine blk_alloc ?_ _));exact BK449.out)) : gb449≠gb450));have n6_:=Aside0.mk ((by rw [hg];exact Nat.ne_of_gt (blk_lt (g:=gb449) (o:=.cells #[.int .i64 a0_0,.int .i64 a0_1,.int .i64 a0_2,.slice A0_3 l0_3.length c0_3,.slice A0_4 l0_4.length c0_4] 27 (0,0)) (by (with_reducible repeat (first|refine blk_drewN ?_ _|refine blk_drew ?_|refine blk_alloc ?_ _));exact BK449.out)) : gb450≠gb449));clear BK449;clear HB;have BK449:=n0_;have HB:=n1_;have BK450:=n2_;have GW450:=n3_;have GE450:=n4_;have NB449_450:=n5_;have NB450_449:=n6_;clear n0_ n1_ n2_ n3_ n4_ n5_ n6_;clear hb hbox hg;have hnb11:=NB449_450.out;have hnc11:=NB450_449.out;have hcz12_0 : w10.cell? ⟨gb449,0,none⟩=some (.int .i64 a0_0):=(blk_cell BK449.out 0).trans rfl;have hcz12_1 : w10.cell? ⟨gb449,1,none⟩=some (.int .i64 a0_1):=(blk_cell BK449.out 1).trans rfl;have hcz12_2 : w10.cell? ⟨gb449,2,none⟩=some (.int .i64 a0_2):=(blk_cell BK449.out 2).trans rfl;have hcz12_3 : w10.cell? ⟨gb449,3,none⟩=some (.slice A0_3 l0_3.length c0_3):=(blk_cell BK449.out 3).trans rfl;have hcz12_4 : w10.cell? ⟨gb449,4,none⟩=some (.slice A0_4 l0_4.length c0_4):=(blk_cell BK449.out 4).trans rfl;have hfz12_0:=blk_frozen BK449.out 0;have hfz12_1:=blk_frozen BK449.out 1;have hfz12_2:=blk_frozen BK449.out 2;have hfz12_3:=blk_frozen BK449.out 3;have hfz12_4:=blk_frozen BK449.out 4;have hcz13_0 : w10.cell? ⟨gb450,0,none⟩=some (.int .i64 a1_0):=(blk_cell BK450.out 0).trans rfl;have hcz13_1 : w10.cell? ⟨gb450,1,none⟩=some (.int .i64 a1_1):=(blk_cell BK450.out 1).trans rfl;have hcz13_2 : w10.cell? ⟨gb450,2,none⟩=some (.int .i64 a1_2):=(blk_cell BK450.out 2).trans rfl;have hcz13_3 : w10.cell? ⟨gb450,3,none⟩=some (.slice A1_3 l1_3.length c1_3):=(blk_cell BK450.out 3).trans rfl;have hcz13_4 : w10.cell? ⟨gb450,4,none⟩=some (.slice A1_4 l1_4.length c1_4):=(blk_cell BK450.out 4).trans rfl;have hfz13_0:=blk_frozen BK450.out 0;have hfz13_1:=blk_frozen BK450.out 1;have hfz13_2:=blk_frozen BK450.out 2;have hfz13_3:=blk_frozen BK450.out 3;have hfz13_4:=blk_frozen BK450.out 4)|(go_at_call 24;(with_reducible refine (penumbraref09_Same.calls k _ _ l0_3 _ _ l1_3 true _ ?side1 ?side2 ?side3 ?side4 A6.out).mono ?_);(case side1=>repeat (first|exact (Kd.C_below HR0_3.out HB.out)|(with_reducible refine Kd.C_alloc ?_ _)|(with_reducible refine Kd.C_drewN ?_ _)|(with_reducible refine Kd.C_drew ?_)));(case side2=>exact HC0_3.out);(case side3=>repeat (first|exact (Kd.C_below HR1_3.out HB.out)|(with_reducible refine Kd.C_alloc ?_ _)|(with_reducible refine Kd.C_drewN ?_ _)|(with_reducible refine Kd.C_drew ?_)));(case side4=>exact HC1_3.out);rintro e w14 ⟨rfl,hb⟩;have n0_:=Aside0.mk (blk_below (g:=gb449) (o:=.cells #[.int .i64 a0_0,.int .i64 a0_1,.int .i64 a0_2,.slice A0_3 l0_3.length c0_3,.slice A0_4 l0_4.length c0_4] 27 (0,0)) (by (with_reducible repeat (first|refine blk_drewN ?_ _|refine blk_drew ?_|refine blk_alloc ?_ _));exact BK449.out) hb);have n1_:=Aside0.mk (blk_below (g:=gb450) (o:=.cells #[.int .i64 a1_0,.int .i64 a1_1,.int .i64 a1_2,.slice A1_3 l1_3.length c1_3,.slice A1_4 l1_4.length c1_4] 27 (0,0)) (by (with_reducible repeat (first|refine blk_drewN ?_ _|refine blk_drew ?_|refine blk_alloc ?_ _));exact BK450.out) hb);have n2_:=Aside0.mk (below_step (by repeat (first|(with_reducible first|exact HB.out|apply below_alloc|apply pw_below_drewN|apply below_drew1|refine below_set ?_ GE449.out|refine below_set ?_ GE450.out)|exact HB.out)) hb);clear BK449;clear BK450;clear HB;have BK449:=n0_;have BK450:=n1_;have HB:=n2_;clear n0_ n1_ n2_;(try clear hb);(try clear hb2);(try clear hk);(try clear hi);have hcz15_0 : w14.cell? ⟨gb449,0,none⟩=some (.int .i64 a0_0):=(blk_cell BK449.out 0).trans rfl;have hcz15_1 : w14.cell? ⟨gb449,1,none⟩=some (.int .i64 a0_1):=(blk_cell BK449.out 1).trans rfl;have hcz15_2 : w14.cell? ⟨gb449,2,none⟩=some (.int .i64 a0_2):=(blk_cell BK449.out 2).trans rfl;have hcz15_3 : w14.cell? ⟨gb449,3,none⟩=some (.slice A0_3 l0_3.length c0_3):=(blk_cell BK449.out 3).trans rfl;have hcz15_4 : w14.cell? ⟨gb449,4,none⟩=some (.slice A0_4 l0_4.length c0_4):=(blk_cell BK449.out 4).trans rfl;have hfz15_0:=blk_frozen BK449.out 0;have hfz15_1:=blk_frozen BK449.out 1;have hfz15_2:=blk_frozen BK449.out 2;have hfz15_3:=blk_frozen BK449.out 3;have hfz15_4:=blk_frozen BK449.out 4;have hcz16_0 : w14.cell? ⟨gb450,0,none⟩=some (.int .i64 a1_0):=(blk_cell BK450.out 0).trans rfl;have hcz16_1 : w14.cell? ⟨gb450,1,none⟩=some (.int .i64 a1_1):=(blk_cell BK450.out 1).trans rfl;have hcz16_2 : w14.cell? ⟨gb450,2,none⟩=some (.int .i64 a1_2):=(blk_cell BK450.out 2).trans rfl;have hcz16_3 : w14.cell? ⟨gb450,3,none⟩=some (.slice A1_3 l1_3.length c1_3):=(blk_cell BK450.out 3).trans rfl;have hcz16_4 : w14.cell? ⟨gb450,4,none⟩=some (.slice A1_4 l1_4.length c1_4):=(blk_cell BK450.out 4).trans rfl;have hfz16_0:=blk_frozen BK450.out 0;have hfz16_1:=blk_frozen BK450.out 1;have hfz16_2:=blk_frozen BK450.out 2;have hfz16_3:=blk_frozen BK450.out 3;have hfz16_4:=blk_frozen BK450.out 4)|(go_at_call 24;(with_reducible refine (penumbraref09_Same.calls k _ _ l0_4 _ _ l1_4 t452 _ ?side1 ?side2 ?side3 ?side4 A8.out).mono ?_);(case side1=>repeat (first|exact (Kd.C_below HR0_4.out HB.out)|(with_reducible refine Kd.C_alloc ?_ _)|(with_reducible refine Kd.C_drewN ?_ _)|(with_reducible refine Kd.C_drew ?_)));(case side2=>exact HC0_4.out);(case side3=>repeat (first|exact (Kd.C_below HR1_4.out HB.out)|(with_reducible refine Kd.C_alloc ?_ _)|(with_reducible refine Kd.C_drewN ?_ _)|(with_reducible refine Kd.C_drew ?_)));(case side4=>exact HC1_4.out);rintro e w17 ⟨rfl,hb⟩;have n0_:=Aside0.mk (blk_below (g:=gb449) (o:=.cells #[.int .i64 a0_0,.int .i64 a0_1,.int .i64 a0_2,.slice A0_3 l0_3.length c0_3,.slice A0_4 l0_4.length c0_4] 27 (0,0)) (by (with_reducible repeat (first|refine blk_drewN ?_ _|refine blk_drew ?_|refine blk_alloc ?_ _));exact BK449.out) hb);have n1_:=Aside0.mk (blk_below (g:=gb450) (o:=.cells #[.int .i64 a1_0,.int .i64 a1_1,.int .i64 a1_2,.slice A1_3 l1_3.length c1_3,.slice A1_4 l1_4.length c1_4] 27 (0,0)) (by (with_reducible repeat (first|refine blk_drewN ?_ _|refine blk_drew ?_|refine blk_alloc ?_ _));exact BK450.out) hb);have n2_:=Aside0.mk (below_step (by repeat (first|(with_reducible first|exact HB.out|apply below_alloc|apply pw_below_drewN|apply below_drew1|refine below_set ?_ GE449.out|refine below_set ?_ GE450.out)|exact HB.out)) hb);clear BK449;clear BK450;clear HB;have BK449:=n0_;have BK450:=n1_;have HB:=n2_;clear n0_ n1_ n2_;(try clear hb);(try clear hb2);(try clear hk);(try clear hi)))
     go_ret
     exact ⟨by first|rfl|(simp [errW_none,errW_some] <;> rfl)|(simp [*,errW_none,errW_some] <;> rfl),by repeat (first|(with_reducible first|exact HB.out|apply below_alloc|apply pw_below_drewN|apply below_drew1|refine below_set ?_ GE449.out|refine below_set ?_ GE450.out)|exact HB.out)⟩
    ·replace c7:=Bool.eq_false_iff.mpr c7
     subst c7
     have H1 : (some false)=some r:=by rw [if_neg (show ¬ (false=true) by decide)] at H;exact H
     clear H
     have H:=H1
     clear H1
     obtain rfl:=Option.some.inj H
     go_enter Try.func11,Try.ntmps11
     go_wp2_with (first|((with_reducible refine gate_dst (N:=2) rfl ?_);refine box_event ?hg (N:=2) ?hd (cs:=#[.int .i64 a0_0,.int .i64 a0_1,.int .i64 a0_2,.slice A0_3 l0_3.length c0_3,.slice A0_4 l0_4.length c0_4]) (t:=27) ?hr ?_;(case hd=>rfl);(case hg=>rfl);(case hr=>first|(go_simp;done)|(go_simp;(with_reducible rfl))|(go_simp;rfl)|(go_simp;have hu_ : ∀ x : Int,IntKind.u32.wrap x=HMod.hMod x (4294967296 : Int):=(fun x=>by simp only [IntKind.wrap,IntKind.bits,IntKind.signed];simp);simp only [hu_,Int.emod_sub_emod]));intro gb449 hg w18 hbox hb;have n0_:=Aside0.mk (below_step (by repeat (first|(with_reducible first|exact HB.out|apply below_alloc|apply pw_below_drewN|apply below_drew1)|exact HB.out)) hb);have n1_:=Aside0.mk (hbox);have n2_:=Aside0.mk ((by rw [hg];exact (below_size (by repeat (first|(with_reducible first|exact HB.out|apply below_alloc|apply pw_below_drewN|apply below_drew1)|exact HB.out))) : w.heap.size≤gb449));have n3_:=Aside0.mk ((by rw [hg];exact (below_size (by repeat (first|(with_reducible first|exact HB.out|apply below_alloc|apply pw_below_drewN|apply below_drew1)|exact HB.out))) : w.heap.size≤gb449));clear HB;have HB:=n0_;have BK449:=n1_;have GW449:=n2_;have GE449:=n3_;clear n0_ n1_ n2_ n3_;clear hb hbox hg)|((with_reducible refine gate_dst (N:=3) rfl ?_);refine box_event ?hg (N:=3) ?hd (cs:=#[.int .i64 a1_0,.int .i64 a1_1,.int .i64 a1_2,.slice A1_3 l1_3.length c1_3,.slice A1_4 l1_4.length c1_4]) (t:=27) ?hr ?_;(case hd=>rfl);(case hg=>rfl);(case hr=>first|(go_simp;done)|(go_simp;(with_reducible rfl))|(go_simp;rfl)|(go_simp;have hu_ : ∀ x : Int,IntKind.u32.wrap x=HMod.hMod x (4294967296 : Int):=(fun x=>by simp only [IntKind.wrap,IntKind.bits,IntKind.signed];simp);simp only [hu_,Int.emod_sub_emod]));intro gb450 hg w19 hbox hb;have n0_:=Aside0.mk (blk_below (g:=gb449) (o:=.cells #[.int .i64 a0_0,.int .i64 a0_1,.int .i64 a0_2,.slice A0_3 l0_3.length c0_3,.slice A0_4 l0_4.length c0_4] 27 (0,0)) (by (with_reducible repeat (first|refine blk_drewN ?_ _|refine blk_drew ?_|refine blk_alloc ?_ _));exact BK449.out) hb);have n1_:=Aside0.mk (below_step (by repeat (first|(with_reducible first|exact HB.out|apply below_alloc|apply pw_below_drewN|apply below_drew1|refine below_set ?_ GE449.out)|exact HB.out)) hb);have n2_:=Aside0.mk (hbox);have n3_:=Aside0.mk ((by rw [hg];exact (below_size (by repeat (first|(with_reducible first|exact HB.out|apply below_alloc|apply pw_below_drewN|apply below_drew1|refine below_set ?_ GE449.out)|exact HB.out))) : w.heap.size≤gb450));have n4_:=Aside0.mk ((by rw [hg];exact (below_size (by repeat (first|(with_reducible first|exact HB.out|apply below_alloc|apply pw_below_drewN|apply below_drew1|refine below_set ?_ GE449.out)|exact HB.out))) : w.heap.size≤gb450));have n5_:=Aside0.mk ((by rw [hg];exact Nat.ne_of_lt (blk_lt (g:=gb449) (o:=.cells #[.int .i64 a0_0,.int .i64 a0_1,.int .i64 a0_2,.slice A0_3 l0_3.length c0_3,.slice A0_4 l0_4.length c0_4] 27 (0,0)) (by (with_reducible repeat (first|refine blk_drewN ?_ _|refine blk_drew ?_|refine blk_alloc ?_ _));exact BK449.out)) : gb449≠gb450));have n6_:=Aside0.mk ((by rw [hg];exact Nat.ne_of_gt (blk_lt (g:=gb449) (o:=.cells #[.int .i64 a0_0,.int .i64 a0_1,.int .i64 a0_2,.slice A0_3 l0_3.length c0_3,.slice A0_4 l0_4.length c0_4] 27 (0,0)) (by (with_reducible repeat (first|refine blk_drewN ?_ _|refine blk_drew ?_|refine blk_alloc ?_ _));exact BK449.out)) : gb450≠gb449));clear BK449;clear HB;have BK449:=n0_;have HB:=n1_;have BK450:=n2_;have GW450:=n3_;have GE450:=n4_;have NB449_450:=n5_;have NB450_449:=n6_;clear n0_ n1_ n2_ n3_ n4_ n5_ n6_;clear hb hbox hg;have hnb20:=NB449_450.out;have hnc20:=NB450_449.out;have hcz21_0 : w19.cell? ⟨gb449,0,none⟩=some (.int .i64 a0_0):=(blk_cell BK449.out 0).trans rfl;have hcz21_1 : w19.cell? ⟨gb449,1,none⟩=some (.int .i64 a0_1):=(blk_cell BK449.out 1).trans rfl;have hcz21_2 : w19.cell? ⟨gb449,2,none⟩=some (.int .i64 a0_2):=(blk_cell BK449.out 2).trans rfl;have hcz21_3 : w19.cell? ⟨gb449,3,none⟩=some (.slice A0_3 l0_3.length c0_3):=(blk_cell BK449.out 3).trans rfl;have hcz21_4 : w19.cell? ⟨gb449,4,none⟩=some (.slice A0_4 l0_4.length c0_4):=(blk_cell BK449.out 4).trans rfl;have hfz21_0:=blk_frozen BK449.out 0;have hfz21_1:=blk_frozen BK449.out 1;have hfz21_2:=blk_frozen BK449.out 2;have hfz21_3:=blk_frozen BK449.out 3;have hfz21_4:=blk_frozen BK449.out 4;have hcz22_0 : w19.cell? ⟨gb450,0,none⟩=some (.int .i64 a1_0):=(blk_cell BK450.out 0).trans rfl;have hcz22_1 : w19.cell? ⟨gb450,1,none⟩=some (.int .i64 a1_1):=(blk_cell BK450.out 1).trans rfl;have hcz22_2 : w19.cell? ⟨gb450,2,none⟩=some (.int .i64 a1_2):=(blk_cell BK450.out 2).trans rfl;have hcz22_3 : w19.cell? ⟨gb450,3,none⟩=some (.slice A1_3 l1_3.length c1_3):=(blk_cell BK450.out 3).trans rfl;have hcz22_4 : w19.cell? ⟨gb450,4,none⟩=some (.slice A1_4 l1_4.length c1_4):=(blk_cell BK450.out 4).trans rfl;have hfz22_0:=blk_frozen BK450.out 0;have hfz22_1:=blk_frozen BK450.out 1;have hfz22_2:=blk_frozen BK450.out 2;have hfz22_3:=blk_frozen BK450.out 3;have hfz22_4:=blk_frozen BK450.out 4)|(go_at_call 24;(with_reducible refine (penumbraref09_Same.calls k _ _ l0_3 _ _ l1_3 false _ ?side1 ?side2 ?side3 ?side4 A6.out).mono ?_);(case side1=>repeat (first|exact (Kd.C_below HR0_3.out HB.out)|(with_reducible refine Kd.C_alloc ?_ _)|(with_reducible refine Kd.C_drewN ?_ _)|(with_reducible refine Kd.C_drew ?_)));(case side2=>exact HC0_3.out);(case side3=>repeat (first|exact (Kd.C_below HR1_3.out HB.out)|(with_reducible refine Kd.C_alloc ?_ _)|(with_reducible refine Kd.C_drewN ?_ _)|(with_reducible refine Kd.C_drew ?_)));(case side4=>exact HC1_3.out);rintro e w23 ⟨rfl,hb⟩;have n0_:=Aside0.mk (blk_below (g:=gb449) (o:=.cells #[.int .i64 a0_0,.int .i64 a0_1,.int .i64 a0_2,.slice A0_3 l0_3.length c0_3,.slice A0_4 l0_4.length c0_4] 27 (0,0)) (by (with_reducible repeat (first|refine blk_drewN ?_ _|refine blk_drew ?_|refine blk_alloc ?_ _));exact BK449.out) hb);have n1_:=Aside0.mk (blk_below (g:=gb450) (o:=.cells #[.int .i64 a1_0,.int .i64 a1_1,.int .i64 a1_2,.slice A1_3 l1_3.length c1_3,.slice A1_4 l1_4.length c1_4] 27 (0,0)) (by (with_reducible repeat (first|refine blk_drewN ?_ _|refine blk_drew ?_|refine blk_alloc ?_ _));exact BK450.out) hb);have n2_:=Aside0.mk (below_step (by repeat (first|(with_reducible first|exact HB.out|apply below_alloc|apply pw_below_drewN|apply below_drew1|refine below_set ?_ GE449.out|refine below_set ?_ GE450.out)|exact HB.out)) hb);clear BK449;clear BK450;clear HB;have BK449:=n0_;have BK450:=n1_;have HB:=n2_;clear n0_ n1_ n2_;(try clear hb);(try clear hb2);(try clear hk);(try clear hi)))
     go_ret
     exact ⟨by first|rfl|(simp [errW_none,errW_some] <;> rfl)|(simp [*,errW_none,errW_some] <;> rfl),by repeat (first|(with_reducible first|exact HB.out|apply below_alloc|apply pw_below_drewN|apply below_drew1|refine below_set ?_ GE449.out|refine below_set ?_ GE450.out)|exact HB.out)⟩
   ·rw [if_neg c5] at H
    have c5b0 : (a0_2 == a1_2)=false:=beq_eq_false_iff_ne.mpr c5
    have c5b1 : (a0_2 != a1_2)=true:=bne_iff_ne.mpr c5
    obtain rfl:=Option.some.inj H
    go_enter Try.func11,Try.ntmps11
    go_wp2_with (first|((with_reducible refine gate_dst (N:=2) rfl ?_);refine box_event ?hg (N:=2) ?hd (cs:=#[.int .i64 a0_0,.int .i64 a0_1,.int .i64 a0_2,.slice A0_3 l0_3.length c0_3,.slice A0_4 l0_4.length c0_4]) (t:=27) ?hr ?_;(case hd=>rfl);(case hg=>rfl);(case hr=>first|(go_simp;done)|(go_simp;(with_reducible rfl))|(go_simp;rfl)|(go_simp;have hu_ : ∀ x : Int,IntKind.u32.wrap x=HMod.hMod x (4294967296 : Int):=(fun x=>by simp only [IntKind.wrap,IntKind.bits,IntKind.signed];simp);simp only [hu_,Int.emod_sub_emod]));intro gb449 hg w24 hbox hb;have n0_:=Aside0.mk (below_step (by repeat (first|(with_reducible first|exact HB.out|apply below_alloc|apply pw_below_drewN|apply below_drew1)|exact HB.out)) hb);have n1_:=Aside0.mk (hbox);have n2_:=Aside0.mk ((by rw [hg];exact (below_size (by repeat (first|(with_reducible first|exact HB.out|apply below_alloc|apply pw_below_drewN|apply below_drew1)|exact HB.out))) : w.heap.size≤gb449));have n3_:=Aside0.mk ((by rw [hg];exact (below_size (by repeat (first|(with_reducible first|exact HB.out|apply below_alloc|apply pw_below_drewN|apply below_drew1)|exact HB.out))) : w.heap.size≤gb449));clear HB;have HB:=n0_;have BK449:=n1_;have GW449:=n2_;have GE449:=n3_;clear n0_ n1_ n2_ n3_;clear hb hbox hg)|((with_reducible refine gate_dst (N:=3) rfl ?_);refine box_event ?hg (N:=3) ?hd (cs:=#[.int .i64 a1_0,.int .i64 a1_1,.int .i64 a1_2,.slice A1_3 l1_3.length c1_3,.slice A1_4 l1_4.length c1_4]) (t:=27) ?hr ?_;(case hd=>rfl);(case hg=>rfl);(case hr=>first|(go_simp;done)|(go_simp;(with_reducible rfl))|(go_simp;rfl)|(go_simp;have hu_ : ∀ x : Int,IntKind.u32.wrap x=HMod.hMod x (4294967296 : Int):=(fun x=>by simp only [IntKind.wrap,IntKind.bits,IntKind.signed];simp);simp only [hu_,Int.emod_sub_emod]));intro gb450 hg w25 hbox hb;have n0_:=Aside0.mk (blk_below (g:=gb449) (o:=.cells #[.int .i64 a0_0,.int .i64 a0_1,.int .i64 a0_2,.slice A0_3 l0_3.length c0_3,.slice A0_4 l0_4.length c0_4] 27 (0,0)) (by (with_reducible repeat (first|refine blk_drewN ?_ _|refine blk_drew ?_|refine blk_alloc ?_ _));exact BK449.out) hb);have n1_:=Aside0.mk (below_step (by repeat (first|(with_reducible first|exact HB.out|apply below_alloc|apply pw_below_drewN|apply below_drew1|refine below_set ?_ GE449.out)|exact HB.out)) hb);have n2_:=Aside0.mk (hbox);have n3_:=Aside0.mk ((by rw [hg];exact (below_size (by repeat (first|(with_reducible first|exact HB.out|apply below_alloc|apply pw_below_drewN|apply below_drew1|refine below_set ?_ GE449.out)|exact HB.out))) : w.heap.size≤gb450));have n4_:=Aside0.mk ((by rw [hg];exact (below_size (by repeat (first|(with_reducible first|exact HB.out|apply below_alloc|apply pw_below_drewN|apply below_drew1|refine below_set ?_ GE449.out)|exact HB.out))) : w.heap.size≤gb450));have n5_:=Aside0.mk ((by rw [hg];exact Nat.ne_of_lt (blk_lt (g:=gb449) (o:=.cells #[.int .i64 a0_0,.int .i64 a0_1,.int .i64 a0_2,.slice A0_3 l0_3.length c0_3,.slice A0_4 l0_4.length c0_4] 27 (0,0)) (by (with_reducible repeat (first|refine blk_drewN ?_ _|refine blk_drew ?_|refine blk_alloc ?_ _));exact BK449.out)) : gb449≠gb450));have n6_:=Aside0.mk ((by rw [hg];exact Nat.ne_of_gt (blk_lt (g:=gb449) (o:=.cells #[.int .i64 a0_0,.int .i64 a0_1,.int .i64 a0_2,.slice A0_3 l0_3.length c0_3,.slice A0_4 l0_4.length c0_4] 27 (0,0)) (by (with_reducible repeat (first|refine blk_drewN ?_ _|refine blk_drew ?_|refine blk_alloc ?_ _));exact BK449.out)) : gb450≠gb449));clear BK449;clear HB;have BK449:=n0_;have HB:=n1_;have BK450:=n2_;have GW450:=n3_;have GE450:=n4_;have NB449_450:=n5_;have NB450_449:=n6_;clear n0_ n1_ n2_ n3_ n4_ n5_ n6_;clear hb hbox hg;have hnb26:=NB449_450.out;have hnc26:=NB450_449.out;have hcz27_0 : w25.cell? ⟨gb449,0,none⟩=some (.int .i64 a0_0):=(blk_cell BK449.out 0).trans rfl;have hcz27_1 : w25.cell? ⟨gb449,1,none⟩=some (.int .i64 a0_1):=(blk_cell BK449.out 1).trans rfl;have hcz27_2 : w25.cell? ⟨gb449,2,none⟩=some (.int .i64 a0_2):=(blk_cell BK449.out 2).trans rfl;have hcz27_3 : w25.cell? ⟨gb449,3,none⟩=some (.slice A0_3 l0_3.length c0_3):=(blk_cell BK449.out 3).trans rfl;have hcz27_4 : w25.cell? ⟨gb449,4,none⟩=some (.slice A0_4 l0_4.length c0_4):=(blk_cell BK449.out 4).trans rfl;have hfz27_0:=blk_frozen BK449.out 0;have hfz27_1:=blk_frozen BK449.out 1;have hfz27_2:=blk_frozen BK449.out 2;have hfz27_3:=blk_frozen BK449.out 3;have hfz27_4:=blk_frozen BK449.out 4;have hcz28_0 : w25.cell? ⟨gb450,0,none⟩=some (.int .i64 a1_0):=(blk_cell BK450.out 0).trans rfl;have hcz28_1 : w25.cell? ⟨gb450,1,none⟩=some (.int .i64 a1_1):=(blk_cell BK450.out 1).trans rfl;have hcz28_2 : w25.cell? ⟨gb450,2,none⟩=some (.int .i64 a1_2):=(blk_cell BK450.out 2).trans rfl;have hcz28_3 : w25.cell? ⟨gb450,3,none⟩=some (.slice A1_3 l1_3.length c1_3):=(blk_cell BK450.out 3).trans rfl;have hcz28_4 : w25.cell? ⟨gb450,4,none⟩=some (.slice A1_4 l1_4.length c1_4):=(blk_cell BK450.out 4).trans rfl;have hfz28_0:=blk_frozen BK450.out 0;have hfz28_1:=blk_frozen BK450.out 1;have hfz28_2:=blk_frozen BK450.out 2;have hfz28_3:=blk_frozen BK450.out 3;have hfz28_4:=blk_frozen BK450.out 4))
    go_ret
    exact ⟨by first|rfl|(simp [errW_none,errW_some] <;> rfl)|(simp [*,errW_none,errW_some] <;> rfl),by repeat (first|(with_reducible first|exact HB.out|apply below_alloc|apply pw_below_drewN|apply below_drew1|refine below_set ?_ GE449.out|refine below_set ?_ GE450.out)|exact HB.out)⟩
  ·rw [if_neg c4] at H
   have c4b0 : (a0_1 == a1_1)=false:=beq_eq_false_iff_ne.mpr c4
   have c4b1 : (a0_1 != a1_1)=true:=bne_iff_ne.mpr c4
   obtain rfl:=Option.some.inj H
   go_enter Try.func11,Try.ntmps11
   go_wp2_with (first|((with_reducible refine gate_dst (N:=2) rfl ?_);refine box_event ?hg (N:=2) ?hd (cs:=#[.int .i64 a0_0,.int .i64 a0_1,.int .i64 a0_2,.slice A0_3 l0_3.length c0_3,.slice A0_4 l0_4.length c0_4]) (t:=27) ?hr ?_;(case hd=>rfl);(case hg=>rfl);(case hr=>first|(go_simp;done)|(go_simp;(with_reducible rfl))|(go_simp;rfl)|(go_simp;have hu_ : ∀ x : Int,IntKind.u32.wrap x=HMod.hMod x (4294967296 : Int):=(fun x=>by simp only [IntKind.wrap,IntKind.bits,IntKind.signed];simp);simp only [hu_,Int.emod_sub_emod]));intro gb449 hg w29 hbox hb;have n0_:=Aside0.mk (below_step (by repeat (first|(with_reducible first|exact HB.out|apply below_alloc|apply pw_below_drewN|apply below_drew1)|exact HB.out)) hb);have n1_:=Aside0.mk (hbox);have n2_:=Aside0.mk ((by rw [hg];exact (below_size (by repeat (first|(with_reducible first|exact HB.out|apply below_alloc|apply pw_below_drewN|apply below_drew1)|exact HB.out))) : w.heap.size≤gb449));have n3_:=Aside0.mk ((by rw [hg];exact (below_size (by repeat (first|(with_reducible first|exact HB.out|apply below_alloc|apply pw_below_drewN|apply below_drew1)|exact HB.out))) : w.heap.size≤gb449));clear HB;have HB:=n0_;have BK449:=n1_;have GW449:=n2_;have GE449:=n3_;clear n0_ n1_ n2_ n3_;clear hb hbox hg)|((with_reducible refine gate_dst (N:=3) rfl ?_);refine box_event ?hg (N:=3) ?hd (cs:=#[.int .i64 a1_0,.int .i64 a1_1,.int .i64 a1_2,.slice A1_3 l1_3.length c1_3,.slice A1_4 l1_4.length c1_4]) (t:=27) ?hr ?_;(case hd=>rfl);(case hg=>rfl);(case hr=>first|(go_simp;done)|(go_simp;(with_reducible rfl))|(go_simp;rfl)|(go_simp;have hu_ : ∀ x : Int,IntKind.u32.wrap x=HMod.hMod x (4294967296 : Int):=(fun x=>by simp only [IntKind.wrap,IntKind.bits,IntKind.signed];simp);simp only [hu_,Int.emod_sub_emod]));intro gb450 hg w30 hbox hb;have n0_:=Aside0.mk (blk_below (g:=gb449) (o:=.cells #[.int .i64 a0_0,.int .i64 a0_1,.int .i64 a0_2,.slice A0_3 l0_3.length c0_3,.slice A0_4 l0_4.length c0_4] 27 (0,0)) (by (with_reducible repeat (first|refine blk_drewN ?_ _|refine blk_drew ?_|refine blk_alloc ?_ _));exact BK449.out) hb);have n1_:=Aside0.mk (below_step (by repeat (first|(with_reducible first|exact HB.out|apply below_alloc|apply pw_below_drewN|apply below_drew1|refine below_set ?_ GE449.out)|exact HB.out)) hb);have n2_:=Aside0.mk (hbox);have n3_:=Aside0.mk ((by rw [hg];exact (below_size (by repeat (first|(with_reducible first|exact HB.out|apply below_alloc|apply pw_below_drewN|apply below_drew1|refine below_set ?_ GE449.out)|exact HB.out))) : w.heap.size≤gb450));have n4_:=Aside0.mk ((by rw [hg];exact (below_size (by repeat (first|(with_reducible first|exact HB.out|apply below_alloc|apply pw_below_drewN|apply below_drew1|refine below_set ?_ GE449.out)|exact HB.out))) : w.heap.size≤gb450));have n5_:=Aside0.mk ((by rw [hg];exact Nat.ne_of_lt (blk_lt (g:=gb449) (o:=.cells #[.int .i64 a0_0,.int .i64 a0_1,.int .i64 a0_2,.slice A0_3 l0_3.length c0_3,.slice A0_4 l0_4.length c0_4] 27 (0,0)) (by (with_reducible repeat (first|refine blk_drewN ?_ _|refine blk_drew ?_|refine blk_alloc ?_ _));exact BK449.out)) : gb449≠gb450));have n6_:=Aside0.mk ((by rw [hg];exact Nat.ne_of_gt (blk_lt (g:=gb449) (o:=.cells #[.int .i64 a0_0,.int .i64 a0_1,.int .i64 a0_2,.slice A0_3 l0_3.length c0_3,.slice A0_4 l0_4.length c0_4] 27 (0,0)) (by (with_reducible repeat (first|refine blk_drewN ?_ _|refine blk_drew ?_|refine blk_alloc ?_ _));exact BK449.out)) : gb450≠gb449));clear BK449;clear HB;have BK449:=n0_;have HB:=n1_;have BK450:=n2_;have GW450:=n3_;have GE450:=n4_;have NB449_450:=n5_;have NB450_449:=n6_;clear n0_ n1_ n2_ n3_ n4_ n5_ n6_;clear hb hbox hg;have hnb31:=NB449_450.out;have hnc31:=NB450_449.out;have hcz32_0 : w30.cell? ⟨gb449,0,none⟩=some (.int .i64 a0_0):=(blk_cell BK449.out 0).trans rfl;have hcz32_1 : w30.cell? ⟨gb449,1,none⟩=some (.int .i64 a0_1):=(blk_cell BK449.out 1).trans rfl;have hcz32_2 : w30.cell? ⟨gb449,2,none⟩=some (.int .i64 a0_2):=(blk_cell BK449.out 2).trans rfl;have hcz32_3 : w30.cell? ⟨gb449,3,none⟩=some (.slice A0_3 l0_3.length c0_3):=(blk_cell BK449.out 3).trans rfl;have hcz32_4 : w30.cell? ⟨gb449,4,none⟩=some (.slice A0_4 l0_4.length c0_4):=(blk_cell BK449.out 4).trans rfl;have hfz32_0:=blk_frozen BK449.out 0;have hfz32_1:=blk_frozen BK449.out 1;have hfz32_2:=blk_frozen BK449.out 2;have hfz32_3:=blk_frozen BK449.out 3;have hfz32_4:=blk_frozen BK449.out 4;have hcz33_0 : w30.cell? ⟨gb450,0,none⟩=some (.int .i64 a1_0):=(blk_cell BK450.out 0).trans rfl;have hcz33_1 : w30.cell? ⟨gb450,1,none⟩=some (.int .i64 a1_1):=(blk_cell BK450.out 1).trans rfl;have hcz33_2 : w30.cell? ⟨gb450,2,none⟩=some (.int .i64 a1_2):=(blk_cell BK450.out 2).trans rfl;have hcz33_3 : w30.cell? ⟨gb450,3,none⟩=some (.slice A1_3 l1_3.length c1_3):=(blk_cell BK450.out 3).trans rfl;have hcz33_4 : w30.cell? ⟨gb450,4,none⟩=some (.slice A1_4 l1_4.length c1_4):=(blk_cell BK450.out 4).trans rfl;have hfz33_0:=blk_frozen BK450.out 0;have hfz33_1:=blk_frozen BK450.out 1;have hfz33_2:=blk_frozen BK450.out 2;have hfz33_3:=blk_frozen BK450.out 3;have hfz33_4:=blk_frozen BK450.out 4))
   go_ret
   exact ⟨by first|rfl|(simp [errW_none,errW_some] <;> rfl)|(simp [*,errW_none,errW_some] <;> rfl),by repeat (first|(with_reducible first|exact HB.out|apply below_alloc|apply pw_below_drewN|apply below_drew1|refine below_set ?_ GE449.out|refine below_set ?_ GE450.out)|exact HB.out)⟩
 ·rw [if_neg c3] at H
  have c3b0 : (a0_0 == a1_0)=false:=beq_eq_false_iff_ne.mpr c3
  have c3b1 : (a0_0 != a1_0)=true:=bne_iff_ne.mpr c3
  obtain rfl:=Option.some.inj H
  go_enter Try.func11,Try.ntmps11
  go_wp2_with (first|((with_reducible refine gate_dst (N:=2) rfl ?_);refine box_event ?hg (N:=2) ?hd (cs:=#[.int .i64 a0_0,.int .i64 a0_1,.int .i64 a0_2,.slice A0_3 l0_3.length c0_3,.slice A0_4 l0_4.length c0_4]) (t:=27) ?hr ?_;(case hd=>rfl);(case hg=>rfl);(case hr=>first|(go_simp;done)|(go_simp;(with_reducible rfl))|(go_simp;rfl)|(go_simp;have hu_ : ∀ x : Int,IntKind.u32.wrap x=HMod.hMod x (4294967296 : Int):=(fun x=>by simp only [IntKind.wrap,IntKind.bits,IntKind.signed];simp);simp only [hu_,Int.emod_sub_emod]));intro gb449 hg w34 hbox hb;have n0_:=Aside0.mk (below_step (by repeat (first|(with_reducible first|exact HB.out|apply below_alloc|apply pw_below_drewN|apply below_drew1)|exact HB.out)) hb);have n1_:=Aside0.mk (hbox);have n2_:=Aside0.mk ((by rw [hg];exact (below_size (by repeat (first|(with_reducible first|exact HB.out|apply below_alloc|apply pw_below_drewN|apply below_drew1)|exact HB.out))) : w.heap.size≤gb449));have n3_:=Aside0.mk ((by rw [hg];exact (below_size (by repeat (first|(with_reducible first|exact HB.out|apply below_alloc|apply pw_below_drewN|apply below_drew1)|exact HB.out))) : w.heap.size≤gb449));clear HB;have HB:=n0_;have BK449:=n1_;have GW449:=n2_;have GE449:=n3_;clear n0_ n1_ n2_ n3_;clear hb hbox hg)|((with_reducible refine gate_dst (N:=3) rfl ?_);refine box_event ?hg (N:=3) ?hd (cs:=#[.int .i64 a1_0,.int .i64 a1_1,.int .i64 a1_2,.slice A1_3 l1_3.length c1_3,.slice A1_4 l1_4.length c1_4]) (t:=27) ?hr ?_;(case hd=>rfl);(case hg=>rfl);(case hr=>first|(go_simp;done)|(go_simp;(with_reducible rfl))|(go_simp;rfl)|(go_simp;have hu_ : ∀ x : Int,IntKind.u32.wrap x=HMod.hMod x (4294967296 : Int):=(fun x=>by simp only [IntKind.wrap,IntKind.bits,IntKind.signed];simp);simp only [hu_,Int.emod_sub_emod]));intro gb450 hg w35 hbox hb;have n0_:=Aside0.mk (blk_below (g:=gb449) (o:=.cells #[.int .i64 a0_0,.int .i64 a0_1,.int .i64 a0_2,.slice A0_3 l0_3.length c0_3,.slice A0_4 l0_4.length c0_4] 27 (0,0)) (by (with_reducible repeat (first|refine blk_drewN ?_ _|refine blk_drew ?_|refine blk_alloc ?_ _));exact BK449.out) hb);have n1_:=Aside0.mk (below_step (by repeat (first|(with_reducible first|exact HB.out|apply below_alloc|apply pw_below_drewN|apply below_drew1|refine below_set ?_ GE449.out)|exact HB.out)) hb);have n2_:=Aside0.mk (hbox);have n3_:=Aside0.mk ((by rw [hg];exact (below_size (by repeat (first|(with_reducible first|exact HB.out|apply below_alloc|apply pw_below_drewN|apply below_drew1|refine below_set ?_ GE449.out)|exact HB.out))) : w.heap.size≤gb450));have n4_:=Aside0.mk ((by rw [hg];exact (below_size (by repeat (first|(with_reducible first|exact HB.out|apply below_alloc|apply pw_below_drewN|apply below_drew1|refine below_set ?_ GE449.out)|exact HB.out))) : w.heap.size≤gb450));have n5_:=Aside0.mk ((by rw [hg];exact Nat.ne_of_lt (blk_lt (g:=gb449) (o:=.cells #[.int .i64 a0_0,.int .i64 a0_1,.int .i64 a0_2,.slice A0_3 l0_3.length c0_3,.slice A0_4 l0_4.length c0_4] 27 (0,0)) (by (with_reducible repeat (first|refine blk_drewN ?_ _|refine blk_drew ?_|refine blk_alloc ?_ _));exact BK449.out)) : gb449≠gb450));have n6_:=Aside0.mk ((by rw [hg];exact Nat.ne_of_gt (blk_lt (g:=gb449) (o:=.cells #[.int .i64 a0_0,.int .i64 a0_1,.int .i64 a0_2,.slice A0_3 l0_3.length c0_3,.slice A0_4 l0_4.length c0_4] 27 (0,0)) (by (with_reducible repeat (first|refine blk_drewN ?_ _|refine blk_drew ?_|refine blk_alloc ?_ _));exact BK449.out)) : gb450≠gb449));clear BK449;clear HB;have BK449:=n0_;have HB:=n1_;have BK450:=n2_;have GW450:=n3_;have GE450:=n4_;have NB449_450:=n5_;have NB450_449:=n6_;clear n0_ n1_ n2_ n3_ n4_ n5_ n6_;clear hb hbox hg;have hnb36:=NB449_450.out;have hnc36:=NB450_449.out;have hcz37_0 : w35.cell? ⟨gb449,0,none⟩=some (.int .i64 a0_0):=(blk_cell BK449.out 0).trans rfl;have hcz37_1 : w35.cell? ⟨gb449,1,none⟩=some (.int .i64 a0_1):=(blk_cell BK449.out 1).trans rfl;have hcz37_2 : w35.cell? ⟨gb449,2,none⟩=some (.int .i64 a0_2):=(blk_cell BK449.out 2).trans rfl;have hcz37_3 : w35.cell? ⟨gb449,3,none⟩=some (.slice A0_3 l0_3.length c0_3):=(blk_cell BK449.out 3).trans rfl;have hcz37_4 : w35.cell? ⟨gb449,4,none⟩=some (.slice A0_4 l0_4.length c0_4):=(blk_cell BK449.out 4).trans rfl;have hfz37_0:=blk_frozen BK449.out 0;have hfz37_1:=blk_frozen BK449.out 1;have hfz37_2:=blk_frozen BK449.out 2;have hfz37_3:=blk_frozen BK449.out 3;have hfz37_4:=blk_frozen BK449.out 4;have hcz38_0 : w35.cell? ⟨gb450,0,none⟩=some (.int .i64 a1_0):=(blk_cell BK450.out 0).trans rfl;have hcz38_1 : w35.cell? ⟨gb450,1,none⟩=some (.int .i64 a1_1):=(blk_cell BK450.out 1).trans rfl;have hcz38_2 : w35.cell? ⟨gb450,2,none⟩=some (.int .i64 a1_2):=(blk_cell BK450.out 2).trans rfl;have hcz38_3 : w35.cell? ⟨gb450,3,none⟩=some (.slice A1_3 l1_3.length c1_3):=(blk_cell BK450.out 3).trans rfl;have hcz38_4 : w35.cell? ⟨gb450,4,none⟩=some (.slice A1_4 l1_4.length c1_4):=(blk_cell BK450.out 4).trans rfl;have hfz38_0:=blk_frozen BK450.out 0;have hfz38_1:=blk_frozen BK450.out 1;have hfz38_2:=blk_frozen BK450.out 2;have hfz38_3:=blk_frozen BK450.out 3;have hfz38_4:=blk_frozen BK450.out 4))
  go_ret
  exact ⟨by first|rfl|(simp [errW_none,errW_some] <;> rfl)|(simp [*,errW_none,errW_some] <;> rfl),by repeat (first|(with_reducible first|exact HB.out|apply below_alloc|apply pw_below_drewN|apply below_drew1|refine below_set ?_ GE449.out|refine below_set ?_ GE450.out)|exact HB.out)⟩
end Go.Proofs.Ytjiaobcoeegioaa.Pq
end
section
namespace Go.Proofs.Ytjiaobcoeegioaa.N
open Go Go.RowKit Go.Proofs.YtjiaobcoeegioaaW.PrintWords Go.Proofs.YtjiaobcoeegioaaW.PrintLast Go.Proofs.YtjiaobcoeegioaaW.PrintMore Go.Proofs.Ytjiaobcoeegioaa.Pq
set_option linter.unusedVariables false
set_option linter.unusedSimpArgs false
theorem is03 {neg : Bool} {a b : List Int} (ha : a.length < 4611686018427387904) (hb : b.length < 4611686018427387904) : Ev (fun k=>penumbraref03_Is.f k neg a b neg a b) true:=by
 unfold penumbraref03_Is.f
 refine Ev_pos (by simp) ?_
 refine Ev.bind (same_f ha) ?_
 refine Ev_pos rfl ?_
 exact Ev.bind (same_f hb) (Ev.now _)
theorem same09_l {xs : List RatS} (hl : xs.length < 4611686018427387904) (hx : ∀ x∈xs,x.f1.length < 4611686018427387904∧x.f2.length < 4611686018427387904) : ∀ (d i : Nat),xs.length - i=d→i≤xs.length→Ev (fun k=>penumbraref09_Same.l0 k xs xs (i : Int)) true:=by
 intro d
 induction d with
|zero =>
  intro i hd hi
  obtain rfl : i=xs.length:=by omega
  refine Ev_up ?_
  simp only [penumbraref09_Same.l0]
  exact Ev_neg (by omega) (Ev.now _)
|succ d ih =>
  intro i hd hi
  have h1 : i < xs.length:=by omega
  have g1 : (i : Int) < (xs.length : Int):=by omega
  have g2 : 0≤(i : Int):=by omega
  have hw : wrap64 ((i : Int)+1)=((i+1 : Nat) : Int):=by clear ih hx;unfold wrap64;omega
  have r1 : rd_T63 xs (i : Int)=xs[i]:=by unfold rd_T63;rw [Int.toNat_natCast,List.getD_eq_getElem?_getD,List.getElem?_eq_getElem h1];rfl
  obtain ⟨h3,h4⟩:=hx xs[i] (List.getElem_mem _)
  refine Ev_up ?_
  simp only [penumbraref09_Same.l0]
  refine Ev_pos g1 (Ev_pos g2 (Ev_pos g1 ?_))
  rw [r1,hw]
  refine Ev.bind (is03 h3 h4) ?_
  exact Ev_pos rfl (ih (i+1) (by omega) (by omega))
theorem same09 {xs : List RatS} (hl : xs.length < 4611686018427387904) (hx : ∀ x∈xs,x.f1.length < 4611686018427387904∧x.f2.length < 4611686018427387904) : Ev (fun k=>penumbraref09_Same.f k xs xs) true:=by
 unfold penumbraref09_Same.f
 exact Ev_pos rfl (same09_l hl hx xs.length 0 rfl (Nat.zero_le _))
theorem is20 {W h b : Int} {xs ys : List RatS} (hl : xs.length < 4611686018427387904) (hx : ∀ x∈xs,x.f1.length < 4611686018427387904∧x.f2.length < 4611686018427387904) (hl2 : ys.length < 4611686018427387904) (hy : ∀ x∈ys,x.f1.length < 4611686018427387904∧x.f2.length < 4611686018427387904) : Ev (fun k=>penumbraref20_Is.f k W h b xs ys W h b xs ys) true:=by
 unfold penumbraref20_Is.f
 refine Ev_pos rfl (Ev_pos rfl (Ev_pos rfl ?_))
 refine Ev.bind (same09 hl hx) ?_
 refine Ev_pos rfl ?_
 exact Ev.bind (same09 hl2 hy) (Ev.now _)
theorem ints_l {xs : List Int} (hl : xs.length < 4611686018427387904) : ∀ (d i : Nat),xs.length - i=d→i≤xs.length→Ev (fun k=>penumbraref15_Ints.l0 k xs xs (i : Int)) true:=by
 intro d
 induction d with
|zero =>
  intro i hd hi
  obtain rfl : i=xs.length:=by omega
  refine Ev_up ?_
  simp only [penumbraref15_Ints.l0]
  exact Ev_neg (by omega) (Ev.now _)
|succ d ih =>
  intro i hd hi
  have g1 : (i : Int) < (xs.length : Int):=by omega
  have g2 : 0≤(i : Int):=by omega
  have hw : wrap64 ((i : Int)+1)=((i+1 : Nat) : Int):=by clear ih;unfold wrap64;omega
  refine Ev_up ?_
  simp only [penumbraref15_Ints.l0]
  refine Ev_pos g1 (Ev_pos g2 (Ev_pos g1 (Ev_pos trivial ?_)))
  rw [hw]
  exact ih (i+1) (by omega) (by omega)
theorem ints15 {xs : List Int} (hl : xs.length < 4611686018427387904) : Ev (fun k=>penumbraref15_Ints.f k xs xs) true:=by
 unfold penumbraref15_Ints.f
 exact Ev_pos rfl (ints_l hl xs.length 0 rfl (Nat.zero_le _))
theorem mkR_len (q : Rat) : (mkR q).f1.length≤sz1 q∧(mkR q).f2.length≤sz1 q:=⟨Nat.le_max_left _ _,Nat.le_max_right _ _⟩
theorem isQ {W h b : Int} {q : QF} {M : Nat} (hM : M < 4611686018427387904) (h1 : q.a.length=M) (h2 : q.b.length=M) (hs : q.sz < 10000000) : Ev (fun k=>penumbraref20_Is.f k W h b (q.a.map mkR) (q.b.map mkR) W h b (q.a.map mkR) (q.b.map mkR)) true:=by
 have hx : ∀ l : List Rat,szL l < 10000000 → ∀ x∈l.map mkR,x.f1.length < 4611686018427387904∧x.f2.length < 4611686018427387904:=fun l hl x hx=>by
  obtain ⟨p,hp,rfl⟩:=List.mem_map.mp hx
  have h3:=szL_mem hp
  obtain ⟨h4,h5⟩:=mkR_len p
  exact ⟨by omega,by omega⟩
 have h3 : szL q.a≤q.sz:=Nat.le_max_left _ _
 have h4 : szL q.b≤q.sz:=Nat.le_max_right _ _
 exact is20 (by rw [List.length_map];omega) (hx _ (by omega)) (by rw [List.length_map];omega) (hx _ (by omega))
end Go.Proofs.Ytjiaobcoeegioaa.N
end
section
namespace Go.Proofs.Ytjiaobcoeegioaa.Pq
open Go.RowKit Go.Proofs.YtjiaobcoeegioaaW.PrintWords Go.Proofs.YtjiaobcoeegioaaW.PrintLast Go.Proofs.YtjiaobcoeegioaaW.PrintMore Go.Proofs.Ytjiaobcoeegioaa.N
set_option linter.unusedVariables false
set_option linter.unusedSimpArgs false
theorem isM {q : QF} {W h b : Int} {M : Nat} (hM : (M : Int)=W * h * b) (hf : q.fits W h b) (hq : q.sz < 10000000) {A A2 B B2 : Option Addr} {c c2 d d2 : Nat} (l1 : M≤c) (l2 : M≤c2) (l3 : M≤d) (l4 : M≤d2) {w : World} (hm : M≤2048) (h1 : Kd.C k63 w A M (q.a.map mkR)) (h2 : Kd.C k63 w A2 M (q.b.map mkR)) (h3 : Kd.C k63 w B M (q.a.map mkR)) (h4 : Kd.C k63 w B2 M (q.b.map mkR)) :
  Calls Try.prog 11 #[.agg #[.int .i64 W,.int .i64 h,.int .i64 b,.slice A M c,.slice A2 M c2],.agg #[.int .i64 W,.int .i64 h,.int .i64 b,.slice B M d,.slice B2 M d2]] w fun e w'=>e=.returned (.bool true)∧Below w.heap.size w w':=by
 obtain ⟨e1,e2⟩:=q_len hM hf
 obtain ⟨k,hk⟩:=(isQ (W:=W) (h:=h) (b:=b) (M:=M) (q:=q) (by omega) (by rw [← e1,List.length_map]) (by rw [← e2,List.length_map]) hq).rounds
 have h:=penumbraref20_Is.calls k W h b A c (q.a.map mkR) A2 c2 (q.b.map mkR) W h b B d (q.a.map mkR) B2 d2 (q.b.map mkR) true w (by rw [e1];exact h1) (by omega) (by rw [e2];exact h2) (by omega) (by rw [e1];exact h3) (by omega) (by rw [e2];exact h4) (by omega) hk
 rw [e1,e2] at h
 exact h
theorem IRow.reads {w : World} {base : Nat} {A : Option Addr} {n c : Nat} {xs : List Int} (h : IRow w base (.slice A n c) xs) : n=xs.length∧n≤c∧(Kd.int .i64).C w A xs.length xs:=by
 obtain ⟨A',c',e,hl,hr⟩:=own_reads_of_le (enc:=Value.int .i64) (d:=(0 : Int)) h
 injection e with e1 e2 e3
 subst e1 e2 e3
 exact ⟨rfl,hl,Kd.C_of_reads (h1:=fun _=>rfl) hr⟩
theorem intsM {A B : Option Addr} {n c m d : Nat} {xs : List Int} {w : World} (hn : n=xs.length) (hm : m=xs.length) (l1 : n≤c) (l2 : m≤d) (hl : xs.length < 4611686018427387904) (h1 : (Kd.int .i64).C w A xs.length xs) (h2 : (Kd.int .i64).C w B xs.length xs) :
  Calls Try.prog 12 #[.slice A n c,.slice B m d] w fun e w'=>e=.returned (.bool true)∧Below w.heap.size w w':=by
 subst hn hm
 obtain ⟨k,hk⟩:=(ints15 (xs:=xs) hl).rounds
 refine (penumbraref15_Ints.calls k A c xs B d xs true w h1 l1 h2 l2 hk).mono ?_
 rintro e w' ⟨he,n,rfl⟩
 exact ⟨he,pw_below_drewN (Below.refl _ _) _⟩
theorem picks5 (w : World) : (Kd.int .i64).C (w.alloc (.cells #[.int .i64 0,.int .i64 1,.int .i64 1,.int .i64 1,.int .i64 1] 3)) (some ⟨w.heap.size,0,none⟩) 5 [0,1,1,1,1]:=by
 have h:=own_lit w w.heap.size 3 .i64 [0,1,1,1,1] (Nat.le_refl _) (by decide)
 obtain ⟨_,_,h3⟩:=IRow.reads (xs:=[0,1,1,1,1]) h
 exact h3
theorem ints2 {a b : Int} {w : World} {base : Nat} {A : Option Addr} {c : Nat} (hi : IRow w base (.slice A 2 c) [a,b]) :
  Calls Try.prog 12 #[.slice A 2 c,.slice (some ⟨w.heap.size,0,none⟩) 2 2] (w.alloc (.cells #[.int .i64 a,.int .i64 b] 3)) fun e w'=>e=.returned (.bool true)∧Below w.heap.size w w':=by
 have hb:=below_alloc (Below.refl w.heap.size w) (.cells #[.int .i64 a,.int .i64 b] 3)
 have h:=own_lit w w.heap.size 3 .i64 [a,b] (Nat.le_refl _) (by simp)
 obtain ⟨_,_,h3⟩:=IRow.reads (xs:=[a,b]) h
 obtain ⟨_,l1,h4⟩:=IRow.reads hi
 refine (intsM (xs:=[a,b]) (n:=2) (m:=2) rfl rfl l1 (Nat.le_refl _) (by simp) (Kd.C_below h4 hb) h3).mono ?_
 rintro e w' ⟨he,hb2⟩
 exact ⟨he,below_step hb hb2⟩
theorem isRows {q : QF} {W h b : Int} {M : Nat} (hM : (M : Int)=W * h * b) (hm : M≤2048) (hf : q.fits W h b) (hq : q.sz < 10000000) {w : World} {n n' : Nat} {x x2 y y2 : Addr} {c c2 d d2 : Nat} (h1 : Rows w n q x c x2 c2∧M≤c∧M≤c2) (h2 : Rows w n' q y d y2 d2∧M≤d∧M≤d2) :
  Calls Try.prog 11 #[.agg #[.int .i64 W,.int .i64 h,.int .i64 b,.slice (some x) M c,.slice (some x2) M c2],.agg #[.int .i64 W,.int .i64 h,.int .i64 b,.slice (some y) M d,.slice (some y2) M d2]] w fun e w'=>e=.returned (.bool true)∧Below w.heap.size w w':=by
 obtain ⟨e1,e2⟩:=q_len hM hf
 have r1:=(ORow.reads h1.1.a).2.now (W:=w)
 have r2:=(ORow.reads h1.1.b).2.now (W:=w)
 have r3:=(ORow.reads h2.1.a).2.now (W:=w)
 have r4:=(ORow.reads h2.1.b).2.now (W:=w)
 rw [e1] at r1 r3
 rw [e2] at r2 r4
 exact isM hM hf hq h1.2.1 h1.2.2 h2.2.1 h2.2.2 hm r1 r2 r3 r4
structure TwoQ (q1 q2 : QF) : Prop where
 f1 : q1.fits 1 1 1
 f2 : q2.fits 1 1 1
 z1 : q1.sz < 1000
 z2 : q2.sz < 1000
theorem play_two {q1 q2 : QF} (H : TwoQ q1 q2) (k : Nat) (hk : 1≤k∧k≤64) (A0 : Option Addr) (c0 : Nat) (w : World) (hr : Kd.C k27 w A0 2 ([q1,q2].map (mkF 1 1 1))) (picks : List Int) (Ap : Option Addr) (cp : Nat) (hp : (Kd.int .i64).C w Ap picks.length picks) {done : List Int} (hd : (PS.after 2 k picks 8).done.map Int.ofNat=done) (hl : done.length=2) :
  Calls Try.prog 9 #[.slice A0 2 c0,.int .i64 k,.slice Ap picks.length cp] w fun e w'=>∃ ad c ad2 c2 Ad cd,e=.returned (.tuple #[.agg #[.int .i64 1,.int .i64 1,.int .i64 1,.slice (some ad) 1 c,.slice (some ad2) 1 c2],.slice Ad 2 cd,.int .i64 8,.bool true])∧1≤c∧1≤c2∧Rows w' w.heap.size (q1.add q2) ad c ad2 c2∧IRow w' w.heap.size (.slice Ad 2 cd) done∧Below w.heap.size w w':=by
 have hc1:=chkF_mkF s111 H.f1
 have hc2:=chkF_mkF s111 H.f2
 have hmay : mayB ([q1,q2].map (mkF 1 1 1)) k=true:=by
  refine (mayB_iff (by simp)).mpr ⟨by simp,by omega,by omega,fun i hi=>?_⟩
  have : i=0∨i=1:=by simp at hi;omega
  rcases this with rfl|rfl
  ·show good (mkF 1 1 1 q1) (mkF 1 1 1 q1)=true
   unfold good
   rw [hc1]
   rfl
  ·show good (mkF 1 1 1 q1) (mkF 1 1 1 q2)=true
   unfold good
   rw [hc2]
   rfl
 have hqs : ([q1,q2].map (mkF 1 1 1)).map qF=[q1,q2]:=by
  show [qF (mkF 1 1 1 q1),qF (mkF 1 1 1 q2)]=_
  rw [qF_mkF,qF_mkF]
 have h1:=H.z1
 have h2:=H.z2
 have hw : ∀ F∈[q1,q2].map (mkF 1 1 1),WfF 1000 F:=fun F hF=>by
  obtain ⟨q,hq,rfl⟩:=List.mem_map.mp hF
  have hz : q.sz≤1000:=by
   rcases List.mem_cons.mp hq with rfl|hq
   ·omega
   ·rcases List.mem_cons.mp hq with rfl|hq
    ·omega
    ·cases hq
  exact ⟨fun x hx=>((wfF_mkF 1 1 1 q).1 x hx).up hz,fun x hx=>((wfF_mkF 1 1 1 q).2 x hx).up hz⟩
 refine (play_sem (n0:=1000) (Fs:=[q1,q2].map (mkF 1 1 1)) (by decide) hw k (by omega) (by rw [hqs];unfold tot;simp only [List.map_cons,List.map_nil,List.sum_cons,List.sum_nil];omega) A0 c0 w hr picks Ap cp hp).mono ?_
 rintro e w' ⟨hb,⟨hno,_⟩|⟨_,W,h,b,M,hs,hM,hF,ad,c,ad2,c2,dv,he,l1,l2,hrw,hi⟩⟩
 ·rw [hmay] at hno
  cases hno
 ·obtain ⟨e1,e2,e3⟩:=hF (mkF 1 1 1 q1) (by simp)
  change (1 : Int)=W at e1
  change (1 : Int)=h at e2
  change (1 : Int)=b at e3
  subst e1 e2 e3
  obtain rfl : M=1:=by omega
  rw [hqs] at hrw
  rw [show ([q1,q2].map (mkF 1 1 1)).length=2 from rfl,Int.toNat_natCast] at hi
  change IRow w' w.heap.size dv ((PS.after 2 k picks 8).done.map Int.ofNat) at hi
  rw [hd] at hi
  obtain ⟨Ad,cd,rfl⟩:=own_slice hi
  rw [hl] at hi he
  exact ⟨ad,c,ad2,c2,Ad,cd,he,l1,l2,hrw,hi,hb⟩
theorem play_a {q1 q2 : QF} (H : TwoQ q1 q2) {A0 : Option Addr} {c0 : Nat} {w : World} (hr : Kd.C k27 w A0 2 ([q1,q2].map (mkF 1 1 1))) :
  Calls Try.prog 9 #[.slice A0 2 c0,.int .i64 1,.slice none 0 0] w fun e w'=>∃ ad c ad2 c2 Ad cd,e=.returned (.tuple #[.agg #[.int .i64 1,.int .i64 1,.int .i64 1,.slice (some ad) 1 c,.slice (some ad2) 1 c2],.slice Ad 2 cd,.int .i64 8,.bool true])∧1≤c∧1≤c2∧Rows w' w.heap.size (q1.add q2) ad c ad2 c2∧IRow w' w.heap.size (.slice Ad 2 cd) [0,1]∧Below w.heap.size w w' :=
 play_two H 1 (by decide) A0 c0 w hr [] none 0 (Kd.C_nil _ _) (by decide) rfl
theorem play_b {q1 q2 : QF} (H : TwoQ q1 q2) {A0 : Option Addr} {c0 : Nat} {w : World} (hr : Kd.C k27 w A0 2 ([q1,q2].map (mkF 1 1 1))) {Ap : Option Addr} (hp : (Kd.int .i64).C w Ap 5 [0,1,1,1,1]) :
  Calls Try.prog 9 #[.slice A0 2 c0,.int .i64 2,.slice Ap 5 5] w fun e w'=>∃ ad c ad2 c2 Ad cd,e=.returned (.tuple #[.agg #[.int .i64 1,.int .i64 1,.int .i64 1,.slice (some ad) 1 c,.slice (some ad2) 1 c2],.slice Ad 2 cd,.int .i64 8,.bool true])∧1≤c∧1≤c2∧Rows w' w.heap.size (q1.add q2) ad c ad2 c2∧IRow w' w.heap.size (.slice Ad 2 cd) [1,0]∧Below w.heap.size w w' :=
 play_two H 2 (by decide) A0 c0 w hr [0,1,1,1,1] Ap 5 hp (by decide) rfl
theorem play_none (w : World) :
  Calls Try.prog 9 #[.slice none 0 0,.int .i64 1,.slice none 0 0] w fun e w'=>NoPlay e∧Below w.heap.size w w':=by
 refine (play_sem (n0:=0) (Fs:=[]) (by decide) (fun F hF=>by cases hF) 1 (by decide) (by decide) none 0 w (Kd.C_nil _ _) [] none 0 (Kd.C_nil _ _)).mono ?_
 rintro e w' ⟨hb,⟨_,hno⟩|⟨h,_⟩⟩
 ·exact ⟨hno,hb⟩
 ·cases h
set_option maxHeartbeats 4000000 in
set_option maxRecDepth 100000 in
theorem fixed_sem {p r p2 r2 : Rat} {u v u2 v2 : S63} (hu : mkR (qv false 1 2)=u∧mkR p=u∧sz1 p < 10000000) (hv : mkR (qv false 0 1)=v∧mkR r=v∧sz1 r < 10000000) (hu2 : mkR (qv false 1 3)=u2∧mkR p2=u2∧sz1 p2 < 10000000) (hv2 : mkR (qv false 2 1)=v2∧mkR r2=v2∧sz1 r2 < 10000000) {q1 q2 : QF} (h1 : addQ (zeroQ 1) 0 p r=q1) (h2 : addQ (zeroQ 1) 0 p2 r2=q2) (H : TwoQ q1 q2) (w : World) :
  Calls Try.prog 8 #[] w fun e w'=>e=.returned (.bool true)∧Below w.heap.size w w':=by
 have two : ∀ w : World,Calls Try.prog 15 #[] w fun e w'=>∃ g,e=.returned (.slice (some ⟨g,0,none⟩) 2 2)∧Kd.C k27 w' (some ⟨g,0,none⟩) 2 ([q1,q2].map (mkF 1 1 1))∧Below w.heap.size w w':=fun w=>by
  have h:=two_sem hu hv hu2 hv2 w
  rw [h1,h2] at h
  exact h
 have HT:=Aside0.mk two
 have HQ:=Aside0.mk H
 have hz:=H.z1
 have hz2:=H.z2
 have hfq : ∀ x∈[q1,q2],x.fits 1 1 1:=fun x hx=>by
  rcases List.mem_cons.mp hx with rfl|hx
  ·exact H.f1
  ·rcases List.mem_cons.mp hx with rfl|hx
   ·exact H.f2
   ·cases hx
 have HF:=Aside0.mk (show (∀ x∈[q1,q2],x.fits 1 1 1)∧tot [q1,q2] < 10000000 from ⟨hfq,by unfold tot;simp only [List.map_cons,List.map_nil,List.sum_cons,List.sum_nil];omega⟩)
 have HA : Aside0 ((q1.add q2).fits 1 1 1∧(q1.add q2).sz < 10000000):=⟨QF.fits_add H.f1 H.f2,by have:=QF.sz_add q1 q2;omega⟩
 clear hu hv hu2 hv2 h1 h2 H two hz hz2 hfq
 go_enter Try.func8,Try.ntmps8
 go_upto_region 2 with (first
 |(go_at_call 15;(with_reducible refine (HT.out _).mono ?_);rintro e w1 ⟨g,rfl,hk,hb⟩;have HK:=Aside0.mk hk;have HB:=Aside0.mk hb;clear hk hb)
 |(go_at_call 14;(with_reducible refine (filmsum2 (M:=1) s111 (by decide) HF.out.1 HF.out.2 HK.out).mono ?_);rintro e w2 ⟨sa,sc,sa2,sc2,rfl,lc,lc2,hrw,hb⟩;have HR1:=Aside0.mk (And.intro (hrw.lower (Nat.zero_le _)) (And.intro lc lc2));replace HB:=Aside0.mk (below_step HB.out hb);clear hrw lc lc2 hb HK))
 have hb:=below_alloc (Below.refl w2.heap.size w2) (.cells #[.int .i64 1,.int .i64 1,.int .i64 1,.slice (some sa) 1 sc,.slice (some sa2) 1 sc2] 27)
 replace HB:=Aside0.mk (below_step HB.out hb)
 replace HR1:=Aside0.mk (And.intro (HR1.out.1.below hb) HR1.out.2)
 have B1:=Aside0.mk (blk_new w2 (.cells #[.int .i64 1,.int .i64 1,.int .i64 1,.slice (some sa) 1 sc,.slice (some sa2) 1 sc2] 27))
 obtain ⟨wa,hwa⟩ : ∃ z,w2.alloc (.cells #[.int .i64 1,.int .i64 1,.int .i64 1,.slice (some sa) 1 sc,.slice (some sa2) 1 sc2] 27)=z:=⟨_,rfl⟩
 obtain ⟨G1,hG⟩ : ∃ z,w2.heap.size=z:=⟨_,rfl⟩
 rw [hwa] at HB HR1 B1 ⊢
 rw [hG] at B1 ⊢
 clear hwa hG hb
 go_upto_region 3 with (first
 |(go_at_call 15;(with_reducible refine (HT.out _).mono ?_);rintro e w1 ⟨g,rfl,hk,hb⟩;have HK:=Aside0.mk hk;replace HB:=Aside0.mk (below_step HB.out hb);replace HR1:=Aside0.mk (And.intro (HR1.out.1.below hb) HR1.out.2);replace B1:=Aside0.mk (blk_below B1.out hb);clear hk hb)
 |(go_at_call 9;(with_reducible refine (play_a HQ.out HK.out).mono ?_);rintro e w2 ⟨fa,fc,fa2,fc2,Fd,fd,rfl,lc,lc2,hrw,hi,hb⟩;have HR3:=Aside0.mk (And.intro (hrw.lower (Nat.zero_le _)) (And.intro lc lc2));have HI3:=Aside0.mk hi;replace HB:=Aside0.mk (below_step HB.out hb);replace HR1:=Aside0.mk (And.intro (HR1.out.1.below hb) HR1.out.2);replace B1:=Aside0.mk (blk_below B1.out hb);clear hrw lc lc2 hb HK hi))
 have hb:=below_alloc (Below.refl w2.heap.size w2) (.cells #[.int .i64 1,.int .i64 1,.int .i64 1,.slice (some fa) 1 fc,.slice (some fa2) 1 fc2] 27)
 replace HB:=Aside0.mk (below_step HB.out hb)
 replace HR1:=Aside0.mk (And.intro (HR1.out.1.below hb) HR1.out.2)
 replace B1:=Aside0.mk (blk_below B1.out hb)
 replace HR3:=Aside0.mk (And.intro (HR3.out.1.below hb) HR3.out.2)
 replace HI3:=Aside0.mk (pw_own_below HI3.out hb)
 have B3:=Aside0.mk (blk_new w2 (.cells #[.int .i64 1,.int .i64 1,.int .i64 1,.slice (some fa) 1 fc,.slice (some fa2) 1 fc2] 27))
 obtain ⟨wa,hwa⟩ : ∃ z,w2.alloc (.cells #[.int .i64 1,.int .i64 1,.int .i64 1,.slice (some fa) 1 fc,.slice (some fa2) 1 fc2] 27)=z:=⟨_,rfl⟩
 obtain ⟨G3,hG⟩ : ∃ z,w2.heap.size=z:=⟨_,rfl⟩
 rw [hwa] at HB HR1 B1 HR3 HI3 B3 ⊢
 rw [hG] at B3 ⊢
 clear hwa hG hb
 go_upto_region 4 with (first
 |(go_at_call 15;(with_reducible refine (HT.out _).mono ?_);rintro e w1 ⟨g,rfl,hk,hb⟩;have HK:=Aside0.mk hk;replace HB:=Aside0.mk (below_step HB.out hb);replace HR1:=Aside0.mk (And.intro (HR1.out.1.below hb) HR1.out.2);replace B1:=Aside0.mk (blk_below B1.out hb);replace HR3:=Aside0.mk (And.intro (HR3.out.1.below hb) HR3.out.2);replace HI3:=Aside0.mk (pw_own_below HI3.out hb);replace B3:=Aside0.mk (blk_below B3.out hb);clear hk hb)
 |(go_at_call 9;have hb:=below_alloc (Below.refl w1.heap.size w1) (.cells #[.int .i64 0,.int .i64 1,.int .i64 1,.int .i64 1,.int .i64 1] 3);(with_reducible refine (play_b HQ.out (Kd.C_below HK.out hb) (picks5 w1)).mono ?_);replace HB:=Aside0.mk (below_step HB.out hb);replace HR1:=Aside0.mk (And.intro (HR1.out.1.below hb) HR1.out.2);replace B1:=Aside0.mk (blk_below B1.out hb);replace HR3:=Aside0.mk (And.intro (HR3.out.1.below hb) HR3.out.2);replace HI3:=Aside0.mk (pw_own_below HI3.out hb);replace B3:=Aside0.mk (blk_below B3.out hb);clear hb;rintro e w2 ⟨ga,gc,ga2,gc2,Gd,gd,rfl,lc,lc2,hrw,hi,hb⟩;have HR7:=Aside0.mk (And.intro (hrw.lower (Nat.zero_le _)) (And.intro lc lc2));have HI7:=Aside0.mk hi;replace HB:=Aside0.mk (below_step HB.out hb);replace HR1:=Aside0.mk (And.intro (HR1.out.1.below hb) HR1.out.2);replace B1:=Aside0.mk (blk_below B1.out hb);replace HR3:=Aside0.mk (And.intro (HR3.out.1.below hb) HR3.out.2);replace HI3:=Aside0.mk (pw_own_below HI3.out hb);replace B3:=Aside0.mk (blk_below B3.out hb);clear hrw lc lc2 hb HK hi))
 have hb:=below_alloc (Below.refl w2.heap.size w2) (.cells #[.int .i64 1,.int .i64 1,.int .i64 1,.slice (some ga) 1 gc,.slice (some ga2) 1 gc2] 27)
 replace HB:=Aside0.mk (below_step HB.out hb)
 replace HR1:=Aside0.mk (And.intro (HR1.out.1.below hb) HR1.out.2)
 replace B1:=Aside0.mk (blk_below B1.out hb)
 replace HR3:=Aside0.mk (And.intro (HR3.out.1.below hb) HR3.out.2)
 replace HI3:=Aside0.mk (pw_own_below HI3.out hb)
 replace B3:=Aside0.mk (blk_below B3.out hb)
 replace HR7:=Aside0.mk (And.intro (HR7.out.1.below hb) HR7.out.2)
 replace HI7:=Aside0.mk (pw_own_below HI7.out hb)
 have B7:=Aside0.mk (blk_new w2 (.cells #[.int .i64 1,.int .i64 1,.int .i64 1,.slice (some ga) 1 gc,.slice (some ga2) 1 gc2] 27))
 obtain ⟨wa,hwa⟩ : ∃ z,w2.alloc (.cells #[.int .i64 1,.int .i64 1,.int .i64 1,.slice (some ga) 1 gc,.slice (some ga2) 1 gc2] 27)=z:=⟨_,rfl⟩
 obtain ⟨G7,hG⟩ : ∃ z,w2.heap.size=z:=⟨_,rfl⟩
 rw [hwa] at HB HR1 B1 HR3 HI3 B3 HR7 HI7 B7 ⊢
 rw [hG] at B7 ⊢
 clear hwa hG hb
 go_upto_region 5 with (first
 |(go_at_call 9;(with_reducible refine (play_none _).mono ?_);rintro e w2 ⟨hno,hb⟩;unfold NoPlay at hno;subst hno;replace HB:=Aside0.mk (below_step HB.out hb);replace HR1:=Aside0.mk (And.intro (HR1.out.1.below hb) HR1.out.2);replace B1:=Aside0.mk (blk_below B1.out hb);replace HR3:=Aside0.mk (And.intro (HR3.out.1.below hb) HR3.out.2);replace HI3:=Aside0.mk (pw_own_below HI3.out hb);replace B3:=Aside0.mk (blk_below B3.out hb);replace HR7:=Aside0.mk (And.intro (HR7.out.1.below hb) HR7.out.2);replace HI7:=Aside0.mk (pw_own_below HI7.out hb);replace B7:=Aside0.mk (blk_below B7.out hb);clear hb))
 have hb:=below_alloc (Below.refl w2.heap.size w2) (.cells #[.int .i64 0,.int .i64 0,.int .i64 0,.slice none 0 0,.slice none 0 0] 27)
 replace HB:=Aside0.mk (below_step HB.out hb)
 replace HR1:=Aside0.mk (And.intro (HR1.out.1.below hb) HR1.out.2)
 replace B1:=Aside0.mk (blk_below B1.out hb)
 replace HR3:=Aside0.mk (And.intro (HR3.out.1.below hb) HR3.out.2)
 replace HI3:=Aside0.mk (pw_own_below HI3.out hb)
 replace B3:=Aside0.mk (blk_below B3.out hb)
 replace HR7:=Aside0.mk (And.intro (HR7.out.1.below hb) HR7.out.2)
 replace HI7:=Aside0.mk (pw_own_below HI7.out hb)
 replace B7:=Aside0.mk (blk_below B7.out hb)
 obtain ⟨wa,hwa⟩ : ∃ z,w2.alloc (.cells #[.int .i64 0,.int .i64 0,.int .i64 0,.slice none 0 0,.slice none 0 0] 27)=z:=⟨_,rfl⟩
 rw [hwa] at HB HR1 B1 HR3 HI3 B3 HR7 HI7 B7 ⊢
 clear hwa hb
 have q1:=cells5 B1.out
 have q3:=cells5 B3.out
 have q7:=cells5 B7.out
 go_wp2_with (first
 |(go_at_call 12;(with_reducible refine (ints2 (a:=0) (b:=1) HI3.out).mono ?_);rintro e w3 ⟨rfl,hb⟩;replace HB:=Aside0.mk (below_step HB.out hb);replace HR1:=Aside0.mk (And.intro (HR1.out.1.below hb) HR1.out.2);replace B1:=Aside0.mk (blk_below B1.out hb);replace HR3:=Aside0.mk (And.intro (HR3.out.1.below hb) HR3.out.2);replace HI3:=Aside0.mk (pw_own_below HI3.out hb);replace B3:=Aside0.mk (blk_below B3.out hb);replace HR7:=Aside0.mk (And.intro (HR7.out.1.below hb) HR7.out.2);replace HI7:=Aside0.mk (pw_own_below HI7.out hb);replace B7:=Aside0.mk (blk_below B7.out hb);clear q1 q3 q7 hb;have q1:=cells5 B1.out;have q3:=cells5 B3.out;have q7:=cells5 B7.out)
 |(go_at_call 12;(with_reducible refine (ints2 (a:=1) (b:=0) HI7.out).mono ?_);rintro e w4 ⟨rfl,hb⟩;replace HB:=Aside0.mk (below_step HB.out hb);replace HR1:=Aside0.mk (And.intro (HR1.out.1.below hb) HR1.out.2);replace B1:=Aside0.mk (blk_below B1.out hb);replace HR3:=Aside0.mk (And.intro (HR3.out.1.below hb) HR3.out.2);replace HI3:=Aside0.mk (pw_own_below HI3.out hb);replace B3:=Aside0.mk (blk_below B3.out hb);replace HR7:=Aside0.mk (And.intro (HR7.out.1.below hb) HR7.out.2);replace HI7:=Aside0.mk (pw_own_below HI7.out hb);replace B7:=Aside0.mk (blk_below B7.out hb);clear q1 q3 q7 hb;have q1:=cells5 B1.out;have q3:=cells5 B3.out;have q7:=cells5 B7.out)
 |(go_at_call 11;(with_reducible refine (isRows (M:=1) (by decide) (by decide) HA.out.1 HA.out.2 HR3.out HR1.out).mono ?_);rintro e w5 ⟨rfl,hb⟩;replace HB:=Aside0.mk (below_step HB.out hb);replace HR1:=Aside0.mk (And.intro (HR1.out.1.below hb) HR1.out.2);replace B1:=Aside0.mk (blk_below B1.out hb);replace HR3:=Aside0.mk (And.intro (HR3.out.1.below hb) HR3.out.2);replace HI3:=Aside0.mk (pw_own_below HI3.out hb);replace B3:=Aside0.mk (blk_below B3.out hb);replace HR7:=Aside0.mk (And.intro (HR7.out.1.below hb) HR7.out.2);replace HI7:=Aside0.mk (pw_own_below HI7.out hb);replace B7:=Aside0.mk (blk_below B7.out hb);clear q1 q3 q7 hb;have q1:=cells5 B1.out;have q3:=cells5 B3.out;have q7:=cells5 B7.out)
 |(go_at_call 11;(with_reducible refine (isRows (M:=1) (by decide) (by decide) HA.out.1 HA.out.2 HR7.out HR1.out).mono ?_);rintro e w6 ⟨rfl,hb⟩;replace HB:=Aside0.mk (below_step HB.out hb);replace HR1:=Aside0.mk (And.intro (HR1.out.1.below hb) HR1.out.2);replace B1:=Aside0.mk (blk_below B1.out hb);replace HR3:=Aside0.mk (And.intro (HR3.out.1.below hb) HR3.out.2);replace HI3:=Aside0.mk (pw_own_below HI3.out hb);replace B3:=Aside0.mk (blk_below B3.out hb);replace HR7:=Aside0.mk (And.intro (HR7.out.1.below hb) HR7.out.2);replace HI7:=Aside0.mk (pw_own_below HI7.out hb);replace B7:=Aside0.mk (blk_below B7.out hb);clear q1 q3 q7 hb;have q1:=cells5 B1.out;have q3:=cells5 B3.out;have q7:=cells5 B7.out))
 go_ret
 exact ⟨rfl,HB.out⟩
theorem sz_qv {a b : Int} (a0 : 0≤a) (a1 : a < 4294967296) (b0 : 0≤b) (b1 : b < 4294967296) : sz1 (qv false a b)≤3:=by
 have hp : P 1=4294967296:=by rw [P_succ,P_zero];rfl
 exact sz1_le (Sz.qv (m:=1) (n:=1) a0 b0 (by omega) (by omega))
theorem sz_addQ {p r : Rat} (hp : sz1 p≤3) (hr : sz1 r≤3) : (addQ (zeroQ 1) 0 p r).fits 1 1 1∧(addQ (zeroQ 1) 0 p r).sz < 1000:=by
 refine ⟨⟨rfl,rfl⟩,?_⟩
 have h0:=sz1_zero
 have h1:=sz1_add 0 p
 have h2:=sz1_add 0 r
 refine Nat.lt_of_le_of_lt (Nat.max_le.mpr ⟨szL_le (n:=10) fun q hq=>?_,szL_le (n:=10) fun q hq=>?_⟩) (by decide)
 ·rcases List.mem_cons.mp (show q∈[0+p] from hq) with rfl|hq
  ·omega
  ·cases hq
 ·rcases List.mem_cons.mp (show q∈[0+r] from hq) with rfl|hq
  ·omega
  ·cases hq
theorem fixed_true (w : World) : Calls Try.prog 8 #[] w fun e w'=>e=.returned (.bool true)∧Below w.heap.size w w':=by
 have k1:=sz_qv (a:=1) (b:=2) (by decide) (by decide) (by decide) (by decide)
 have k2:=sz_qv (a:=0) (b:=1) (by decide) (by decide) (by decide) (by decide)
 have k3:=sz_qv (a:=1) (b:=3) (by decide) (by decide) (by decide) (by decide)
 have k4:=sz_qv (a:=2) (b:=1) (by decide) (by decide) (by decide) (by decide)
 have a1:=sz_addQ k1 k2
 have a2:=sz_addQ k3 k4
 exact fixed_sem (p:=qv false 1 2) (r:=qv false 0 1) (p2:=qv false 1 3) (r2:=qv false 2 1) ⟨rfl,rfl,by omega⟩ ⟨rfl,rfl,by omega⟩ ⟨rfl,rfl,by omega⟩ ⟨rfl,rfl,by omega⟩ rfl rfl ⟨a1.1,a2.1,a1.2,a2.2⟩ w
end Go.Proofs.Ytjiaobcoeegioaa.Pq
end
section
namespace Go.Proofs.Ytjiaobcoeegioaa.Pq
open Go.RowKit Go.Proofs.YtjiaobcoeegioaaW.PrintWords Go.Proofs.YtjiaobcoeegioaaW.PrintLast Go.Proofs.YtjiaobcoeegioaaW.PrintMore Go.Proofs.Ytjiaobcoeegioaa.N
set_option linter.unusedVariables false
set_option linter.unusedSimpArgs false
def hF (Fs : List S27) : Int × Int × Int:=match Fs with|[]=>(0,0,0)|F :: _=>(F.f0,F.f1,F.f2)
def resF (Fs : List S27) (k : Int) : S27:=if mayB Fs k=true then mkF (hF Fs).1 (hF Fs).2.1 (hF Fs).2.2 (sumQ (Fs.map qF)) else ⟨0,0,0,[],[]⟩
def resD (Fs : List S27) (k : Int) (picks : List Int) : List Int:=if mayB Fs k=true then (PS.after Fs.length k.toNat picks (4 * Fs.length)).done.map Int.ofNat else []
def resN (Fs : List S27) (k : Int) : Int:=if mayB Fs k=true then ((4 * Fs.length : Nat) : Int) else 0
structure Parts (Fs : List S27) (n0 : Nat) : Prop where
 n : n0 < 10000000
 wf : ∀ F∈Fs,WfF n0 F
 tot : tot (Fs.map qF) < 9000000
def Ans (F : S27) (D : List Int) (N : Int) (ok : Bool) (w : World) (e : Ending) (w' : World) : Prop :=
 ∃ A3 c3 A4 c4 Ad cd,e=.returned (.tuple #[.agg #[.int .i64 F.f0,.int .i64 F.f1,.int .i64 F.f2,.slice A3 F.f3.length c3,.slice A4 F.f4.length c4],.slice Ad D.length cd,.int .i64 N,.bool ok])∧F.f3.length≤c3∧F.f4.length≤c4∧Kd.C k63 w' A3 F.f3.length F.f3∧Kd.C k63 w' A4 F.f4.length F.f4∧D.length≤cd∧(Kd.int .i64).C w' Ad D.length D∧Below w.heap.size w w'
theorem play_ans {n0 : Nat} {Fs : List S27} (H : Parts Fs n0) (k : Int) (hk0 : -9223372036854775808≤k∧k≤9223372036854775807) {A0 : Option Addr} {c0 : Nat} {w : World} (hr : Kd.C k27 w A0 Fs.length Fs) {picks : List Int} {Ap : Option Addr} {cp : Nat} (hp : (Kd.int .i64).C w Ap picks.length picks) {F : S27} {D : List Int} {N : Int} {ok : Bool} (eF : resF Fs k=F) (eD : resD Fs k picks=D) (eN : resN Fs k=N) (eo : mayB Fs k=ok) :
  Calls Try.prog 9 #[.slice A0 Fs.length c0,.int .i64 k,.slice Ap picks.length cp] w fun e w'=>Ans F D N ok w e w':=by
 refine (play_sem H.n H.wf k hk0 H.tot A0 c0 w hr picks Ap cp hp).mono ?_
 subst eF eD eN eo
 rintro e w' ⟨hb,⟨hno,he⟩|⟨hyes,W,h,b,M,hs,hM,hall,ad,c,ad2,c2,dv,he,l1,l2,hrw,hi⟩⟩
 ·unfold resF resD resN
  rw [hno]
  simp only [Bool.false_eq_true,if_false]
  exact ⟨none,0,none,0,none,0,he,Nat.le_refl _,Nat.le_refl _,Kd.C_nil _ _,Kd.C_nil _ _,Nat.le_refl _,Kd.C_nil _ _,hb⟩
 ·unfold resF resD resN
  rw [hyes]
  simp only [if_true]
  have h0 : 0 < Fs.length:=by
   cases Fs with
  |nil=>exact absurd hyes (by simp [mayB])
  |cons F l=>exact Nat.succ_pos _
  obtain ⟨_,_,_,hgood⟩:=(mayB_iff h0).mp hyes
  have hck : ∀ F∈Fs,chkF F=true:=fun F hF=>by
   obtain ⟨i,hi,rfl⟩:=List.mem_iff_getElem.mp hF
   have h2:=hgood i hi
   unfold good at h2
   simp only [Bool.and_eq_true] at h2
   exact h2.1.1.1
  have hfit : (sumQ (Fs.map qF)).fits W h b:=sumQ_fits (by
   intro e
   rw [List.map_eq_nil_iff] at e
   rw [e] at h0
   exact absurd h0 (by decide)) (fun q hq=>by
    obtain ⟨F,hF,rfl⟩:=List.mem_map.mp hq
    obtain ⟨e1,e2,e3⟩:=hall F hF
    rw [← e1,← e2,← e3]
    exact (fits_of (hck F hF)).2)
  have ehF : hF Fs=(W,h,b):=by
   cases Fs with
  |nil=>cases h0
  |cons F l =>
    obtain ⟨e1,e2,e3⟩:=hall F (by simp)
    show (F.f0,F.f1,F.f2)=_
    rw [e1,e2,e3]
  rw [ehF]
  obtain ⟨q1,q2⟩:=q_len hM hfit
  have r1:=(ORow.reads hrw.a).2.now (W:=w')
  have r2:=(ORow.reads hrw.b).2.now (W:=w')
  obtain ⟨Ad,cd,rfl⟩:=own_slice hi
  obtain ⟨g1,g2,g3⟩:=IRow.reads hi
  dsimp only [mkF]
  refine ⟨some ad,c,some ad2,c2,Ad,cd,?_,by rw [q1];exact l1,by rw [q2];exact l2,r1,r2,g2,g3,hb⟩
  rw [q1,q2]
  exact he
end Go.Proofs.Ytjiaobcoeegioaa.Pq
end
section
namespace Go.Proofs.Ytjiaobcoeegioaa.U
open Go.ChangeShapes Go.WideShapes
theorem one_le {H : Type} (d : DataW H) : 1≤Rows.uptoBulk d:=by
 cases d with
|lit l=>cases l <;> simp [Rows.uptoBulk]
|nil=>simp [Rows.uptoBulk]
|ptr d=>simp [Rows.uptoBulk]
|slice elems spare=>simp [Rows.uptoBulk]
|agg parts=>simp [Rows.uptoBulk]
|iface t d=>simp [Rows.uptoBulk]
|map entries=>simp [Rows.uptoBulk]
|held h=>simp [Rows.uptoBulk]
theorem part_le {H : Type} {d : DataW H} {l : List (DataW H)} (h : d∈l) : Rows.uptoBulk d≤Rows.uptoBulkAll l:=by
 induction l with
|nil=>cases h
|cons x r ih =>
  simp only [Rows.uptoBulkAll]
  rcases List.mem_cons.1 h with e|e
  ·subst e;omega
  ·have:=ih e;omega
theorem bound {H : Type} {l : List (DataW H)} (hk : Rows.uptoSmall H l=true) : Rows.uptoBulkAll l≤1048576:=of_decide_eq_true hk
end Go.Proofs.Ytjiaobcoeegioaa.U
end
section
namespace Go.Proofs.Ytjiaobcoeegioaa.N
open Go Go.RowKit Go.Proofs.YtjiaobcoeegioaaW.PrintWords Go.Proofs.YtjiaobcoeegioaaW.PrintLast Go.Proofs.YtjiaobcoeegioaaW.PrintMore Go.Proofs.Ytjiaobcoeegioaa.Pq
set_option linter.unusedVariables false
set_option linter.unusedSimpArgs false
section
variable {H : Type} {enc : TypeId × Value→H} {P : Program} {w : World} {base : Nat} {spare : Nat→Bool} {held : Bool}
def Op (enc : TypeId × Value→H) (P : Program) (w : World) (base : Nat) (spare : Nat→Bool) (held : Bool) {α : Type} (d : Kd α) (t : TypeId) (wt : α→Nat) (ok : α→Prop) : Prop :=
 ∀ (fuel : Nat) (cs : List Value) (x : DataW H × List MemPlace),DataW.trod enc P w base spare held fuel t cs=some x → ∃ a,d.K w a cs∧wt a≤Rows.uptoBulk x.1∧ok a
theorem op_int {t : TypeId} {k : IntKind} (ht : P.underlying t=some (.int k)) : Op enc P w base spare held (Kd.int k) t (fun _=>1) (fun n=>(Lit.int k n).wf=true):=fun fuel cs x h=>by
 obtain ⟨n,rfl,rfl,hw⟩:=DataW.trod_int ht h
 exact ⟨n,rfl,by simp [Rows.uptoBulk],hw⟩
theorem bulk_sum {f : Nat→Nat} {D : Nat→DataW H} : ∀ (n : Nat),(∀ i,i < n→f i≤Rows.uptoBulk (D i))→((List.range n).map f).sum≤Rows.uptoBulkAll ((List.range n).map D)
|0,_=>by simp [Rows.uptoBulkAll]
|n+1,h=>by
  have ih:=bulk_sum n (fun i hi=>h i (by omega))
  have ha : ∀ l m : List (DataW H),Rows.uptoBulkAll (l++m)=Rows.uptoBulkAll l+Rows.uptoBulkAll m:=fun l m=>by
   induction l with
  |nil=>simp [Rows.uptoBulkAll]
  |cons a l ih=>simp only [List.cons_append,Rows.uptoBulkAll,ih];omega
  have h1:=h n (by omega)
  rw [List.range_succ,List.map_append,List.map_append,List.sum_append,ha]
  simp only [List.map_cons,List.map_nil,List.sum_cons,List.sum_nil,Rows.uptoBulkAll]
  omega
theorem op_slice {α : Type} [Inhabited α] {d : Kd α} {t e : TypeId} {wt : α→Nat} {ok : α→Prop} (ht : P.underlying t=some (.slice e)) (hc : P.cellsOf e=d.sz) (h : Op enc P w base spare held d e wt ok) :
  Op enc P w base spare held (Kd.slice e d) t (fun xs=>(xs.map wt).sum) (fun xs=>∀ a∈xs,ok a):=fun fuel cs x hx=>by
 rcases Go.Deep.open_slice ht hx with ⟨rfl,rfl⟩|⟨a,len,cap,m,n,D,Pl,rfl,hb,hl,hm,hmm,rfl,hi⟩
 ·exact ⟨[],⟨none,0,rfl,Nat.le_refl _,Kd.C_nil d w⟩,by simp,fun a ha=>by cases ha⟩
 ·have hlm : len≤m:=by rw [hmm];split <;> omega
  obtain ⟨f,hf⟩:=Go.Deep.choose_lt (α:=α) (n:=len) (p:=fun i y=>∃ cs',w.cells? base (a.add (i * P.cellsOf e)) (P.cellsOf e)=some cs'∧d.K w y cs'∧wt y≤Rows.uptoBulk (D i)∧ok y) (fun i hi2=>by
   obtain ⟨cs',h1,h2⟩:=hi i (by omega)
   obtain ⟨y,k1,k2,k3⟩:=h n cs' _ h2
   exact ⟨y,cs',h1,k1,k2,k3⟩)
  have hlen : ((List.range len).map f).length=len:=by rw [List.length_map,List.length_range]
  have hcap : cap≤9223372036854775807:=by simpa [maxLen] using hm
  refine ⟨(List.range len).map f,⟨some a,cap,by rw [hlen],by rw [hlen];exact hl,?_⟩,?_,?_⟩
  ·refine ⟨rfl,by rw [hlen];omega,fun _=>⟨a,rfl,fun j p hj=>?_⟩⟩
   have hj2 : j < len:=by
    have:=(List.getElem?_eq_some_iff.mp hj).1
    rwa [hlen] at this
   have hp : p=f j:=by
    rw [List.getElem?_map,List.getElem?_range hj2] at hj
    exact (Option.some.inj hj).symm
   subst hp
   obtain ⟨cs',h1,h2,_⟩:=hf j hj2
   obtain ⟨_,h4,h5⟩:=World.cells?_some h1
   refine ⟨cs',by rw [h4,hc],h2,fun i u hu=>?_⟩
   have hi2 : i < P.cellsOf e:=by
    have:=(List.getElem?_eq_some_iff.mp hu).1
    omega
   rw [← hc,← Go.Deep.add_add,h5 i hi2,hu]
  ·have h1:=bulk_sum (f:=fun i=>wt (f i)) (D:=D) len (fun i hi2=>(hf i hi2).choose_spec.2.2.1)
   simp only [List.map_map,Rows.uptoBulk]
   have : ((List.range len).map (wt∘f)).sum=((List.range len).map fun i=>wt (f i)).sum:=rfl
   omega
  ·intro y hy
   obtain ⟨i,hi2,rfl⟩:=List.mem_map.mp hy
   exact (hf i (List.mem_range.mp hi2)).choose_spec.2.2.2
instance : Inhabited RatS:=⟨⟨false,[],[]⟩⟩
instance : Inhabited S27:=⟨⟨0,0,0,[],[]⟩⟩
def wtR (x : RatS) : Nat:=x.f1.length+x.f2.length+1
def okR (x : RatS) : Prop:=W x.f1∧W x.f2
theorem wf32 {n : Int} (h : (Lit.int .u32 n).wf=true) : 0≤n∧n < 4294967296:=by
 have h2 : IntKind.u32.min≤n∧n≤IntKind.u32.max:=by simpa [Lit.wf] using h
 have e1 : IntKind.u32.min=0:=by decide
 have e2 : IntKind.u32.max=4294967295:=by decide
 omega
theorem len_sum (xs : List Int) : (xs.map fun _=>1).sum=xs.length:=by
 induction xs with
|nil=>rfl
|cons a l ih=>rw [List.map_cons,List.sum_cons,ih,List.length_cons];omega
theorem op_limbs {t e : TypeId} (ht : P.underlying t=some (.slice e)) (he : P.underlying e=some (.int .u32)) (hc : P.cellsOf e=1) : Op enc P w base spare held (Kd.slice e (Kd.int .u32)) t (fun xs=>xs.length) W:=fun fuel cs x h=>by
 obtain ⟨a,h1,h2,h3⟩:=op_slice (d:=Kd.int .u32) ht hc (op_int he) fuel cs x h
 dsimp only at h2
 rw [len_sum] at h2
 exact ⟨a,h1,h2,fun n hn=>wf32 (h3 n hn)⟩
theorem drop_take3 {a b c : Value} {cs : List Value} (hl : cs.length=3) (h0 : (cs.drop 0).take 1=[a]) (h1 : (cs.drop 1).take 1=[b]) (h2 : (cs.drop 2).take 1=[c]) : cs=[a,b,c]:=by
 match cs,hl with
|[x,y,z],_=>simpa using And.intro h0 (And.intro h1 h2)
theorem drop_take5 {a b c d e : Value} {cs : List Value} (hl : cs.length=5) (h0 : (cs.drop 0).take 1=[a]) (h1 : (cs.drop 1).take 1=[b]) (h2 : (cs.drop 2).take 1=[c]) (h3 : (cs.drop 3).take 1=[d]) (h4 : (cs.drop 4).take 1=[e]) : cs=[a,b,c,d,e]:=by
 match cs,hl with
|[x,y,z,u,v],_=>simpa using And.intro h0 (And.intro h1 (And.intro h2 (And.intro h3 h4)))
end
section
variable {H : Type} {enc : TypeId × Value→H} {w : World} {base : Nat} {spare : Nat→Bool} {held : Bool}
theorem op63 : Op enc Try.prog w base spare held k63 63 wtR okR:=fun fuel cs x h=>by
 obtain ⟨y0,y1,y2,n,rfl,hl,hb,h1,h2⟩:=Go.Deep.trod_struct3 Try.underlying63 h
 obtain ⟨b,e0,hx0⟩:=DataW.trod_bool (t:=4) Try.underlying4 hb
 obtain ⟨xs,⟨A1,c1,e1,l1,g1⟩,s1,o1⟩:=op_limbs (t:=61) (e:=82) Try.underlying61 Try.underlying82 (by kernel_rfl) _ _ _ h1
 obtain ⟨ys,⟨A2,c2,e2,l2,g2⟩,s2,o2⟩:=op_limbs (t:=61) (e:=82) Try.underlying61 Try.underlying82 (by kernel_rfl) _ _ _ h2
 have c4 : Try.prog.cellsOf 4=1:=by kernel_rfl
 have c61 : Try.prog.cellsOf 61=1:=by kernel_rfl
 have c63 : Try.prog.cellsOf 63=3:=by kernel_rfl
 change (cs.drop 0).take (Try.prog.cellsOf 4)=_ at e0
 change (cs.drop 1).take (Try.prog.cellsOf 61)=_ at e1
 change (cs.drop 2).take (Try.prog.cellsOf 61)=_ at e2
 rw [c4] at e0
 rw [c61] at e1 e2
 have ec:=drop_take3 (hl.trans c63) e0 e1 e2
 refine ⟨⟨b,xs,ys⟩,by rw [ec];exact k63_mk w ⟨b,xs,ys⟩ l1 g1 l2 g2,?_,o1,o2⟩
 have h3:=U.one_le y0.1
 dsimp only at s1 s2
 show xs.length+ys.length+1≤Rows.uptoBulk (.agg [y0.1,y1.1,y2.1])
 simp only [Rows.uptoBulk,Rows.uptoBulkAll]
 omega
def wtF (F : S27) : Nat:=(F.f3.map wtR).sum+(F.f4.map wtR).sum+1
def okF (F : S27) : Prop:=(∀ x∈F.f3,okR x)∧(∀ x∈F.f4,okR x)∧(-9223372036854775808≤F.f0∧F.f0≤9223372036854775807)
theorem op27 : Op enc Try.prog w base spare held k27 27 wtF okF:=fun fuel cs x h=>by
 obtain ⟨xs,n,_,rfl,hl,hn,hf⟩:=DataW.trod_struct Try.underlying27 h
 have c3 : Try.prog.cellsOf 3=1:=by kernel_rfl
 have c25 : Try.prog.cellsOf 25=1:=by kernel_rfl
 have c27 : Try.prog.cellsOf 27=5:=by kernel_rfl
 have c63 : Try.prog.cellsOf 63=3:=by kernel_rfl
 match xs,hn with
|[y0,y1,y2,y3,y4],_ =>
  have f0:=hf 0 _ rfl
  have f1:=hf 1 _ rfl
  have f2:=hf 2 _ rfl
  have f3:=hf 3 _ rfl
  have f4:=hf 4 _ rfl
  obtain ⟨i0,e0,_,w0⟩:=DataW.trod_int (t:=3) (k:=.i64) Try.underlying3 f0
  obtain ⟨i1,e1,_,_⟩:=DataW.trod_int (t:=3) (k:=.i64) Try.underlying3 f1
  obtain ⟨i2,e2,_,_⟩:=DataW.trod_int (t:=3) (k:=.i64) Try.underlying3 f2
  obtain ⟨a,⟨A1,c1,e3,l1,g1⟩,s1,o1⟩:=op_slice (d:=k63) (t:=25) (e:=63) Try.underlying25 c63 op63 _ _ _ f3
  obtain ⟨b,⟨A2,c2,e4,l2,g2⟩,s2,o2⟩:=op_slice (d:=k63) (t:=25) (e:=63) Try.underlying25 c63 op63 _ _ _ f4
  change (cs.drop 0).take (Try.prog.cellsOf 3)=_ at e0
  change (cs.drop 1).take (Try.prog.cellsOf 3)=_ at e1
  change (cs.drop 2).take (Try.prog.cellsOf 3)=_ at e2
  change (cs.drop 3).take (Try.prog.cellsOf 25)=_ at e3
  change (cs.drop 4).take (Try.prog.cellsOf 25)=_ at e4
  rw [c3] at e0 e1 e2
  rw [c25] at e3 e4
  have ec:=drop_take5 (hl.trans c27) e0 e1 e2 e3 e4
  refine ⟨⟨i0,i1,i2,a,b⟩,by rw [ec];exact k27_mk w ⟨i0,i1,i2,a,b⟩ l1 g1 l2 g2,?_,o1,o2,?_⟩
  ·have h0:=U.one_le y0.1
   dsimp only at s1 s2
   show (a.map wtR).sum+(b.map wtR).sum+1≤Rows.uptoBulk (.agg [y0.1,y1.1,y2.1,y3.1,y4.1])
   simp only [Rows.uptoBulk,Rows.uptoBulkAll]
   omega
  ·have h2 : IntKind.i64.min≤i0∧i0≤IntKind.i64.max:=by simpa [Lit.wf] using w0
   have e1 : IntKind.i64.min = -9223372036854775808:=by decide
   have e2 : IntKind.i64.max=9223372036854775807:=by decide
   show -9223372036854775808≤i0∧i0≤9223372036854775807
   omega
theorem op22 : Op enc Try.prog w base spare held (Kd.slice 27 k27) 22 (fun xs=>(xs.map wtF).sum) (fun xs=>∀ F∈xs,okF F) :=
 op_slice (d:=k27) (t:=22) (e:=27) Try.underlying22 (by kernel_rfl) op27
end
theorem sum_mem {α : Type} {f : α→Nat} {l : List α} {a : α} (h : a∈l) : f a≤(l.map f).sum:=by
 induction l with
|nil=>cases h
|cons b l ih =>
  rw [List.map_cons,List.sum_cons]
  rcases List.mem_cons.mp h with rfl|h
  ·omega
  ·have:=ih h
   omega
theorem wf_okR {x : RatS} {n : Nat} (h : okR x) (hn : wtR x≤n) : Wf n x:=by
 unfold wtR at hn
 exact ⟨⟨h.1,rfl,by omega⟩,⟨h.2,rfl,by omega⟩⟩
theorem wf_okF {F : S27} {n : Nat} (h : okF F) (hn : wtF F≤n) : WfF n F:=by
 unfold wtF at hn
 exact ⟨fun x hx=>wf_okR (h.1 x hx) (by have:=sum_mem (f:=wtR) hx;omega),fun x hx=>wf_okR (h.2.1 x hx) (by have:=sum_mem (f:=wtR) hx;omega)⟩
theorem sz_okF {F : S27} (h : okF F) : (qF F).sz+1≤2 * wtF F+2:=by
 have hx : ∀ l : List RatS,(∀ x∈l,okR x)→szL (l.map qOf)≤2 * (l.map wtR).sum+1:=fun l hl=>szL_le fun q hq=>by
  obtain ⟨x,hx,rfl⟩:=List.mem_map.mp hq
  have h1:=sum_mem (f:=wtR) hx
  have h2:=sz1_le (wf_okR (hl x hx) (Nat.le_refl _)).sz
  omega
 have h3:=hx F.f3 h.1
 have h4:=hx F.f4 h.2.1
 unfold wtF
 show max (szL (F.f3.map qOf)) (szL (F.f4.map qOf))+1≤_
 omega
theorem tot_okF {Fs : List S27} (h : ∀ F∈Fs,okF F) : ((Fs.map qF).map (fun q=>q.sz+1)).sum≤4 * (Fs.map wtF).sum:=by
 induction Fs with
|nil=>exact Nat.zero_le _
|cons F l ih =>
  have h1:=ih (fun G hG=>h G (by simp [hG]))
  have h2:=sz_okF (h F (by simp))
  have h3 : 1≤wtF F:=by unfold wtF;omega
  simp only [List.map_cons,List.sum_cons]
  omega
end Go.Proofs.Ytjiaobcoeegioaa.N
end
section
namespace Go.Proofs.Ytjiaobcoeegioaa.Pq
open Go.RowKit Go.Proofs.YtjiaobcoeegioaaW.PrintWords Go.Proofs.YtjiaobcoeegioaaW.PrintLast Go.Proofs.YtjiaobcoeegioaaW.PrintMore Go.Proofs.Ytjiaobcoeegioaa.N
set_option linter.unusedVariables false
set_option linter.unusedSimpArgs false
section
variable {H : Type} {enc : TypeId × Value→H} {W : World} {base : Nat} {spare : Nat→Bool} {held : Bool} {a : Option Addr} {len cap : Nat} {d : DataW H} {ps : List MemPlace}
theorem open22 (hb : Rows.uptoBulk d≤1048576) (hd : DataW.Trod enc Try.prog W base spare held 22 (.slice a len cap) d ps) : ∃ Fs : List S27,len=Fs.length∧len≤cap∧Kd.C k27 W a Fs.length Fs∧Parts Fs 1048576:=by
 obtain ⟨fuel,hf⟩:=hd
 obtain ⟨Fs,⟨A,c,e,l,g⟩,hw,ho⟩:=op22 fuel _ _ hf
 simp [Value.cells] at e
 obtain ⟨rfl,rfl,rfl⟩:=e
 dsimp only at hw
 have hs : (Fs.map wtF).sum≤1048576:=Nat.le_trans hw hb
 refine ⟨Fs,rfl,l,g,by decide,fun F hF=>wf_okF (ho F hF) (Nat.le_trans (sum_mem (f:=wtF) hF) hs),?_⟩
 have h1:=tot_okF ho
 unfold tot
 omega
theorem open23 (hd : DataW.Trod enc Try.prog W base spare held 23 (.slice a len cap) d ps) : ∃ xs : List Int,len=xs.length∧len≤cap∧(Kd.int .i64).C W a xs.length xs:=by
 obtain ⟨fuel,hf⟩:=hd
 obtain ⟨xs,⟨A,c,e,l,g⟩,_,_⟩:=op_slice (d:=Kd.int .i64) (t:=23) (e:=3) Try.underlying23 (by kernel_rfl) (op_int Try.underlying3) fuel _ _ hf
 simp [Value.cells] at e
 obtain ⟨rfl,rfl,rfl⟩:=e
 exact ⟨xs,rfl,l,g⟩
theorem i64_wf {n : Int} (h : (Lit.int .i64 n).wf=true) : -9223372036854775808≤n∧n≤9223372036854775807:=by
 have h2 : IntKind.i64.min≤n∧n≤IntKind.i64.max:=by simpa [Lit.wf] using h
 have e1 : IntKind.i64.min = -9223372036854775808:=by decide
 have e2 : IntKind.i64.max=9223372036854775807:=by decide
 omega
end
end Go.Proofs.Ytjiaobcoeegioaa.Pq
end
section
namespace Go.Proofs.Ytjiaobcoeegioaa.Pq
open Go.RowKit Go.Proofs.YtjiaobcoeegioaaW.PrintWords Go.Proofs.YtjiaobcoeegioaaW.PrintLast Go.Proofs.YtjiaobcoeegioaaW.PrintMore Go.Proofs.Ytjiaobcoeegioaa.N
set_option linter.unusedVariables false
set_option linter.unusedSimpArgs false
theorem may_facts {Fs : List S27} {k : Int} (hm : mayB Fs k=true) : 0 < Fs.length∧Fs.length≤4096∧1≤k∧k≤64 ∧ ∃ (W h b : Int) (M : Nat),szs W h b=true∧(M : Int)=W * h * b∧hF Fs=(W,h,b)∧(∀ q∈Fs.map qF,q.fits W h b)∧Fs=(Fs.map qF).map (mkF W h b):=by
 have h0 : 0 < Fs.length:=by
  cases Fs with
 |nil=>exact absurd hm (by simp [mayB])
 |cons F l=>exact Nat.succ_pos _
 obtain ⟨h1,h2,h3,hgood⟩:=(mayB_iff h0).mp hm
 have hck : ∀ F∈Fs,chkF F=true∧F.f0=Fs[0].f0∧F.f1=Fs[0].f1∧F.f2=Fs[0].f2:=fun F hF=>by
  obtain ⟨i,hi,rfl⟩:=List.mem_iff_getElem.mp hF
  have h2:=hgood i hi
  unfold good at h2
  simp only [Bool.and_eq_true,beq_iff_eq] at h2
  exact ⟨h2.1.1.1,h2.1.1.2,h2.1.2,h2.2⟩
 have hs:=(fits_of (hck Fs[0] (List.getElem_mem _)).1).1
 refine ⟨h0,h1,h2,h3,Fs[0].f0,Fs[0].f1,Fs[0].f2,(Fs[0].f0 * Fs[0].f1 * Fs[0].f2).toNat,hs,by have:=szs_pos hs;omega,?_,fun q hq=>?_,?_⟩
 ·cases Fs with
 |nil=>cases h0
 |cons F l=>rfl
 ·obtain ⟨F,hF,rfl⟩:=List.mem_map.mp hq
  obtain ⟨c,e1,e2,e3⟩:=hck F hF
  rw [← e1,← e2,← e3]
  exact (fits_of c).2
 ·rw [List.map_map]
  refine (List.map_id' Fs).symm.trans (List.map_congr_left fun F hF=>?_)
  obtain ⟨c,e1,e2,e3⟩:=hck F hF
  show F=mkF _ _ _ (qF F)
  rw [← e1,← e2,← e3,mkF_qF c]
structure Small (F : S27) : Prop where
 wf : WfF 9000000 F
 l3 : F.f3.length≤2048
 l4 : F.f4.length≤2048
theorem small_mk {q : QF} {W h b : Int} {M : Nat} (hs : szs W h b=true) (hM : (M : Int)=W * h * b) (hf : q.fits W h b) (hz : q.sz≤9000000) : Small (mkF W h b q):=by
 obtain ⟨e1,e2⟩:=q_len hM hf
 have hp:=szs_prod hs
 have w:=wfF_mkF W h b q
 exact ⟨⟨fun x hx=>(w.1 x hx).up hz,fun x hx=>(w.2 x hx).up hz⟩,by show (q.a.map mkR).length≤2048;omega,by show (q.b.map mkR).length≤2048;omega⟩
theorem resF_small {n0 : Nat} {Fs : List S27} (H : Parts Fs n0) (k : Int) : Small (resF Fs k):=by
 unfold resF
 cases hm : mayB Fs k
 ·simp only [Bool.false_eq_true,if_false]
  exact ⟨And.intro (fun x hx=>absurd hx (List.not_mem_nil)) (fun x hx=>absurd hx (List.not_mem_nil)),Nat.zero_le _,Nat.zero_le _⟩
 ·simp only [if_true]
  obtain ⟨h0,_,_,_,W,h,b,M,hs,hM,e,hq,_⟩:=may_facts hm
  rw [e]
  have hne : Fs.map qF≠[]:=fun e=>by
   rw [List.map_eq_nil_iff] at e
   rw [e] at h0
   exact absurd h0 (by decide)
  exact small_mk hs hM (sumQ_fits hne hq) (by have h1:=sumQ_sz (Fs.map qF);have h2:=H.tot;omega)
theorem isF {F : S27} (h : Small F) {A A2 B B2 : Option Addr} {c c2 d d2 : Nat} (l1 : F.f3.length≤c) (l2 : F.f4.length≤c2) (l3 : F.f3.length≤d) (l4 : F.f4.length≤d2) {w : World} (h1 : Kd.C k63 w A F.f3.length F.f3) (h2 : Kd.C k63 w A2 F.f4.length F.f4) (h3 : Kd.C k63 w B F.f3.length F.f3) (h4 : Kd.C k63 w B2 F.f4.length F.f4) :
  Calls Try.prog 11 #[.agg #[.int .i64 F.f0,.int .i64 F.f1,.int .i64 F.f2,.slice A F.f3.length c,.slice A2 F.f4.length c2],.agg #[.int .i64 F.f0,.int .i64 F.f1,.int .i64 F.f2,.slice B F.f3.length d,.slice B2 F.f4.length d2]] w fun e w'=>e=.returned (.bool true)∧Below w.heap.size w w':=by
 have hx : ∀ l : List S63,(∀ x∈l,Wf 9000000 x) → ∀ x∈l,x.f1.length < 4611686018427387904∧x.f2.length < 4611686018427387904:=fun l hl x hx=>⟨Nat.lt_of_le_of_lt (hl x hx).a.le (by decide),Nat.lt_of_le_of_lt (hl x hx).b.le (by decide)⟩
 have g3:=h.l3
 have g4:=h.l4
 obtain ⟨k,hk⟩:=(is20 (W:=F.f0) (h:=F.f1) (b:=F.f2) (xs:=F.f3) (ys:=F.f4) (by omega) (hx _ h.wf.1) (by omega) (hx _ h.wf.2)).rounds
 exact penumbraref20_Is.calls k F.f0 F.f1 F.f2 A c F.f3 A2 c2 F.f4 F.f0 F.f1 F.f2 B d F.f3 B2 d2 F.f4 true w h1 l1 h2 l2 h3 l3 h4 l4 hk
theorem any_eq {Fs : List S27} {k l : Int} (h1 : mayB Fs k=true) (h2 : mayB Fs l=true) : resF Fs k=resF Fs l∧resN Fs k=resN Fs l:=by
 unfold resF resN
 rw [h1,h2]
 exact ⟨rfl,rfl⟩
set_option maxHeartbeats 4000000 in
set_option maxRecDepth 100000 in
theorem any_walk {n0 : Nat} {Fs : List S27} (H : Parts Fs n0) (k l : Int) (hk0 : -9223372036854775808≤k∧k≤9223372036854775807) (hl0 : -9223372036854775808≤l∧l≤9223372036854775807) (A0 : Option Addr) (c0 : Nat) (w : World) (hr : Kd.C k27 w A0 Fs.length Fs) (p1 p2 : List Int) (Ap : Option Addr) (cp : Nat) (Bp : Option Addr) (dp : Nat) (hp1 : (Kd.int .i64).C w Ap p1.length p1) (hp2 : (Kd.int .i64).C w Bp p2.length p2) :
  Calls Try.prog 6 #[.slice A0 Fs.length c0,.agg #[.int .i64 k,.int .i64 l],.agg #[.slice Ap p1.length cp,.slice Bp p2.length dp]] w fun e w'=>e=.returned (.bool true)∧Below w.heap.size w w':=by
 have hsm:=resF_small H k
 have hsm2:=resF_small H l
 have hm:=any_eq (Fs:=Fs) (k:=k) (l:=l)
 obtain ⟨F1,f1⟩ : ∃ z,resF Fs k=z:=⟨_,rfl⟩
 obtain ⟨F2,f2⟩ : ∃ z,resF Fs l=z:=⟨_,rfl⟩
 obtain ⟨D1,d1⟩ : ∃ z,resD Fs k p1=z:=⟨_,rfl⟩
 obtain ⟨D2,d2⟩ : ∃ z,resD Fs l p2=z:=⟨_,rfl⟩
 obtain ⟨N1,n1⟩ : ∃ z,resN Fs k=z:=⟨_,rfl⟩
 obtain ⟨N2,n2⟩ : ∃ z,resN Fs l=z:=⟨_,rfl⟩
 obtain ⟨o1,m1⟩ : ∃ z,mayB Fs k=z:=⟨_,rfl⟩
 obtain ⟨o2,m2⟩ : ∃ z,mayB Fs l=z:=⟨_,rfl⟩
 rw [f1,f2,n1,n2,m1,m2] at hm
 rw [f1] at hsm
 rw [f2] at hsm2
 have HP:=Aside0.mk (And.intro H (And.intro hr (And.intro hp1 hp2)))
 have HR1:=Aside0.mk (And.intro f1 (And.intro d1 (And.intro n1 m1)))
 have HR2:=Aside0.mk (And.intro f2 (And.intro d2 (And.intro n2 m2)))
 have HS:=Aside0.mk (And.intro hsm hsm2)
 have HM:=Aside0.mk hm
 clear H hr hp1 hp2 f1 d1 n1 m1 f2 d2 n2 m2 hm hsm hsm2
 go_enter Try.func6,Try.ntmps6
 go_upto_region 1 with fail
 have b37:=blk_alloc (blk_new w (.cells #[.int .i64 k,.int .i64 l] 37)) (.cells #[.slice Ap p1.length cp,.slice Bp p2.length dp] 38)
 have b38:=blk_new (w.alloc (.cells #[.int .i64 k,.int .i64 l] 37)) (.cells #[.slice Ap p1.length cp,.slice Bp p2.length dp] 38)
 have hb:=below_alloc (below_alloc (Below.refl w.heap.size w) (.cells #[.int .i64 k,.int .i64 l] 37)) (.cells #[.slice Ap p1.length cp,.slice Bp p2.length dp] 38)
 rw [show (w.alloc (.cells #[.int .i64 k,.int .i64 l] 37)).heap.size=w.heap.size+1 by simp] at b38
 obtain ⟨g38,e38⟩ : ∃ g,w.heap.size+1=g:=⟨_,rfl⟩
 obtain ⟨g37,e37⟩ : ∃ g,w.heap.size=g:=⟨_,rfl⟩
 obtain ⟨wb,ewb⟩ : ∃ z,(w.alloc (.cells #[.int .i64 k,.int .i64 l] 37)).alloc (.cells #[.slice Ap p1.length cp,.slice Bp p2.length dp] 38)=z:=⟨_,rfl⟩
 rw [ewb] at b37 b38 hb ⊢
 rw [e38] at b38 ⊢
 rw [e37] at b37 ⊢
 have B37:=Aside0.mk b37
 have B38:=Aside0.mk b38
 have HB:=Aside0.mk hb
 clear b37 b38 hb ewb e37 e38
 have q37 : wb.cell? ⟨g37,0,none⟩=some (.int .i64 k)∧wb.cell? ⟨g37,1,none⟩=some (.int .i64 l):=⟨blk_cell B37.out 0,blk_cell B37.out 1⟩
 have q38 : wb.cell? ⟨g38,0,none⟩=some (.slice Ap p1.length cp)∧wb.cell? ⟨g38,1,none⟩=some (.slice Bp p2.length dp):=⟨blk_cell B38.out 0,blk_cell B38.out 1⟩
 go_upto_region 2 with (first
 |(go_at_call 9;(with_reducible refine (play_ans HP.out.1 k hk0 (Kd.C_below HP.out.2.1 HB.out) (Kd.C_below HP.out.2.2.1 HB.out) HR1.out.1 HR1.out.2.1 HR1.out.2.2.1 HR1.out.2.2.2).mono ?_);rintro e w1 ⟨A3,c3,A4,c4,Ad,cd,rfl,la,lb,g3,g4,_,_,hb⟩;have HF1:=Aside0.mk (And.intro la (And.intro lb (And.intro g3 g4)));replace B37:=Aside0.mk (blk_below B37.out hb);replace B38:=Aside0.mk (blk_below B38.out hb);replace HB:=Aside0.mk (below_step HB.out hb);clear la lb g3 g4 hb q37 q38))
 have hb:=below_alloc (Below.refl w1.heap.size w1) (.cells #[.int .i64 F1.f0,.int .i64 F1.f1,.int .i64 F1.f2,.slice A3 F1.f3.length c3,.slice A4 F1.f4.length c4] 27)
 replace HF1:=Aside0.mk (And.intro HF1.out.1 (And.intro HF1.out.2.1 (And.intro (Kd.C_below HF1.out.2.2.1 hb) (Kd.C_below HF1.out.2.2.2 hb))))
 replace B37:=Aside0.mk (blk_below B37.out hb)
 replace B38:=Aside0.mk (blk_below B38.out hb)
 replace HB:=Aside0.mk (below_step HB.out hb)
 have BF1:=Aside0.mk (blk_new w1 (.cells #[.int .i64 F1.f0,.int .i64 F1.f1,.int .i64 F1.f2,.slice A3 F1.f3.length c3,.slice A4 F1.f4.length c4] 27))
 obtain ⟨wa,hwa⟩ : ∃ z,w1.alloc (.cells #[.int .i64 F1.f0,.int .i64 F1.f1,.int .i64 F1.f2,.slice A3 F1.f3.length c3,.slice A4 F1.f4.length c4] 27)=z:=⟨_,rfl⟩
 obtain ⟨G1,hG⟩ : ∃ z,w1.heap.size=z:=⟨_,rfl⟩
 rw [hwa] at HF1 B37 B38 HB BF1 ⊢
 rw [hG] at BF1 ⊢
 clear hwa hG hb
 have q37 : wa.cell? ⟨g37,0,none⟩=some (.int .i64 k)∧wa.cell? ⟨g37,1,none⟩=some (.int .i64 l):=⟨blk_cell B37.out 0,blk_cell B37.out 1⟩
 have q38 : wa.cell? ⟨g38,0,none⟩=some (.slice Ap p1.length cp)∧wa.cell? ⟨g38,1,none⟩=some (.slice Bp p2.length dp):=⟨blk_cell B38.out 0,blk_cell B38.out 1⟩
 go_upto_region 3 with (first
 |(go_at_call 9;(with_reducible refine (play_ans HP.out.1 l hl0 (Kd.C_below HP.out.2.1 HB.out) (Kd.C_below HP.out.2.2.2 HB.out) HR2.out.1 HR2.out.2.1 HR2.out.2.2.1 HR2.out.2.2.2).mono ?_);rintro e w2 ⟨B3,e3,B4,e4,Bd,ed,rfl,la,lb,g3,g4,_,_,hb⟩;have HF2:=Aside0.mk (And.intro la (And.intro lb (And.intro g3 g4)));replace HF1:=Aside0.mk (And.intro HF1.out.1 (And.intro HF1.out.2.1 (And.intro (Kd.C_below HF1.out.2.2.1 hb) (Kd.C_below HF1.out.2.2.2 hb))));replace BF1:=Aside0.mk (blk_below BF1.out hb);replace HB:=Aside0.mk (below_step HB.out hb);clear la lb g3 g4 hb q37 q38 B37 B38))
 have hb:=below_alloc (Below.refl w2.heap.size w2) (.cells #[.int .i64 F2.f0,.int .i64 F2.f1,.int .i64 F2.f2,.slice B3 F2.f3.length e3,.slice B4 F2.f4.length e4] 27)
 replace HF1:=Aside0.mk (And.intro HF1.out.1 (And.intro HF1.out.2.1 (And.intro (Kd.C_below HF1.out.2.2.1 hb) (Kd.C_below HF1.out.2.2.2 hb))))
 replace HF2:=Aside0.mk (And.intro HF2.out.1 (And.intro HF2.out.2.1 (And.intro (Kd.C_below HF2.out.2.2.1 hb) (Kd.C_below HF2.out.2.2.2 hb))))
 replace BF1:=Aside0.mk (blk_below BF1.out hb)
 replace HB:=Aside0.mk (below_step HB.out hb)
 have BF2:=Aside0.mk (blk_new w2 (.cells #[.int .i64 F2.f0,.int .i64 F2.f1,.int .i64 F2.f2,.slice B3 F2.f3.length e3,.slice B4 F2.f4.length e4] 27))
 obtain ⟨wd,hwd⟩ : ∃ z,w2.alloc (.cells #[.int .i64 F2.f0,.int .i64 F2.f1,.int .i64 F2.f2,.slice B3 F2.f3.length e3,.slice B4 F2.f4.length e4] 27)=z:=⟨_,rfl⟩
 obtain ⟨G2,hG⟩ : ∃ z,w2.heap.size=z:=⟨_,rfl⟩
 rw [hwd] at HF1 HF2 BF1 HB BF2 ⊢
 rw [hG] at BF2 ⊢
 clear hwd hG hb
 cases o1
 ·go_wp2_with (first
  |(go_at_call 8;(with_reducible refine (fixed_true _).mono ?_);rintro e w3 ⟨rfl,hb⟩;replace HB:=Aside0.mk (below_step HB.out hb);clear hb))
  go_ret
  exact ⟨rfl,HB.out⟩
 cases o2
 ·go_wp2_with (first
  |(go_at_call 8;(with_reducible refine (fixed_true _).mono ?_);rintro e w3 ⟨rfl,hb⟩;replace HB:=Aside0.mk (below_step HB.out hb);clear hb))
  go_ret
  exact ⟨rfl,HB.out⟩
 obtain ⟨rfl,rfl⟩:=HM.out rfl rfl
 go_wp2_with (first
 |(go_at_call 8;(with_reducible refine (fixed_true _).mono ?_);rintro e w3 ⟨rfl,hb⟩;replace HF1:=Aside0.mk (And.intro HF1.out.1 (And.intro HF1.out.2.1 (And.intro (Kd.C_below HF1.out.2.2.1 hb) (Kd.C_below HF1.out.2.2.2 hb))));replace HF2:=Aside0.mk (And.intro HF2.out.1 (And.intro HF2.out.2.1 (And.intro (Kd.C_below HF2.out.2.2.1 hb) (Kd.C_below HF2.out.2.2.2 hb))));have q1:=cells5 (blk_below BF1.out hb);have q2:=cells5 (blk_below BF2.out hb);replace HB:=Aside0.mk (below_step HB.out hb);clear hb)
 |(go_at_call 11;(with_reducible refine (isF HS.out.1 HF1.out.1 HF1.out.2.1 HF2.out.1 HF2.out.2.1 HF1.out.2.2.1 HF1.out.2.2.2 HF2.out.2.2.1 HF2.out.2.2.2).mono ?_);rintro e w4 ⟨rfl,hb⟩;replace HB:=Aside0.mk (below_step HB.out hb);clear hb))
 go_ret
 exact ⟨rfl,HB.out⟩
end Go.Proofs.Ytjiaobcoeegioaa.Pq
end
