import Derived.Test.YtncdiodnbkhacaaDoorDBack3
set_option linter.unusedVariables false
set_option linter.unusedSimpArgs false
section
namespace Go.Proofs.YtncdiodnbkhacaaDoor.Pq
open Go.RowKit Go.Proofs.YtncdiodnbkhacaaDoorW.PrintWords Go.Proofs.YtncdiodnbkhacaaDoorW.PrintLast Go.Proofs.YtncdiodnbkhacaaDoorW.PrintMore
attribute [local go_sem] max2_int min2_int max_two min_two max_three min_three max_four min_four
set_option linter.unusedVariables false
set_option linter.unusedSimpArgs false
open Go.Shelf
theorem penumbraref01_Zero.mono : ∀ a0 k,LeO (penumbraref01_Zero.f k a0) (penumbraref01_Zero.f (k+1) a0):=by
 intro a0 k
 unfold penumbraref01_Zero.f
 with_reducible repeat' first
  |exact penumbraref01_Cmp.mono _ _ _
  |exact LeO.refl _
  |exact LeO.none _
  |refine LeO.ite ?_ ?_
  |refine LeO.bind ?_ (fun _=>?_)
set_option maxHeartbeats 8000000 in
set_option maxRecDepth 100000 in
theorem penumbraref01_Zero.calls (k : Nat) (A0 : Option Addr) (c0 : Nat) (l0 : List Int) (r : Bool) (w : World) (hr0 : Kd.C (Kd.int .u32) w A0 l0.length l0) (hc0 : l0.length≤c0) (h : penumbraref01_Zero.f k l0=some r) :
  Calls Tryd.prog 33 #[.slice A0 l0.length c0] w fun e w'=>e=.returned (.bool r)∧Below w.heap.size w w':=by
 have HR0:=Aside0.mk hr0
 have HC0:=Aside0.mk hc0
 clear hr0 hc0
 have HB:=Aside0.mk (Below.refl w.heap.size w)
 have H : ((penumbraref01_Cmp.f k l0 ([] : List Int)).bind fun t425=>(some (t425 == 0)))=some r:=h
 clear h
 replace H:=Option.bind_eq_some_iff.mp H
 obtain ⟨t425,A20,H⟩:=H
 try dsimp only at H
 have A2:=Aside0.mk A20
 clear A20
 obtain rfl:=Option.some.inj H
 go_enter Tryd.func33,Tryd.ntmps33
 go_wp2_with (first|((with_reducible refine gate_callee (f:=59) rfl ?_);refine goesL_ (some 4) rfl rfl Tryd.func59 (by kernel_rfl) rfl #[.slice A0 l0.length c0,.slice none 0 0] rfl (by (try simp only [List.map_toArray,List.map_cons,List.map_nil]);first|done|rfl) ?_;(refine (penumbraref01_Cmp.calls k _ _ l0 _ _ ([] : List Int) t425 _ ?side1 ?side2 ?side3 ?side4 A2.out).mono ?_);(case side1=>exact Cu HR0.out);(case side2=>exact HC0.out);(case side3=>exact Kd.C_nil _ _);(case side4=>exact Nat.le_refl _);rintro e w3 ⟨rfl,hb⟩;refine ⟨_,rfl,?_⟩;have n0_:=Aside0.mk (below_step (Hu HB.out) hb);clear HB;have HB:=n0_;clear n0_))
 go_ret
 exact ⟨by first|rfl|(simp [errW_none,errW_some] <;> rfl)|(simp [*,errW_none,errW_some] <;> rfl),Hu HB.out⟩
end Go.Proofs.YtncdiodnbkhacaaDoor.Pq
end
section
namespace Go.Proofs.YtncdiodnbkhacaaDoor.Pq
open Go.RowKit Go.Proofs.YtncdiodnbkhacaaDoorW.PrintWords Go.Proofs.YtncdiodnbkhacaaDoorW.PrintLast Go.Proofs.YtncdiodnbkhacaaDoorW.PrintMore
attribute [local go_sem] max2_int min2_int max_two min_two max_three min_three max_four min_four
set_option linter.unusedVariables false
set_option linter.unusedSimpArgs false
set_option maxHeartbeats 8000000 in
set_option maxRecDepth 100000 in
theorem penumbraref01_at.calls (a0 : Int) (a1 : Int) (r : List Int) (w : World) (h : penumbraref01_at.f a0 a1=some r) :
  Calls Tryd.prog 71 #[.int .u64 a0,.int .i64 a1] w fun e w'=>∃ v0_ : Value,e=.returned (v0_)∧Kd.R (Kd.int .u32) 35 w' w.heap.size (fun _=>True) v0_ r∧Below w.heap.size w w':=by
 have HB:=Aside0.mk (Below.refl w.heap.size w)
 have H : (if 0≤a1 then (if (a1 : Int).toNat≤70368744177664 then ((some (List.replicate (a1 : Int).toNat 0 : List Int)).bind fun y479=>((some (([(Int.tmod a0 4294967296) % 4294967296,(IntKind.u64.wrap (Int.tdiv a0 4294967296)) % 4294967296] : List Int) : List Int)).bind fun y482=>(if y479.length+y482.length < 35184372088832 then (some (y479++y482)) else (none)))) else (none)) else (none))=some r:=h
 clear h
 by_cases c3 : 0≤a1
 case neg =>rw [if_neg c3] at H;exact absurd H (by simp)
 rw [if_pos c3] at H
 have c3b0:=eq_true c3
 have c3b1 : decide (0≤a1)=true:=decide_eq_true c3
 clear c3
 by_cases c4 : (a1 : Int).toNat≤70368744177664
 case neg =>rw [if_neg c4] at H;exact absurd H (by simp)
 rw [if_pos c4] at H
 have c4b0:=eq_true c4
 have c4b1 : decide ((a1 : Int).toNat≤70368744177664)=true:=decide_eq_true c4
 clear c4
 obtain ⟨y479,hy479⟩ : ∃ y_ : List Int,y_=(List.replicate (a1 : Int).toNat 0):=⟨_,rfl⟩
 replace H : ((some (([(Int.tmod a0 4294967296) % 4294967296,(IntKind.u64.wrap (Int.tdiv a0 4294967296)) % 4294967296] : List Int) : List Int)).bind fun y482=>(if y479.length+y482.length < 35184372088832 then (some (y479++y482)) else (none)))=some r:=by first|(rw [hy479];with_reducible exact H)|(have H2_:=(Option.bind_some _ _).symm.trans H;rw [hy479];with_reducible exact H2_)|(have H2_:=(Option.bind_some _ _).symm.trans H;with_reducible exact H2_)|with_reducible exact H|(rw [hy479];exact H)|exact H
 have Ny479:=Aside0.mk hy479
 clear hy479
 obtain ⟨y482,hy482⟩ : ∃ y_ : List Int,y_=(([(Int.tmod a0 4294967296) % 4294967296,(IntKind.u64.wrap (Int.tdiv a0 4294967296)) % 4294967296] : List Int)):=⟨_,rfl⟩
 replace H : (if y479.length+y482.length < 35184372088832 then (some (y479++y482)) else (none))=some r:=by first|(rw [hy482];with_reducible exact H)|(have H2_:=(Option.bind_some _ _).symm.trans H;rw [hy482];with_reducible exact H2_)|(have H2_:=(Option.bind_some _ _).symm.trans H;with_reducible exact H2_)|with_reducible exact H|(rw [hy482];exact H)|exact H
 have Ny482:=Aside0.mk hy482
 clear hy482
 by_cases c5 : y479.length+y482.length < 35184372088832
 case neg =>rw [if_neg c5] at H;exact absurd H (by simp)
 rw [if_pos c5] at H
 have LMc5:=Aside0.mk c5
 clear c5
 obtain ⟨y485,hy485⟩ : ∃ y_ : List Int,y_=(y479++y482):=⟨_,rfl⟩
 replace H : (some y485)=some r:=by first|(rw [hy485];with_reducible exact H)|(have H2_:=(Option.bind_some _ _).symm.trans H;rw [hy485];with_reducible exact H2_)|(have H2_:=(Option.bind_some _ _).symm.trans H;with_reducible exact H2_)|with_reducible exact H|(rw [hy485];exact H)|exact H
 have Ny485:=Aside0.mk hy485
 clear hy485
 obtain rfl:=Option.some.inj H
 go_enter Tryd.func71,Tryd.ntmps71
 go_wp2_with (first|((with_reducible refine gate_dst (N:=6) rfl ?_);refine Kd.R_make (Kd.int .u32) _ 35 rfl (N:=6) rfl 23 _ _ rfl a1 rfl rfl Tryd.underlying23 (.int .u32 0) 4 info35 rfl (by decide) (by omega) 0 (ok:=fun _=>True) (okp:=fun _=>True) rfl (fun _ hk=>hk) trivial (of_decide_eq_true (by assumption)) (Nat.le_trans (Nat.mul_le_mul_right _ (of_decide_eq_true (by assumption) : a1.toNat≤70368744177664)) (by omega)) (Below.refl _ _) (Nat.le_refl _) ?_;intro v480 w6 ho7 hb hg_ hnew_;clear hg_ hnew_;(first|rw [← Ny479.out] at ho7|(simp only [Int.reduceToNat] at ho7;rw [← Ny479.out] at ho7));have n0_:=Aside0.mk (Kd.R_lower ho7 (below_size (Hu HB.out)));have n1_:=Aside0.mk (below_step (Hu HB.out) hb);clear HB;have HO481:=n0_;have HB:=n1_;clear n0_ n1_;clear hb ho7)|((with_reducible refine gate_dst (N:=13) rfl ?_);refine Kd.R_lit (Kd.int .u32) _ 35 ?hg (N:=13) ?hd (xs:=([(Int.tmod a0 4294967296) % 4294967296,(IntKind.u64.wrap (Int.tdiv a0 4294967296)) % 4294967296] : List Int)) (inner:=[.int .u32 ((Int.tmod a0 4294967296) % 4294967296),.int .u32 ((IntKind.u64.wrap (Int.tdiv a0 4294967296)) % 4294967296)]) (ok:=fun _=>True) (okp:=fun _=>True) ?hr ?hp (fun _ hk=>hk) trivial (Below.refl _ _) (Nat.le_refl _) (by simp) ?_;(case hd=>rfl);(case hg=>rfl);(case hr=>first|(go_simp;done)|(go_simp;(with_reducible rfl))|(go_simp;rfl)|(go_simp;simp only [hu,Int.emod_sub_emod]));(case hp=>exact (Reps.one (show Kd.M (Kd.int .u32) _ _ _ ((Int.tmod a0 4294967296) % 4294967296) [.int .u32 ((Int.tmod a0 4294967296) % 4294967296)] from rfl) (Reps.one (show Kd.M (Kd.int .u32) _ _ _ ((IntKind.u64.wrap (Int.tdiv a0 4294967296)) % 4294967296) [.int .u32 ((IntKind.u64.wrap (Int.tdiv a0 4294967296)) % 4294967296)] from rfl) (Reps.none _ _))));intro v483 w8 ho9 hb hg_ hnew_;clear hg_ hnew_;(first|rw [← Ny482.out] at ho9|(simp only [Int.reduceToNat] at ho9;rw [← Ny482.out] at ho9));have n0_:=Aside0.mk (Kd.R_elder' (Ru HO481.out) (Kd.R_base ho9) hb);have n1_:=Aside0.mk (Kd.R_lower (Kd.R_new' ho9 (Kd.R_lt (Ru HO481.out))) (below_size (Hu HB.out)));have n2_:=Aside0.mk (below_step (Hu HB.out) hb);clear HO481;clear HB;have HO481:=n0_;have HO484:=n1_;have HB:=n2_;clear n0_ n1_ n2_;clear hb ho9;obtain ⟨Ao11,co11,eo11⟩:=Kd.R_slice HO484.out;subst eo11)|((with_reducible refine gate_builtin (b:=.append) (xs:=#[.tmp 6,.tmp 13]) rfl ?_);at_builtin;refine Kd.R_append_rows (Kd.int .u32) (w0:=w) w.heap.size rfl (.tmp 6) (.tmp 13) 23 35 (.int .u32 0) 4 rfl Tryd.underlying23 info35 rfl (by decide) (by omega) v480 y479 y482 _ _ _ (fun k_=>some k_≠(.slice Ao11 y482.length co11 : Value).ownBlock) (fun _=>False) rfl rfl ?aO ?aR (fun _ _ h=>h) (fun _ h=>h.elim) ?aF ?aB ?aS ?aL ?_;(case aR=>repeat (first|exact (Kd.R_reads' HO484.out).2.2|(with_reducible refine Kd.C_alloc ?_ _)|(with_reducible refine Kd.C_drewN ?_ _)|(with_reducible refine Kd.C_drew ?_)));(case aB=>exact (Hu HB.out));(case aF=>exact (fun k_ hk=>Kd.fresh' (Kd.R_lt (Ru HO484.out)) k_ hk));(case aO=>exact (by (with_reducible repeat (first|apply Ra|apply Rn|apply Rd));exact Kd.R_mono HO481.out (fun _ hk=>hk.2)));(case aS=>exact (below_size (Hu HB.out)));(case aL=>have:=LMc5.out;omega);intro v486 w10 ho hb hg hat;rw [← Ny485.out] at ho;have n0_:=Aside0.mk (Kd.R_after (ok:=(fun _=>True)) (Ru HO484.out) hg hat);have n1_:=Aside0.mk (hb);have n2_:=Aside0.mk (ho);clear HO484;clear HB;clear HO481;have HO484:=n0_;have HB:=n1_;have HO487:=n2_;clear n0_ n1_ n2_;clear ho hb hg hat))
 go_ret
 exact ⟨_,by first|rfl|(simp [errW_none,errW_some] <;> rfl)|(simp [*,errW_none,errW_some] <;> rfl),by (with_reducible repeat (first|apply Ra|apply Rn|apply Rd));exact Kd.R_mono HO487.out (fun _ hk=>trivial),Hu HB.out⟩
end Go.Proofs.YtncdiodnbkhacaaDoor.Pq
end
section
namespace Go.Proofs.YtncdiodnbkhacaaDoor.Pq
open Go.RowKit Go.Proofs.YtncdiodnbkhacaaDoorW.PrintWords Go.Proofs.YtncdiodnbkhacaaDoorW.PrintLast Go.Proofs.YtncdiodnbkhacaaDoorW.PrintMore
attribute [local go_sem] max2_int min2_int max_two min_two max_three min_three max_four min_four
set_option linter.unusedVariables false
set_option linter.unusedSimpArgs false
theorem penumbraref01_DivMod.mono_l : ∀ k,(∀ y0 y1 y2,LeO (penumbraref01_DivMod.l0 k y0 y1 y2) (penumbraref01_DivMod.l0 (k+1) y0 y1 y2))∧(∀ y0 y1 y2 y3 y4 y5,LeO (penumbraref01_DivMod.l1 k y0 y1 y2 y3 y4 y5) (penumbraref01_DivMod.l1 (k+1) y0 y1 y2 y3 y4 y5))∧(∀ y0 y1 y2 y3 y4 y5 y6 y7 y8 y9,LeO (penumbraref01_DivMod.j2 k y0 y1 y2 y3 y4 y5 y6 y7 y8 y9) (penumbraref01_DivMod.j2 (k+1) y0 y1 y2 y3 y4 y5 y6 y7 y8 y9))∧(∀ y0 y1 y2 y3 y4 y5 y6 y7,LeO (penumbraref01_DivMod.j3 k y0 y1 y2 y3 y4 y5 y6 y7) (penumbraref01_DivMod.j3 (k+1) y0 y1 y2 y3 y4 y5 y6 y7))∧(∀ y0 y1 y2 y3 y4 y5 y6 y7,LeO (penumbraref01_DivMod.j4 k y0 y1 y2 y3 y4 y5 y6 y7) (penumbraref01_DivMod.j4 (k+1) y0 y1 y2 y3 y4 y5 y6 y7))∧(∀ y0 y1 y2 y3,LeO (penumbraref01_DivMod.l2 k y0 y1 y2 y3) (penumbraref01_DivMod.l2 (k+1) y0 y1 y2 y3))
|0=>⟨fun _ _ _ r h=>by simp [penumbraref01_DivMod.l0] at h,fun _ _ _ _ _ _ r h=>by simp [penumbraref01_DivMod.l1] at h,fun _ _ _ _ _ _ _ _ _ _ r h=>by simp [penumbraref01_DivMod.j2] at h,fun _ _ _ _ _ _ _ _ r h=>by simp [penumbraref01_DivMod.j3] at h,fun _ _ _ _ _ _ _ _ r h=>by simp [penumbraref01_DivMod.j4] at h,fun _ _ _ _ r h=>by simp [penumbraref01_DivMod.l2] at h⟩
|k+1=>by
  obtain ⟨ih0,ih1,ih2,ih3,ih4,ih5⟩:=penumbraref01_DivMod.mono_l k
  refine ⟨?_,?_,?_,?_,?_,?_⟩
  ·intro y0 y1 y2
   unfold penumbraref01_DivMod.l0
   with_reducible repeat' first
  |exact ih0 _ _ _
  |exact ih1 _ _ _ _ _ _
  |exact ih2 _ _ _ _ _ _ _ _ _ _
  |exact ih3 _ _ _ _ _ _ _ _
  |exact ih4 _ _ _ _ _ _ _ _
  |exact ih5 _ _ _ _
  |exact penumbraref01_Add.mono _ _ _
  |exact penumbraref01_Cmp.mono _ _ _
  |exact penumbraref01_Double.mono _ _ _
  |exact penumbraref01_Half.mono _ _
  |exact penumbraref01_Mul.mono _ _ _
  |exact penumbraref01_Norm.mono _ _
  |exact penumbraref01_Sub.mono _ _ _
  |exact penumbraref01_Zero.mono _ _
  |exact LeO.refl _
  |exact LeO.none _
  |refine LeO.ite ?_ ?_
  |refine LeO.bind ?_ (fun _=>?_)
  ·intro y0 y1 y2 y3 y4 y5
   unfold penumbraref01_DivMod.l1
   with_reducible repeat' first
  |exact ih0 _ _ _
  |exact ih1 _ _ _ _ _ _
  |exact ih2 _ _ _ _ _ _ _ _ _ _
  |exact ih3 _ _ _ _ _ _ _ _
  |exact ih4 _ _ _ _ _ _ _ _
  |exact ih5 _ _ _ _
  |exact penumbraref01_Add.mono _ _ _
  |exact penumbraref01_Cmp.mono _ _ _
  |exact penumbraref01_Double.mono _ _ _
  |exact penumbraref01_Half.mono _ _
  |exact penumbraref01_Mul.mono _ _ _
  |exact penumbraref01_Norm.mono _ _
  |exact penumbraref01_Sub.mono _ _ _
  |exact penumbraref01_Zero.mono _ _
  |exact LeO.refl _
  |exact LeO.none _
  |refine LeO.ite ?_ ?_
  |refine LeO.bind ?_ (fun _=>?_)
  ·intro y0 y1 y2 y3 y4 y5 y6 y7 y8 y9
   unfold penumbraref01_DivMod.j2
   with_reducible repeat' first
  |exact ih0 _ _ _
  |exact ih1 _ _ _ _ _ _
  |exact ih2 _ _ _ _ _ _ _ _ _ _
  |exact ih3 _ _ _ _ _ _ _ _
  |exact ih4 _ _ _ _ _ _ _ _
  |exact ih5 _ _ _ _
  |exact penumbraref01_Add.mono _ _ _
  |exact penumbraref01_Cmp.mono _ _ _
  |exact penumbraref01_Double.mono _ _ _
  |exact penumbraref01_Half.mono _ _
  |exact penumbraref01_Mul.mono _ _ _
  |exact penumbraref01_Norm.mono _ _
  |exact penumbraref01_Sub.mono _ _ _
  |exact penumbraref01_Zero.mono _ _
  |exact LeO.refl _
  |exact LeO.none _
  |refine LeO.ite ?_ ?_
  |refine LeO.bind ?_ (fun _=>?_)
  ·intro y0 y1 y2 y3 y4 y5 y6 y7
   unfold penumbraref01_DivMod.j3
   with_reducible repeat' first
  |exact ih0 _ _ _
  |exact ih1 _ _ _ _ _ _
  |exact ih2 _ _ _ _ _ _ _ _ _ _
  |exact ih3 _ _ _ _ _ _ _ _
  |exact ih4 _ _ _ _ _ _ _ _
  |exact ih5 _ _ _ _
  |exact penumbraref01_Add.mono _ _ _
  |exact penumbraref01_Cmp.mono _ _ _
  |exact penumbraref01_Double.mono _ _ _
  |exact penumbraref01_Half.mono _ _
  |exact penumbraref01_Mul.mono _ _ _
  |exact penumbraref01_Norm.mono _ _
  |exact penumbraref01_Sub.mono _ _ _
  |exact penumbraref01_Zero.mono _ _
  |exact LeO.refl _
  |exact LeO.none _
  |refine LeO.ite ?_ ?_
  |refine LeO.bind ?_ (fun _=>?_)
  ·intro y0 y1 y2 y3 y4 y5 y6 y7
   unfold penumbraref01_DivMod.j4
   with_reducible repeat' first
  |exact ih0 _ _ _
  |exact ih1 _ _ _ _ _ _
  |exact ih2 _ _ _ _ _ _ _ _ _ _
  |exact ih3 _ _ _ _ _ _ _ _
  |exact ih4 _ _ _ _ _ _ _ _
  |exact ih5 _ _ _ _
  |exact penumbraref01_Add.mono _ _ _
  |exact penumbraref01_Cmp.mono _ _ _
  |exact penumbraref01_Double.mono _ _ _
  |exact penumbraref01_Half.mono _ _
  |exact penumbraref01_Mul.mono _ _ _
  |exact penumbraref01_Norm.mono _ _
  |exact penumbraref01_Sub.mono _ _ _
  |exact penumbraref01_Zero.mono _ _
  |exact LeO.refl _
  |exact LeO.none _
  |refine LeO.ite ?_ ?_
  |refine LeO.bind ?_ (fun _=>?_)
  ·intro y0 y1 y2 y3
   unfold penumbraref01_DivMod.l2
   with_reducible repeat' first
  |exact ih0 _ _ _
  |exact ih1 _ _ _ _ _ _
  |exact ih2 _ _ _ _ _ _ _ _ _ _
  |exact ih3 _ _ _ _ _ _ _ _
  |exact ih4 _ _ _ _ _ _ _ _
  |exact ih5 _ _ _ _
  |exact penumbraref01_Add.mono _ _ _
  |exact penumbraref01_Cmp.mono _ _ _
  |exact penumbraref01_Double.mono _ _ _
  |exact penumbraref01_Half.mono _ _
  |exact penumbraref01_Mul.mono _ _ _
  |exact penumbraref01_Norm.mono _ _
  |exact penumbraref01_Sub.mono _ _ _
  |exact penumbraref01_Zero.mono _ _
  |exact LeO.refl _
  |exact LeO.none _
  |refine LeO.ite ?_ ?_
  |refine LeO.bind ?_ (fun _=>?_)
theorem penumbraref01_DivMod.mono : ∀ a0 a1 k,LeO (penumbraref01_DivMod.f k a0 a1) (penumbraref01_DivMod.f (k+1) a0 a1):=by
 intro a0 a1 k
 obtain ⟨ih0,ih1,ih2,ih3,ih4,ih5⟩:=penumbraref01_DivMod.mono_l k
 unfold penumbraref01_DivMod.f
 with_reducible repeat' first
  |exact ih0 _ _ _
  |exact ih1 _ _ _ _ _ _
  |exact ih2 _ _ _ _ _ _ _ _ _ _
  |exact ih3 _ _ _ _ _ _ _ _
  |exact ih4 _ _ _ _ _ _ _ _
  |exact ih5 _ _ _ _
  |exact penumbraref01_Add.mono _ _ _
  |exact penumbraref01_Cmp.mono _ _ _
  |exact penumbraref01_Double.mono _ _ _
  |exact penumbraref01_Half.mono _ _
  |exact penumbraref01_Mul.mono _ _ _
  |exact penumbraref01_Norm.mono _ _
  |exact penumbraref01_Sub.mono _ _ _
  |exact penumbraref01_Zero.mono _ _
  |exact LeO.refl _
  |exact LeO.none _
  |refine LeO.ite ?_ ?_
  |refine LeO.bind ?_ (fun _=>?_)
set_option maxHeartbeats 8000000 in
set_option maxRecDepth 100000 in
theorem penumbraref01_DivMod.calls (k : Nat) (A0 : Option Addr) (c0 : Nat) (l0 : List Int) (A1 : Option Addr) (c1 : Nat) (l1 : List Int) (r1 : List Int) (r2 : List Int) (r3 : Bool) (w : World) (hr0 : Kd.C (Kd.int .u32) w A0 l0.length l0) (hc0 : l0.length≤c0) (hr1 : Kd.C (Kd.int .u32) w A1 l1.length l1) (hc1 : l1.length≤c1) (h : penumbraref01_DivMod.f k l0 l1=some (r1,r2,r3)) :
  Calls Tryd.prog 42 #[.slice A0 l0.length c0,.slice A1 l1.length c1] w fun e w'=>∃ v0_ v1_ : Value,e=.returned (.tuple #[v0_,v1_,.bool r3])∧Kd.R (Kd.int .u32) 35 w' w.heap.size (fun k_=>some k_≠(v1_ : Value).ownBlock) v0_ r1∧Kd.R (Kd.int .u32) 35 w' w.heap.size (fun k_=>some k_≠(v0_ : Value).ownBlock) v1_ r2∧Below w.heap.size w w':=by
 have HR0:=Aside0.mk hr0
 have HC0:=Aside0.mk hc0
 clear hr0 hc0
 have HR1:=Aside0.mk hr1
 have HC1:=Aside0.mk hc1
 clear hr1 hc1
 have HB:=Aside0.mk (Below.refl w.heap.size w)
 have H : ((penumbraref01_Zero.f k l1).bind fun t511=>(if t511=true then (some (([] : List Int),([] : List Int),false)) else ((penumbraref01_Norm.f k l1).bind fun t512=>((penumbraref01_Norm.f k l0).bind fun t515=>(penumbraref01_DivMod.l0 k t512 t515 0)))))=some (r1,r2,r3):=h
 clear h
 replace H:=Option.bind_eq_some_iff.mp H
 obtain ⟨t511,A30,H⟩:=H
 try dsimp only at H
 have A3:=Aside0.mk A30
 clear A30
 by_cases c4 : t511=true
 ·subst c4
  rw [if_pos rfl] at H
  simp only [Option.some.injEq,Prod.mk.injEq] at H
  obtain ⟨rfl,rfl,rfl⟩:=H
  go_enter Tryd.func42,Tryd.ntmps42
  go_wp2_with (first|(go_at_call 33;(with_reducible refine (penumbraref01_Zero.calls k _ _ l1 true _ ?side1 ?side2 A3.out).mono ?_);(case side1=>exact Cu HR1.out);(case side2=>exact HC1.out);rintro e w5 ⟨rfl,hb⟩;have n0_:=Aside0.mk (below_step (Hu HB.out) hb);clear HB;have HB:=n0_;clear n0_))
  go_ret3
  exact ⟨_,_,by first|rfl|(simp [errW_none,errW_some] <;> rfl)|(simp [*,errW_none,errW_some] <;> rfl),by first|exact Kd.R_nil _ _ _ _ _|exact Kd.N_nil _ _ _ _ _|exact Kd.V_nil _ _ _ _ _|exact Kd.Q_nil _ _ _ _ _|exact Kd.S_nil _ _ _ _ _,by first|exact Kd.R_nil _ _ _ _ _|exact Kd.N_nil _ _ _ _ _|exact Kd.V_nil _ _ _ _ _|exact Kd.Q_nil _ _ _ _ _|exact Kd.S_nil _ _ _ _ _,Hu HB.out⟩
 ·replace c4:=Bool.eq_false_iff.mpr c4
  subst c4
  rw [if_neg (show ¬ (false=true) by decide)] at H
  replace H:=Option.bind_eq_some_iff.mp H
  obtain ⟨t512,A60,H⟩:=H
  try dsimp only at H
  have A6:=Aside0.mk A60
  clear A60
  replace H:=Option.bind_eq_some_iff.mp H
  obtain ⟨t515,A70,H⟩:=H
  try dsimp only at H
  have A7:=Aside0.mk A70
  clear A70
  have H':=Aside0.mk H
  clear H
  go_enter Tryd.func42,Tryd.ntmps42
  go_wp2_with (first|(go_at_call 33;(with_reducible refine (penumbraref01_Zero.calls k _ _ l1 false _ ?side1 ?side2 A3.out).mono ?_);(case side1=>exact Cu HR1.out);(case side2=>exact HC1.out);rintro e w8 ⟨rfl,hb⟩;have n0_:=Aside0.mk (below_step (Hu HB.out) hb);clear HB;have HB:=n0_;clear n0_)|(go_at_call 58;(with_reducible refine (penumbraref01_Norm.calls k _ _ l1 t512 _ ?side1 ?side2 A6.out).mono ?_);(case side1=>repeat (first|exact (Kd.C_below HR1.out HB.out)|(with_reducible refine Kd.C_alloc ?_ _)|(with_reducible refine Kd.C_drewN ?_ _)|(with_reducible refine Kd.C_drew ?_)));(case side2=>exact HC1.out);rintro e w9 ⟨v513,rfl,ho0,hb⟩;have n0_:=Aside0.mk (Kd.R_lower ho0 (below_size (Hu HB.out)));have n1_:=Aside0.mk (below_step (Hu HB.out) hb);clear HB;have HO514:=n0_;have HB:=n1_;clear n0_ n1_)|(go_at_call 58;(with_reducible refine (penumbraref01_Norm.calls k _ _ l0 t515 _ ?side1 ?side2 A7.out).mono ?_);(case side1=>repeat (first|exact (Kd.C_below HR0.out HB.out)|(with_reducible refine Kd.C_alloc ?_ _)|(with_reducible refine Kd.C_drewN ?_ _)|(with_reducible refine Kd.C_drew ?_)));(case side2=>exact HC0.out);rintro e w10 ⟨v516,rfl,ho0,hb⟩;have n0_:=Aside0.mk (Kd.R_elder' (Ru HO514.out) (Kd.R_base ho0) hb);have n1_:=Aside0.mk (Kd.R_lower (Kd.R_new' ho0 (Kd.R_lt (Ru HO514.out))) (below_size (Hu HB.out)));have n2_:=Aside0.mk (below_step (Hu HB.out) hb);clear HO514;clear HB;have HO514:=n0_;have HO517:=n1_;have HB:=n2_;clear n0_ n1_ n2_))
  go_loopg [7,8,9] k (fun kq v7 v8 v9 w'=>∃ (x7_1 : List Int) (x8_1 : List Int) (x9_1 : Int),v9=.int .i64 x9_1∧Aside0 (penumbraref01_DivMod.l0 kq x7_1 x8_1 x9_1=some (r1,r2,r3))∧Aside0 (kq≤k)∧Aside0 (Kd.R (Kd.int .u32) 35 w' w.heap.size (fun k_=>some k_≠(v8 : Value).ownBlock) v7 x7_1)∧Aside0 (Kd.R (Kd.int .u32) 35 w' w.heap.size (fun k_=>some k_≠(v7 : Value).ownBlock) v8 x8_1)∧Aside0 (Below w.heap.size w w'))
  case atStart=>exact ⟨(t512),(t515),(0),(by first|rfl|(simp;done)|(simp [*];done)),H',⟨Nat.le_refl _⟩,⟨by (with_reducible repeat (first|apply Ra|apply Rn|apply Rd));exact Kd.R_mono HO514.out (fun _ hk=>hk.2)⟩,⟨by (with_reducible repeat (first|apply Ra|apply Rn|apply Rd));exact Kd.R_mono HO517.out (fun _ hk=>hk.2)⟩,⟨Hu HB.out⟩⟩
  case round =>
   clear H'
   obtain ⟨x7_1,x8_1,x9_1,rfl,HA,HK1,HO_7,HO_8,HB⟩:=hrel
   cases gk with
  |zero=>exact absurd HA.out (by simp [penumbraref01_DivMod.l0])
  |succ k1 =>
    have H:=HA.out
    clear HA
    simp only [penumbraref01_DivMod.l0] at H
    obtain ⟨ji11,hji11⟩ : ∃ j_ : Int,(wrap64 ((x7_1.length : Int) - 1))=j_:=⟨_,rfl⟩
    replace H : (if 0≤(ji11) then (if (ji11) < (x7_1.length : Int) then (if (rd x7_1 (ji11)) < 2147483648 then ((penumbraref01_Double.f k1 x7_1 false).bind fun t519=>((penumbraref01_Double.f k1 x8_1 false).bind fun t522=>(penumbraref01_DivMod.l0 k1 t519 t522 (wrap64 (x9_1+1))))) else (penumbraref01_DivMod.l1 k1 x7_1 x8_1 x9_1 (([] : List Int)) (x7_1.length : Int) (IntKind.u64.wrap ((IntKind.u64.wrap (rd x7_1 (ji11)))+1)))) else (none)) else (none))=some (r1,r2,r3):=by first|(rw [hji11] at H;exact H)|(simp only [hji11] at H ⊢;exact H)
    have hji11w : (IntKind.i64.wrap ((x7_1.length : Int) - 1))=ji11:=(i64_w _).trans hji11
    by_cases c12 : 0≤(ji11)
    case neg =>rw [if_neg c12] at H;exact absurd H (by simp)
    rw [if_pos c12] at H
    have c12b0 : decide (0≤(ji11))=true:=decide_eq_true c12
    clear c12
    by_cases c13 : (ji11) < (x7_1.length : Int)
    case neg =>rw [if_neg c13] at H;exact absurd H (by simp)
    rw [if_pos c13] at H
    have c13b0 : decide ((ji11) < (x7_1.length : Int))=true:=decide_eq_true c13
    clear c13
    by_cases c14 : (rd x7_1 (ji11)) < 2147483648
    ·rw [if_pos c14] at H
     have c14b0 : decide ((rd x7_1 (ji11)) < 2147483648)=true:=decide_eq_true c14
     clear c14
     replace H:=Option.bind_eq_some_iff.mp H
     obtain ⟨t519,A150,H⟩:=H
     try dsimp only at H
     have A15:=Aside0.mk A150
     clear A150
     replace H:=Option.bind_eq_some_iff.mp H
     obtain ⟨t522,A160,H⟩:=H
     try dsimp only at H
     have A16:=Aside0.mk A160
     clear A160
     have H':=Aside0.mk H
     clear H
     obtain ⟨Ao17,co17,eo17⟩:=Kd.R_slice HO_7.out
     subst eo17
     have p518 : 0≤((ji11) : Int):=of_decide_eq_true (by assumption)
     have q518 : (ji11) < (x7_1.length : Int):=of_decide_eq_true (by assumption)
     obtain ⟨ad518,e518,hx518_0⟩:=Kd.at_int (Kd.R_reads' HO_7.out).2.2 (ji11) p518 q518
     cases e518
     replace p518:=eq_true p518
     replace q518:=eq_true q518
     go_wp2_with (first|(go_at_call 70;(with_reducible refine (penumbraref01_Double.calls k1 _ _ x7_1 false t519 _ ?side1 ?side2 A15.out).mono ?_);(case side1=>exact Cu (Kd.R_reads' HO_7.out).2.2);(case side2=>exact (Kd.R_reads' HO_7.out).2.1);rintro e w18 ⟨v520,rfl,ho0,hb⟩;have n0_:=Aside0.mk (Kd.R_elder' (Ru HO_7.out) (Kd.R_base ho0) hb);have n1_:=Aside0.mk (Kd.R_elder' (Ru HO_8.out) (Kd.R_base ho0) hb);have n2_:=Aside0.mk (Kd.R_lower (Kd.R_new' (Kd.R_new' ho0 (Kd.R_lt (Ru HO_7.out))) (Kd.R_lt (Ru HO_8.out))) (below_size (Hu HB.out)));have n3_:=Aside0.mk (below_step (Hu HB.out) hb);clear HO_7;clear HO_8;clear HB;have HO_7:=n0_;have HO_8:=n1_;have HO521:=n2_;have HB:=n3_;clear n0_ n1_ n2_ n3_;obtain ⟨Ao19,co19,eo19⟩:=Kd.R_slice HO_8.out;subst eo19)|(go_at_call 70;(with_reducible refine (penumbraref01_Double.calls k1 _ _ x8_1 false t522 _ ?side1 ?side2 A16.out).mono ?_);(case side1=>exact Cu (Kd.R_reads' HO_8.out).2.2);(case side2=>exact (Kd.R_reads' HO_8.out).2.1);rintro e w20 ⟨v523,rfl,ho0,hb⟩;have n0_:=Aside0.mk (Kd.R_elder' (Ru HO_7.out) (Kd.R_base ho0) hb);have n1_:=Aside0.mk (Kd.R_elder' (Ru HO_8.out) (Kd.R_base ho0) hb);have n2_:=Aside0.mk (Kd.R_elder' (Ru HO521.out) (Kd.R_base ho0) hb);have n3_:=Aside0.mk (Kd.R_lower (Kd.R_new' (Kd.R_new' (Kd.R_new' ho0 (Kd.R_lt (Ru HO_7.out))) (Kd.R_lt (Ru HO_8.out))) (Kd.R_lt (Ru HO521.out))) (below_size (Hu HB.out)));have n4_:=Aside0.mk (below_step (Hu HB.out) hb);clear HO_7;clear HO_8;clear HO521;clear HB;have HO_7:=n0_;have HO_8:=n1_;have HO521:=n2_;have HO524:=n3_;have HB:=n4_;clear n0_ n1_ n2_ n3_ n4_))
     go_roundg k1
     case measure=>have:=HK1.out;omega
     case rel=>exact ⟨(t519),(t522),(wrap64 (x9_1+1)),(by first|rfl|(simp;done)|(simp [*];done)),H',⟨by have:=HK1.out;omega⟩,⟨by (with_reducible repeat (first|apply Ra|apply Rn|apply Rd));exact Kd.R_mono HO521.out (fun _ hk=>hk.2)⟩,⟨by (with_reducible repeat (first|apply Ra|apply Rn|apply Rd));exact Kd.R_mono HO524.out (fun _ hk=>hk.2)⟩,⟨Hu HB.out⟩⟩
    ·rw [if_neg c14] at H
     have c14b0 : decide ((rd x7_1 (ji11)) < 2147483648)=false:=decide_eq_false c14
     clear c14
     obtain ⟨y525,hy525⟩ : ∃ y_ : List Int,y_=(([] : List Int)):=⟨_,rfl⟩
     replace H : (penumbraref01_DivMod.l1 k1 x7_1 x8_1 x9_1 y525 (x7_1.length : Int) (IntKind.u64.wrap ((IntKind.u64.wrap (rd x7_1 (ji11)))+1)))=some (r1,r2,r3):=by first|(rw [hy525];with_reducible exact H)|(have H2_:=(Option.bind_some _ _).symm.trans H;rw [hy525];with_reducible exact H2_)|(have H2_:=(Option.bind_some _ _).symm.trans H;with_reducible exact H2_)|with_reducible exact H|(rw [hy525];exact H)|exact H
     have Ny525:=Aside0.mk hy525
     clear hy525
     have H':=Aside0.mk H
     clear H
     obtain ⟨Ao21,co21,eo21⟩:=Kd.R_slice HO_7.out
     subst eo21
     have p518 : 0≤((ji11) : Int):=of_decide_eq_true (by assumption)
     have q518 : (ji11) < (x7_1.length : Int):=of_decide_eq_true (by assumption)
     obtain ⟨ad518,e518,hx518_0⟩:=Kd.at_int (Kd.R_reads' HO_7.out).2.2 (ji11) p518 q518
     cases e518
     replace p518:=eq_true p518
     replace q518:=eq_true q518
     go_wp2_with (first|((with_reducible refine gate_dst (N:=37) rfl ?_);refine Kd.R_lit (Kd.int .u32) _ 35 ?hg (N:=37) ?hd (xs:=([] : List Int)) (inner:=[]) (ok:=fun _=>True) (okp:=fun _=>True) ?hr ?hp (fun _ hk=>hk) trivial (Below.refl _ _) (Nat.le_refl _) (by simp) ?_;(case hd=>rfl);(case hg=>rfl);(case hr=>first|(go_simp;done)|(go_simp;(with_reducible rfl))|(go_simp;rfl)|(go_simp;simp only [hu,Int.emod_sub_emod]));(case hp=>exact (Reps.none _ _));intro v526 w22 ho23 hb hg_ hnew_;clear hg_ hnew_;(first|rw [← Ny525.out] at ho23|(simp only [Int.reduceToNat] at ho23;rw [← Ny525.out] at ho23));have n0_:=Aside0.mk (Kd.R_elder' (Ru HO_7.out) (Kd.R_base ho23) hb);have n1_:=Aside0.mk (Kd.R_elder' (Ru HO_8.out) (Kd.R_base ho23) hb);have n2_:=Aside0.mk (Kd.R_lower (Kd.R_new' (Kd.R_new' ho23 (Kd.R_lt (Ru HO_7.out))) (Kd.R_lt (Ru HO_8.out))) (below_size (Hu HB.out)));have n3_:=Aside0.mk (below_step (Hu HB.out) hb);clear HO_7;clear HO_8;clear HB;have HO_7:=n0_;have HO_8:=n1_;have HO527:=n2_;have HB:=n3_;clear n0_ n1_ n2_ n3_;clear hb ho23;have p528 : 0≤((ji11) : Int):=of_decide_eq_true (by assumption);have q528 : (ji11) < (x7_1.length : Int):=of_decide_eq_true (by assumption);obtain ⟨ad528,e528,hx528_0⟩:=Kd.at_int (Kd.R_reads' HO_7.out).2.2 (ji11) p528 q528;obtain rfl : ad518=ad528:=(by injection e528);replace p528:=eq_true p528;replace q528:=eq_true q528))
     go_loopg [8,10] k1 (fun kq v8 v10 w'=>∃ (x8_2 : List Int) (x10_2 : List Int),Aside0 (penumbraref01_DivMod.l1 kq x7_1 x8_2 x9_1 x10_2 (x7_1.length : Int) (IntKind.u64.wrap ((IntKind.u64.wrap (rd x7_1 (ji11)))+1))=some (r1,r2,r3))∧Aside0 (kq≤k1)∧Aside0 (Kd.R (Kd.int .u32) 35 w' w.heap.size (fun k_=>some k_≠(v8 : Value).ownBlock∧some k_≠(v10 : Value).ownBlock) (.slice (some ad518) x7_1.length co21) x7_1)∧Aside0 (Kd.R (Kd.int .u32) 35 w' w.heap.size (fun k_=>some k_≠((.slice (some ad518) x7_1.length co21) : Value).ownBlock∧some k_≠(v10 : Value).ownBlock) v8 x8_2)∧Aside0 (Kd.R (Kd.int .u32) 35 w' w.heap.size (fun k_=>some k_≠((.slice (some ad518) x7_1.length co21) : Value).ownBlock∧some k_≠(v8 : Value).ownBlock) v10 x10_2)∧Aside0 (Below w.heap.size w w'))
     case atStart=>exact ⟨(x8_1),(y525),H',⟨Nat.le_refl _⟩,⟨Ru HO_7.out⟩,⟨Ru HO_8.out⟩,⟨by (with_reducible repeat (first|apply Ra|apply Rn|apply Rd));exact Kd.R_mono HO527.out (fun _ hk=>⟨hk.1.2,hk.2⟩)⟩,⟨Hu HB.out⟩⟩
     case round =>
      clear H'
      obtain ⟨x8_2,x10_2,HA,HK2,HO_7,HO_8,HO_10,HB⟩:=hrel
      cases gk with
     |zero=>exact absurd HA.out (by simp [penumbraref01_DivMod.l1])
     |succ k2 =>
       have H:=HA.out
       clear HA
       simp only [penumbraref01_DivMod.l1] at H
       replace H:=Option.bind_eq_some_iff.mp H
       obtain ⟨t529,A240,H⟩:=H
       try dsimp only at H
       have A24:=Aside0.mk A240
       clear A240
       by_cases c25 : t529 ≥ 0
       ·rw [if_pos c25] at H
        have c25b0 : decide (0≤t529)=true:=decide_eq_true c25
        clear c25
        obtain ⟨ji26,hji26⟩ : ∃ j_ : Int,(wrap64 ((x8_2.length : Int) - 1))=j_:=⟨_,rfl⟩
        replace H : (if 0≤(ji26) then (if (ji26) < (x8_2.length : Int) then (if (IntKind.u64.wrap ((IntKind.u64.wrap (rd x7_1 (ji11)))+1))=0 then (none) else (if (IntKind.u64.wrap (Int.tdiv (IntKind.u64.wrap (rd x8_2 (ji26))) (IntKind.u64.wrap ((IntKind.u64.wrap (rd x7_1 (ji11)))+1))))=0 then (penumbraref01_DivMod.j2 k2 x7_1 x8_2 x9_1 x10_2 (x7_1.length : Int) (IntKind.u64.wrap ((IntKind.u64.wrap (rd x7_1 (ji11)))+1)) (x8_2.length : Int) (wrap64 ((x8_2.length : Int) - (x7_1.length : Int))) (IntKind.u64.wrap (Int.tdiv (IntKind.u64.wrap (rd x8_2 (ji26))) (IntKind.u64.wrap ((IntKind.u64.wrap (rd x7_1 (ji11)))+1)))) (decide ((x8_2.length : Int) > (x7_1.length : Int)))) else (penumbraref01_DivMod.j2 k2 x7_1 x8_2 x9_1 x10_2 (x7_1.length : Int) (IntKind.u64.wrap ((IntKind.u64.wrap (rd x7_1 (ji11)))+1)) (x8_2.length : Int) (wrap64 ((x8_2.length : Int) - (x7_1.length : Int))) (IntKind.u64.wrap (Int.tdiv (IntKind.u64.wrap (rd x8_2 (ji26))) (IntKind.u64.wrap ((IntKind.u64.wrap (rd x7_1 (ji11)))+1)))) false))) else (none)) else (none))=some (r1,r2,r3):=by first|(rw [hji26] at H;exact H)|(simp only [hji26] at H ⊢;exact H)
        (try rw [hji26] at A24)
        have hji26w : (IntKind.i64.wrap ((x8_2.length : Int) - 1))=ji26:=(i64_w _).trans hji26
        by_cases c27 : 0≤(ji26)
        case neg =>rw [if_neg c27] at H;exact absurd H (by simp)
        rw [if_pos c27] at H
        have c27b0 : decide (0≤(ji26))=true:=decide_eq_true c27
        clear c27
        by_cases c28 : (ji26) < (x8_2.length : Int)
        case neg =>rw [if_neg c28] at H;exact absurd H (by simp)
        rw [if_pos c28] at H
        have c28b0 : decide ((ji26) < (x8_2.length : Int))=true:=decide_eq_true c28
        clear c28
        by_cases c29 : (IntKind.u64.wrap ((IntKind.u64.wrap (rd x7_1 (ji11)))+1))=0
        ·rw [if_pos c29] at H
         exact absurd H (by simp)
        ·rw [if_neg c29] at H
         have c29b0 : ((IntKind.u64.wrap ((IntKind.u64.wrap (rd x7_1 (ji11)))+1)) == 0)=false:=beq_eq_false_iff_ne.mpr c29
         have c29b1 : ((IntKind.u64.wrap ((IntKind.u64.wrap (rd x7_1 (ji11)))+1)) != 0)=true:=bne_iff_ne.mpr c29
         have HC30:=Aside0.mk H
         clear H
         obtain ⟨Ao31,co31,eo31⟩:=Kd.R_slice HO_8.out
         subst eo31
         go_upto_region 17 with (first|(go_at_call 59;(with_reducible refine (penumbraref01_Cmp.calls k2 _ _ x8_2 _ _ x7_1 t529 _ ?side1 ?side2 ?side3 ?side4 A24.out).mono ?_);(case side1=>exact Cu (Kd.R_reads' HO_8.out).2.2);(case side2=>exact (Kd.R_reads' HO_8.out).2.1);(case side3=>exact Cu (Kd.R_reads' HO_7.out).2.2);(case side4=>exact (Kd.R_reads' HO_7.out).2.1);rintro e w32 ⟨rfl,hb⟩;have n0_:=Aside0.mk (Kd.R_below (Ru HO_7.out) hb);have n1_:=Aside0.mk (Kd.R_below (Ru HO_8.out) hb);have n2_:=Aside0.mk (Kd.R_below (Ru HO_10.out) hb);have n3_:=Aside0.mk (below_step (Hu HB.out) hb);clear HO_7;clear HO_8;clear HO_10;clear HB;have HO_7:=n0_;have HO_8:=n1_;have HO_10:=n2_;have HB:=n3_;clear n0_ n1_ n2_ n3_;have p530 : 0≤((ji26) : Int):=of_decide_eq_true (by assumption);have q530 : (ji26) < (x8_2.length : Int):=of_decide_eq_true (by assumption);obtain ⟨ad530,e530,hx530_0⟩:=Kd.at_int (Kd.R_reads' HO_8.out).2.2 (ji26) p530 q530;cases e530;replace p530:=eq_true p530;replace q530:=eq_true q530))
         (try simp only [Act.put,s0,s1,s2])
         go_cut [70] (fun v70 wc=>∃ (kq : Nat) (x70_29 : Bool),v70=.bool x70_29∧Aside0 (penumbraref01_DivMod.j2 kq x7_1 x8_2 x9_1 x10_2 (x7_1.length : Int) (IntKind.u64.wrap ((IntKind.u64.wrap (rd x7_1 (ji11)))+1)) (x8_2.length : Int) (wrap64 ((x8_2.length : Int) - (x7_1.length : Int))) (IntKind.u64.wrap (Int.tdiv (IntKind.u64.wrap (rd x8_2 (ji26))) (IntKind.u64.wrap ((IntKind.u64.wrap (rd x7_1 (ji11)))+1)))) x70_29=some (r1,r2,r3))∧Aside0 (kq≤k2)∧Aside0 (Kd.R (Kd.int .u32) 35 wc w.heap.size (fun k_=>some k_≠((.slice (some ad530) x8_2.length co31) : Value).ownBlock∧some k_≠(u10 : Value).ownBlock) (.slice (some ad518) x7_1.length co21) x7_1)∧Aside0 (Kd.R (Kd.int .u32) 35 wc w.heap.size (fun k_=>some k_≠((.slice (some ad518) x7_1.length co21) : Value).ownBlock∧some k_≠(u10 : Value).ownBlock) (.slice (some ad530) x8_2.length co31) x8_2)∧Aside0 (Kd.R (Kd.int .u32) 35 wc w.heap.size (fun k_=>some k_≠((.slice (some ad518) x7_1.length co21) : Value).ownBlock∧some k_≠((.slice (some ad530) x8_2.length co31) : Value).ownBlock) u10 x10_2)∧Aside0 (Below w.heap.size w wc))
         case first =>
          have H:=HC30.out
          clear HC30
          by_cases c33 : (IntKind.u64.wrap (Int.tdiv (IntKind.u64.wrap (rd x8_2 (ji26))) (IntKind.u64.wrap ((IntKind.u64.wrap (rd x7_1 (ji11)))+1))))=0
          ·rw [if_pos c33] at H
           have c33b0 : ((IntKind.u64.wrap (Int.tdiv (IntKind.u64.wrap (rd x8_2 (ji26))) (IntKind.u64.wrap ((IntKind.u64.wrap (rd x7_1 (ji11)))+1)))) == 0)=true:=beq_iff_eq.mpr c33
           have c33b1 : ((IntKind.u64.wrap (Int.tdiv (IntKind.u64.wrap (rd x8_2 (ji26))) (IntKind.u64.wrap ((IntKind.u64.wrap (rd x7_1 (ji11)))+1)))) != 0)=false:=bne_eq_false_iff_eq.mpr c33
           clear c33
           (first|rw [c33b0]|(simp only [i64_w,i32_w];rw [c33b0])|skip)
           have H':=Aside0.mk H
           clear H
           go_wp2
           go_meet
           case rel=>exact ⟨_,(decide ((x8_2.length : Int) > (x7_1.length : Int))),(by first|rfl|(simp;done)|(simp [*];done)),H',⟨by have:=HK1.out;have:=HK2.out;first|omega|exact Nat.le_refl _⟩,⟨Ru HO_7.out⟩,⟨Ru HO_8.out⟩,⟨Ru HO_10.out⟩,⟨Hu HB.out⟩⟩
          ·rw [if_neg c33] at H
           have c33b0 : ((IntKind.u64.wrap (Int.tdiv (IntKind.u64.wrap (rd x8_2 (ji26))) (IntKind.u64.wrap ((IntKind.u64.wrap (rd x7_1 (ji11)))+1)))) == 0)=false:=beq_eq_false_iff_ne.mpr c33
           have c33b1 : ((IntKind.u64.wrap (Int.tdiv (IntKind.u64.wrap (rd x8_2 (ji26))) (IntKind.u64.wrap ((IntKind.u64.wrap (rd x7_1 (ji11)))+1)))) != 0)=true:=bne_iff_ne.mpr c33
           (first|rw [c33b0]|(simp only [i64_w,i32_w];rw [c33b0])|skip)
           have H':=Aside0.mk H
           clear H
           go_wp2
           go_meet
           case rel=>exact ⟨_,(false),(by first|rfl|(simp;done)|(simp [*];done)),H',⟨by have:=HK1.out;have:=HK2.out;first|omega|exact Nat.le_refl _⟩,⟨Ru HO_7.out⟩,⟨Ru HO_8.out⟩,⟨Ru HO_10.out⟩,⟨Hu HB.out⟩⟩
         case rest =>
          clear HC30
          obtain ⟨kq,x70_29,rfl,HA,HJ29,HO_7,HO_8,HO_10,HB⟩:=hcut
          cases kq with
         |zero=>exact absurd HA.out (by simp [penumbraref01_DivMod.j2])
         |succ kj29 =>
           have H:=HA.out
           clear HA
           simp only [penumbraref01_DivMod.j2] at H
           have HC34:=Aside0.mk H
           clear H
           go_upto_if 70 with (fail)
           go_cut [14,15] (fun v14 v15 wc=>∃ (kq : Nat) (x14_33 : Int) (x15_33 : Int),v14=.int .i64 x14_33∧v15=.int .u64 x15_33∧Aside0 (penumbraref01_DivMod.j3 kq x7_1 x8_2 x9_1 x10_2 (x7_1.length : Int) (IntKind.u64.wrap ((IntKind.u64.wrap (rd x7_1 (ji11)))+1)) x14_33 x15_33=some (r1,r2,r3))∧Aside0 (kq≤kj29)∧Aside0 (Kd.R (Kd.int .u32) 35 wc w.heap.size (fun k_=>some k_≠((.slice (some ad530) x8_2.length co31) : Value).ownBlock∧some k_≠(u10 : Value).ownBlock) (.slice (some ad518) x7_1.length co21) x7_1)∧Aside0 (Kd.R (Kd.int .u32) 35 wc w.heap.size (fun k_=>some k_≠((.slice (some ad518) x7_1.length co21) : Value).ownBlock∧some k_≠(u10 : Value).ownBlock) (.slice (some ad530) x8_2.length co31) x8_2)∧Aside0 (Kd.R (Kd.int .u32) 35 wc w.heap.size (fun k_=>some k_≠((.slice (some ad518) x7_1.length co21) : Value).ownBlock∧some k_≠((.slice (some ad530) x8_2.length co31) : Value).ownBlock) u10 x10_2)∧Aside0 (Below w.heap.size w wc))
           case first =>
            have H:=HC34.out
            clear HC34
            by_cases c35 : x70_29=true
            ·subst c35
             rw [if_pos rfl] at H
             replace H : (if 0≤(ji26) then (if (ji26) < (x8_2.length : Int) then (if 0≤(wrap64 ((x8_2.length : Int) - 2)) then (if (wrap64 ((x8_2.length : Int) - 2)) < (x8_2.length : Int) then (if (IntKind.u64.wrap ((IntKind.u64.wrap (rd x7_1 (ji11)))+1))=0 then (none) else (penumbraref01_DivMod.j3 kj29 x7_1 x8_2 x9_1 x10_2 (x7_1.length : Int) (IntKind.u64.wrap ((IntKind.u64.wrap (rd x7_1 (ji11)))+1)) (wrap64 ((wrap64 ((x8_2.length : Int) - (x7_1.length : Int))) - 1)) (IntKind.u64.wrap (Int.tdiv (IntKind.u64.wrap ((IntKind.u64.wrap ((IntKind.u64.wrap (rd x8_2 (ji26))) * 4294967296))+(IntKind.u64.wrap (rd x8_2 (wrap64 ((x8_2.length : Int) - 2)))))) (IntKind.u64.wrap ((IntKind.u64.wrap (rd x7_1 (ji11)))+1)))))) else (none)) else (none)) else (none)) else (none))=some (r1,r2,r3):=by first|(rw [hji26] at H;exact H)|(simp only [hji26] at H ⊢;exact H)
             have hji26w : (IntKind.i64.wrap ((x8_2.length : Int) - 1))=ji26:=(i64_w _).trans hji26
             by_cases c36 : 0≤(ji26)
             case neg =>rw [if_neg c36] at H;exact absurd H (by simp)
             rw [if_pos c36] at H
             have c36b0 : decide (0≤(ji26))=true:=decide_eq_true c36
             clear c36
             (first|rw [c36b0]|(simp only [i64_w,i32_w];rw [c36b0])|skip)
             by_cases c37 : (ji26) < (x8_2.length : Int)
             case neg =>rw [if_neg c37] at H;exact absurd H (by simp)
             rw [if_pos c37] at H
             have c37b0 : decide ((ji26) < (x8_2.length : Int))=true:=decide_eq_true c37
             clear c37
             obtain ⟨ji38,hji38⟩ : ∃ j_ : Int,(wrap64 ((x8_2.length : Int) - 2))=j_:=⟨_,rfl⟩
             replace H : (if 0≤(ji38) then (if (ji38) < (x8_2.length : Int) then (if (IntKind.u64.wrap ((IntKind.u64.wrap (rd x7_1 (ji11)))+1))=0 then (none) else (penumbraref01_DivMod.j3 kj29 x7_1 x8_2 x9_1 x10_2 (x7_1.length : Int) (IntKind.u64.wrap ((IntKind.u64.wrap (rd x7_1 (ji11)))+1)) (wrap64 ((wrap64 ((x8_2.length : Int) - (x7_1.length : Int))) - 1)) (IntKind.u64.wrap (Int.tdiv (IntKind.u64.wrap ((IntKind.u64.wrap ((IntKind.u64.wrap (rd x8_2 (ji26))) * 4294967296))+(IntKind.u64.wrap (rd x8_2 (ji38))))) (IntKind.u64.wrap ((IntKind.u64.wrap (rd x7_1 (ji11)))+1)))))) else (none)) else (none))=some (r1,r2,r3):=by first|(rw [hji38] at H;exact H)|(simp only [hji38] at H ⊢;exact H)
             have hji38w : (IntKind.i64.wrap ((x8_2.length : Int) - 2))=ji38:=(i64_w _).trans hji38
             by_cases c39 : 0≤(ji38)
             case neg =>rw [if_neg c39] at H;exact absurd H (by simp)
             rw [if_pos c39] at H
             have c39b0 : decide (0≤(ji38))=true:=decide_eq_true c39
             clear c39
             by_cases c40 : (ji38) < (x8_2.length : Int)
             case neg =>rw [if_neg c40] at H;exact absurd H (by simp)
             rw [if_pos c40] at H
             have c40b0 : decide ((ji38) < (x8_2.length : Int))=true:=decide_eq_true c40
             clear c40
             by_cases c41 : (IntKind.u64.wrap ((IntKind.u64.wrap (rd x7_1 (ji11)))+1))=0
             ·rw [if_pos c41] at H
              exact absurd H (by simp)
             ·rw [if_neg c41] at H
              have c41b0 : ((IntKind.u64.wrap ((IntKind.u64.wrap (rd x7_1 (ji11)))+1)) == 0)=false:=beq_eq_false_iff_ne.mpr c41
              have c41b1 : ((IntKind.u64.wrap ((IntKind.u64.wrap (rd x7_1 (ji11)))+1)) != 0)=true:=bne_iff_ne.mpr c41
              have H':=Aside0.mk H
              clear H
              have p531 : 0≤((ji26) : Int):=of_decide_eq_true (by assumption)
              have q531 : (ji26) < (x8_2.length : Int):=of_decide_eq_true (by assumption)
              obtain ⟨ad531,e531,hx531_0⟩:=Kd.at_int (Kd.R_reads' HO_8.out).2.2 (ji26) p531 q531
              obtain rfl : ad530=ad531:=(by injection e531)
              replace p531:=eq_true p531
              replace q531:=eq_true q531
              have p532 : 0≤((ji38) : Int):=of_decide_eq_true (by assumption)
              have q532 : (ji38) < (x8_2.length : Int):=of_decide_eq_true (by assumption)
              obtain ⟨ad532,e532,hx532_0⟩:=Kd.at_int (Kd.R_reads' HO_8.out).2.2 (ji38) p532 q532
              obtain rfl : ad530=ad532:=(by injection e532)
              replace p532:=eq_true p532
              replace q532:=eq_true q532
              go_wp2
              repeat (go_quiet (fail);try go_wp2)
              go_meet
              case rel=>exact ⟨_,(wrap64 ((wrap64 ((x8_2.length : Int) - (x7_1.length : Int))) - 1)),(IntKind.u64.wrap (Int.tdiv (IntKind.u64.wrap ((IntKind.u64.wrap ((IntKind.u64.wrap (rd x8_2 (ji26))) * 4294967296))+(IntKind.u64.wrap (rd x8_2 (ji38))))) (IntKind.u64.wrap ((IntKind.u64.wrap (rd x7_1 (ji11)))+1)))),(by first|rfl|(simp;done)|(simp [*];done)),(by first|rfl|(simp;done)|(simp only [← hji11,← hji26,← hji26,← hji38] <;> (first|rfl|simp))|(simp [*];done)),H',⟨by have:=HK1.out;have:=HK2.out;have:=HJ29.out;first|omega|exact Nat.le_refl _⟩,⟨Ru HO_7.out⟩,⟨Ru HO_8.out⟩,⟨Ru HO_10.out⟩,⟨Hu HB.out⟩⟩
            ·replace c35:=Bool.eq_false_iff.mpr c35
             subst c35
             rw [if_neg (show ¬ (false=true) by decide)] at H
             have H':=Aside0.mk H
             clear H
             go_wp2
             go_meet
             case rel=>exact ⟨_,((wrap64 ((x8_2.length : Int) - (x7_1.length : Int)))),((IntKind.u64.wrap (Int.tdiv (IntKind.u64.wrap (rd x8_2 (ji26))) (IntKind.u64.wrap ((IntKind.u64.wrap (rd x7_1 (ji11)))+1))))),(by first|rfl|(simp;done)|(simp [*];done)),(by first|rfl|(simp;done)|(simp only [← hji11,← hji26] <;> (first|rfl|simp))|(simp [*];done)),H',⟨by have:=HK1.out;have:=HK2.out;have:=HJ29.out;first|omega|exact Nat.le_refl _⟩,⟨Ru HO_7.out⟩,⟨Ru HO_8.out⟩,⟨Ru HO_10.out⟩,⟨Hu HB.out⟩⟩
           case rest =>
            clear HC34
            obtain ⟨kq,x14_33,x15_33,rfl,rfl,HA,HJ33,HO_7,HO_8,HO_10,HB⟩:=hcut
            cases kq with
           |zero=>exact absurd HA.out (by simp [penumbraref01_DivMod.j3])
           |succ kj33 =>
             have H:=HA.out
             clear HA
             simp only [penumbraref01_DivMod.j3] at H
             have HC42:=Aside0.mk H
             clear H
             go_upto_if 90 with (fail)
             go_cut [15] (fun v15 wc=>∃ (kq : Nat) (x15_41 : Int),v15=.int .u64 x15_41∧Aside0 (penumbraref01_DivMod.j4 kq x7_1 x8_2 x9_1 x10_2 (x7_1.length : Int) (IntKind.u64.wrap ((IntKind.u64.wrap (rd x7_1 (ji11)))+1)) x14_33 x15_41=some (r1,r2,r3))∧Aside0 (kq≤kj33)∧Aside0 (Kd.R (Kd.int .u32) 35 wc w.heap.size (fun k_=>some k_≠((.slice (some ad530) x8_2.length co31) : Value).ownBlock∧some k_≠(u10 : Value).ownBlock) (.slice (some ad518) x7_1.length co21) x7_1)∧Aside0 (Kd.R (Kd.int .u32) 35 wc w.heap.size (fun k_=>some k_≠((.slice (some ad518) x7_1.length co21) : Value).ownBlock∧some k_≠(u10 : Value).ownBlock) (.slice (some ad530) x8_2.length co31) x8_2)∧Aside0 (Kd.R (Kd.int .u32) 35 wc w.heap.size (fun k_=>some k_≠((.slice (some ad518) x7_1.length co21) : Value).ownBlock∧some k_≠((.slice (some ad530) x8_2.length co31) : Value).ownBlock) u10 x10_2)∧Aside0 (Below w.heap.size w wc))
             case first =>
              have H:=HC42.out
              clear HC42
              by_cases c43 : x15_33=0
              ·rw [if_pos c43] at H
               have c43b0 : (x15_33 == 0)=true:=beq_iff_eq.mpr c43
               have c43b1 : (x15_33 != 0)=false:=bne_eq_false_iff_eq.mpr c43
               clear c43
               (first|rw [c43b0]|(simp only [i64_w,i32_w];rw [c43b0])|skip)
               have H':=Aside0.mk H
               clear H
               go_wp2
               go_meet
               case rel=>exact ⟨_,(1),(by first|rfl|(simp;done)|(simp [*];done)),H',⟨by have:=HK1.out;have:=HK2.out;have:=HJ29.out;have:=HJ33.out;first|omega|exact Nat.le_refl _⟩,⟨Ru HO_7.out⟩,⟨Ru HO_8.out⟩,⟨Ru HO_10.out⟩,⟨Hu HB.out⟩⟩
              ·rw [if_neg c43] at H
               have c43b0 : (x15_33 == 0)=false:=beq_eq_false_iff_ne.mpr c43
               have c43b1 : (x15_33 != 0)=true:=bne_iff_ne.mpr c43
               (first|rw [c43b0]|(simp only [i64_w,i32_w];rw [c43b0])|skip)
               have H':=Aside0.mk H
               clear H
               go_wp2
               go_meet
               case rel=>exact ⟨_,(x15_33),(by first|rfl|(simp;done)|(simp [*];done)),H',⟨by have:=HK1.out;have:=HK2.out;have:=HJ29.out;have:=HJ33.out;first|omega|exact Nat.le_refl _⟩,⟨Ru HO_7.out⟩,⟨Ru HO_8.out⟩,⟨Ru HO_10.out⟩,⟨Hu HB.out⟩⟩
             case rest =>
              clear HC42
              obtain ⟨kq,x15_41,rfl,HA,HJ41,HO_7,HO_8,HO_10,HB⟩:=hcut
              cases kq with
             |zero=>exact absurd HA.out (by simp [penumbraref01_DivMod.j4])
             |succ kj41 =>
               have H:=HA.out
               clear HA
               simp only [penumbraref01_DivMod.j4] at H
               replace H:=Option.bind_eq_some_iff.mp H
               obtain ⟨t533,A440,H⟩:=H
               try dsimp only at H
               have A44:=Aside0.mk A440
               clear A440
               replace H:=Option.bind_eq_some_iff.mp H
               obtain ⟨t536,A450,H⟩:=H
               try dsimp only at H
               have A45:=Aside0.mk A450
               clear A450
               replace H:=Option.bind_eq_some_iff.mp H
               obtain ⟨t539,A460,H⟩:=H
               try dsimp only at H
               have A46:=Aside0.mk A460
               clear A460
               replace H:=Option.bind_eq_some_iff.mp H
               obtain ⟨⟨t542,t543⟩,A470,H⟩:=H
               try dsimp only at H
               have A47:=Aside0.mk A470
               clear A470
               have H':=Aside0.mk H
               clear H
               go_wp2_with (first|(go_at_call 71;(with_reducible refine (penumbraref01_at.calls x15_41 x14_33 t533 _ A44.out).mono ?_);rintro e w48 ⟨v534,rfl,ho0,hb⟩;have n0_:=Aside0.mk (Kd.R_elder' (Ru HO_7.out) (Kd.R_base ho0) hb);have n1_:=Aside0.mk (Kd.R_elder' (Ru HO_8.out) (Kd.R_base ho0) hb);have n2_:=Aside0.mk (Kd.R_elder' (Ru HO_10.out) (Kd.R_base ho0) hb);have n3_:=Aside0.mk (Kd.R_lower (Kd.R_new' (Kd.R_new' (Kd.R_new' ho0 (Kd.R_lt (Ru HO_7.out))) (Kd.R_lt (Ru HO_8.out))) (Kd.R_lt (Ru HO_10.out))) (below_size (Hu HB.out)));have n4_:=Aside0.mk (below_step (Hu HB.out) hb);clear HO_7;clear HO_8;clear HO_10;clear HB;have HO_7:=n0_;have HO_8:=n1_;have HO_10:=n2_;have HO535:=n3_;have HB:=n4_;clear n0_ n1_ n2_ n3_ n4_;obtain ⟨Ao49,co49,eo49⟩:=Kd.R_slice HO_10.out;subst eo49;obtain ⟨Ao50,co50,eo50⟩:=Kd.R_slice HO535.out;subst eo50)|(go_at_call 57;(with_reducible refine (penumbraref01_Add.calls kj41 _ _ x10_2 _ _ t533 t536 _ ?side1 ?side2 ?side3 ?side4 A45.out).mono ?_);(case side1=>exact Cu (Kd.R_reads' HO_10.out).2.2);(case side2=>exact (Kd.R_reads' HO_10.out).2.1);(case side3=>exact Cu (Kd.R_reads' HO535.out).2.2);(case side4=>exact (Kd.R_reads' HO535.out).2.1);rintro e w51 ⟨v537,rfl,ho0,hb⟩;have n0_:=Aside0.mk (Kd.R_elder' (Ru HO_7.out) (Kd.R_base ho0) hb);have n1_:=Aside0.mk (Kd.R_elder' (Ru HO_8.out) (Kd.R_base ho0) hb);have n2_:=Aside0.mk (Kd.R_elder' (Ru HO_10.out) (Kd.R_base ho0) hb);have n3_:=Aside0.mk (Kd.R_elder' (Ru HO535.out) (Kd.R_base ho0) hb);have n4_:=Aside0.mk (Kd.R_lower (Kd.R_new' (Kd.R_new' (Kd.R_new' (Kd.R_new' ho0 (Kd.R_lt (Ru HO_7.out))) (Kd.R_lt (Ru HO_8.out))) (Kd.R_lt (Ru HO_10.out))) (Kd.R_lt (Ru HO535.out))) (below_size (Hu HB.out)));have n5_:=Aside0.mk (below_step (Hu HB.out) hb);clear HO_7;clear HO_8;clear HO_10;clear HO535;clear HB;have HO_7:=n0_;have HO_8:=n1_;have HO_10:=n2_;have HO535:=n3_;have HO538:=n4_;have HB:=n5_;clear n0_ n1_ n2_ n3_ n4_ n5_)|(go_at_call 32;(with_reducible refine (penumbraref01_Mul.calls kj41 _ _ t533 _ _ x7_1 t539 _ ?side1 ?side2 ?side3 ?side4 A46.out).mono ?_);(case side1=>exact Cu (Kd.R_reads' HO535.out).2.2);(case side2=>exact (Kd.R_reads' HO535.out).2.1);(case side3=>exact Cu (Kd.R_reads' HO_7.out).2.2);(case side4=>exact (Kd.R_reads' HO_7.out).2.1);rintro e w52 ⟨v540,rfl,ho0,hb⟩;have n0_:=Aside0.mk (Kd.R_elder' (Ru HO_7.out) (Kd.R_base ho0) hb);have n1_:=Aside0.mk (Kd.R_elder' (Ru HO_8.out) (Kd.R_base ho0) hb);have n2_:=Aside0.mk (Kd.R_elder' (Ru HO_10.out) (Kd.R_base ho0) hb);have n3_:=Aside0.mk (Kd.R_elder' (Ru HO535.out) (Kd.R_base ho0) hb);have n4_:=Aside0.mk (Kd.R_elder' (Ru HO538.out) (Kd.R_base ho0) hb);have n5_:=Aside0.mk (Kd.R_lower (Kd.R_new' (Kd.R_new' (Kd.R_new' (Kd.R_new' (Kd.R_new' ho0 (Kd.R_lt (Ru HO_7.out))) (Kd.R_lt (Ru HO_8.out))) (Kd.R_lt (Ru HO_10.out))) (Kd.R_lt (Ru HO535.out))) (Kd.R_lt (Ru HO538.out))) (below_size (Hu HB.out)));have n6_:=Aside0.mk (below_step (Hu HB.out) hb);clear HO_7;clear HO_8;clear HO_10;clear HO535;clear HO538;clear HB;have HO_7:=n0_;have HO_8:=n1_;have HO_10:=n2_;have HO535:=n3_;have HO538:=n4_;have HO541:=n5_;have HB:=n6_;clear n0_ n1_ n2_ n3_ n4_ n5_ n6_;obtain ⟨Ao53,co53,eo53⟩:=Kd.R_slice HO541.out;subst eo53)|(go_at_call 72;(with_reducible refine (penumbraref01_Sub.calls kj41 _ _ x8_2 _ _ t539 t542 t543 _ ?side1 ?side2 ?side3 ?side4 A47.out).mono ?_);(case side1=>exact Cu (Kd.R_reads' HO_8.out).2.2);(case side2=>exact (Kd.R_reads' HO_8.out).2.1);(case side3=>exact Cu (Kd.R_reads' HO541.out).2.2);(case side4=>exact (Kd.R_reads' HO541.out).2.1);rintro e w54 ⟨v544,rfl,ho0,hb⟩;have n0_:=Aside0.mk (Kd.R_elder' (Ru HO_7.out) (Kd.R_base ho0) hb);have n1_:=Aside0.mk (Kd.R_elder' (Ru HO_8.out) (Kd.R_base ho0) hb);have n2_:=Aside0.mk (Kd.R_elder' (Ru HO_10.out) (Kd.R_base ho0) hb);have n3_:=Aside0.mk (Kd.R_elder' (Ru HO535.out) (Kd.R_base ho0) hb);have n4_:=Aside0.mk (Kd.R_elder' (Ru HO538.out) (Kd.R_base ho0) hb);have n5_:=Aside0.mk (Kd.R_elder' (Ru HO541.out) (Kd.R_base ho0) hb);have n6_:=Aside0.mk (Kd.R_lower (Kd.R_new' (Kd.R_new' (Kd.R_new' (Kd.R_new' (Kd.R_new' (Kd.R_new' ho0 (Kd.R_lt (Ru HO_7.out))) (Kd.R_lt (Ru HO_8.out))) (Kd.R_lt (Ru HO_10.out))) (Kd.R_lt (Ru HO535.out))) (Kd.R_lt (Ru HO538.out))) (Kd.R_lt (Ru HO541.out))) (below_size (Hu HB.out)));have n7_:=Aside0.mk (below_step (Hu HB.out) hb);clear HO_7;clear HO_8;clear HO_10;clear HO535;clear HO538;clear HO541;clear HB;have HO_7:=n0_;have HO_8:=n1_;have HO_10:=n2_;have HO535:=n3_;have HO538:=n4_;have HO541:=n5_;have HO545:=n6_;have HB:=n7_;clear n0_ n1_ n2_ n3_ n4_ n5_ n6_ n7_))
               go_roundg kj41
               case measure=>have:=HK1.out;have:=HK2.out;have:=HJ29.out;have:=HJ33.out;have:=HJ41.out;omega
               case rel=>exact ⟨(t542),(t536),H',⟨by have:=HK1.out;have:=HK2.out;have:=HJ29.out;have:=HJ33.out;have:=HJ41.out;omega⟩,⟨by (with_reducible repeat (first|apply Ra|apply Rn|apply Rd));exact Kd.R_mono HO_7.out (fun _ hk=>⟨hk.2,hk.1.1.2⟩)⟩,⟨by (with_reducible repeat (first|apply Ra|apply Rn|apply Rd));exact Kd.R_mono HO545.out (fun _ hk=>⟨hk.1.1.1.1.1.2,hk.1.2⟩)⟩,⟨by (with_reducible repeat (first|apply Ra|apply Rn|apply Rd));exact Kd.R_mono HO538.out (fun _ hk=>⟨hk.1.1.1.1.1.2,hk.2⟩)⟩,⟨Hu HB.out⟩⟩
       ·rw [if_neg c25] at H
        have c25b0 : decide (0≤t529)=false:=decide_eq_false c25
        clear c25
        have H':=Aside0.mk H
        clear H
        obtain ⟨Ao55,co55,eo55⟩:=Kd.R_slice HO_8.out
        subst eo55
        go_wp2_with (first|(go_at_call 59;(with_reducible refine (penumbraref01_Cmp.calls k2 _ _ x8_2 _ _ x7_1 t529 _ ?side1 ?side2 ?side3 ?side4 A24.out).mono ?_);(case side1=>exact Cu (Kd.R_reads' HO_8.out).2.2);(case side2=>exact (Kd.R_reads' HO_8.out).2.1);(case side3=>exact Cu (Kd.R_reads' HO_7.out).2.2);(case side4=>exact (Kd.R_reads' HO_7.out).2.1);rintro e w56 ⟨rfl,hb⟩;have n0_:=Aside0.mk (Kd.R_below (Ru HO_7.out) hb);have n1_:=Aside0.mk (Kd.R_below (Ru HO_8.out) hb);have n2_:=Aside0.mk (Kd.R_below (Ru HO_10.out) hb);have n3_:=Aside0.mk (below_step (Hu HB.out) hb);clear HO_7;clear HO_8;clear HO_10;clear HB;have HO_7:=n0_;have HO_8:=n1_;have HO_10:=n2_;have HB:=n3_;clear n0_ n1_ n2_ n3_))
        go_loopg [8,17] k2 (fun kq v8 v17 w'=>∃ (x8_3 : List Int) (x17_3 : Int),v17=.int .i64 x17_3∧Aside0 (penumbraref01_DivMod.l2 kq x8_3 x9_1 x10_2 x17_3=some (r1,r2,r3))∧Aside0 (kq≤k2)∧Aside0 (Kd.R (Kd.int .u32) 35 w' w.heap.size (fun k_=>some k_≠(u10 : Value).ownBlock) v8 x8_3)∧Aside0 (Kd.R (Kd.int .u32) 35 w' w.heap.size (fun k_=>some k_≠(v8 : Value).ownBlock) u10 x10_2)∧Aside0 (Below w.heap.size w w'))
        case atStart=>exact ⟨(x8_2),(0),(by first|rfl|(simp;done)|(simp [*];done)),H',⟨Nat.le_refl _⟩,⟨by (with_reducible repeat (first|apply Ra|apply Rn|apply Rd));exact Kd.R_mono HO_8.out (fun _ hk=>hk.2)⟩,⟨by (with_reducible repeat (first|apply Ra|apply Rn|apply Rd));exact Kd.R_mono HO_10.out (fun _ hk=>hk.2)⟩,⟨Hu HB.out⟩⟩
        case round =>
         clear H'
         obtain ⟨x8_3,x17_3,rfl,HA,HK3,HO_8,HO_10,HB⟩:=hrel
         cases gk with
        |zero=>exact absurd HA.out (by simp [penumbraref01_DivMod.l2])
        |succ k3 =>
          have H:=HA.out
          clear HA
          simp only [penumbraref01_DivMod.l2] at H
          by_cases c57 : x17_3 < x9_1
          ·rw [if_pos c57] at H
           have c57b0 : decide (x17_3 < x9_1)=true:=decide_eq_true c57
           clear c57
           replace H:=Option.bind_eq_some_iff.mp H
           obtain ⟨t546,A580,H⟩:=H
           try dsimp only at H
           have A58:=Aside0.mk A580
           clear A580
           have H':=Aside0.mk H
           clear H
           obtain ⟨Ao59,co59,eo59⟩:=Kd.R_slice HO_8.out
           subst eo59
           go_wp2_with (first|(go_at_call 73;(with_reducible refine (penumbraref01_Half.calls k3 _ _ x8_3 t546 _ ?side1 ?side2 A58.out).mono ?_);(case side1=>exact Cu (Kd.R_reads' HO_8.out).2.2);(case side2=>exact (Kd.R_reads' HO_8.out).2.1);rintro e w60 ⟨v547,rfl,ho0,hb⟩;have n0_:=Aside0.mk (Kd.R_elder' (Ru HO_8.out) (Kd.R_base ho0) hb);have n1_:=Aside0.mk (Kd.R_elder' (Ru HO_10.out) (Kd.R_base ho0) hb);have n2_:=Aside0.mk (Kd.R_lower (Kd.R_new' (Kd.R_new' ho0 (Kd.R_lt (Ru HO_8.out))) (Kd.R_lt (Ru HO_10.out))) (below_size (Hu HB.out)));have n3_:=Aside0.mk (below_step (Hu HB.out) hb);clear HO_8;clear HO_10;clear HB;have HO_8:=n0_;have HO_10:=n1_;have HO548:=n2_;have HB:=n3_;clear n0_ n1_ n2_ n3_))
           go_roundg k3
           case measure=>have:=HK1.out;have:=HK2.out;have:=HK3.out;omega
           case rel=>exact ⟨(t546),(wrap64 (x17_3+1)),(by first|rfl|(simp;done)|(simp [*];done)),H',⟨by have:=HK1.out;have:=HK2.out;have:=HK3.out;omega⟩,⟨by (with_reducible repeat (first|apply Ra|apply Rn|apply Rd));exact Kd.R_mono HO548.out (fun _ hk=>hk.2)⟩,⟨by (with_reducible repeat (first|apply Ra|apply Rn|apply Rd));exact Kd.R_mono HO_10.out (fun _ hk=>hk.2)⟩,⟨Hu HB.out⟩⟩
          ·rw [if_neg c57] at H
           have c57b0 : decide (x17_3 < x9_1)=false:=decide_eq_false c57
           clear c57
           simp only [Option.some.injEq,Prod.mk.injEq] at H
           obtain ⟨rfl,rfl,rfl⟩:=H
           go_wp2
           go_ret3
           exact ⟨_,_,by first|rfl|(simp [errW_none,errW_some] <;> rfl)|(simp only [← hji11];first|rfl|(simp [errW_none,errW_some] <;> rfl))|(simp [*,errW_none,errW_some] <;> rfl),by (with_reducible repeat (first|apply Ra|apply Rn|apply Rd));exact HO_10.out,by (with_reducible repeat (first|apply Ra|apply Rn|apply Rd));exact HO_8.out,Hu HB.out⟩
end Go.Proofs.YtncdiodnbkhacaaDoor.Pq
end
section
namespace Go.Proofs.YtncdiodnbkhacaaDoor.Pq
open Go.RowKit Go.Proofs.YtncdiodnbkhacaaDoorW.PrintWords Go.Proofs.YtncdiodnbkhacaaDoorW.PrintLast Go.Proofs.YtncdiodnbkhacaaDoorW.PrintMore
attribute [local go_sem] max2_int min2_int max_two min_two max_three min_three max_four min_four
set_option linter.unusedVariables false
set_option linter.unusedSimpArgs false
theorem penumbraref02_Gcd.mono_l : ∀ k,(∀ y0 y1,LeO (penumbraref02_Gcd.l0 k y0 y1) (penumbraref02_Gcd.l0 (k+1) y0 y1))
|0=>fun _ _ r h=>by simp [penumbraref02_Gcd.l0] at h
|k+1=>by
  have ih0:=penumbraref02_Gcd.mono_l k
  ·intro y0 y1
   unfold penumbraref02_Gcd.l0
   with_reducible repeat' first
  |exact ih0 _ _
  |exact penumbraref01_DivMod.mono _ _ _
  |exact penumbraref01_Norm.mono _ _
  |exact penumbraref01_Zero.mono _ _
  |exact LeO.refl _
  |exact LeO.none _
  |refine LeO.ite ?_ ?_
  |refine LeO.bind ?_ (fun _=>?_)
theorem penumbraref02_Gcd.mono : ∀ a0 a1 k,LeO (penumbraref02_Gcd.f k a0 a1) (penumbraref02_Gcd.f (k+1) a0 a1):=by
 intro a0 a1 k
 have ih0:=penumbraref02_Gcd.mono_l k
 unfold penumbraref02_Gcd.f
 with_reducible repeat' first
  |exact ih0 _ _
  |exact penumbraref01_DivMod.mono _ _ _
  |exact penumbraref01_Norm.mono _ _
  |exact penumbraref01_Zero.mono _ _
  |exact LeO.refl _
  |exact LeO.none _
  |refine LeO.ite ?_ ?_
  |refine LeO.bind ?_ (fun _=>?_)
set_option maxHeartbeats 8000000 in
set_option maxRecDepth 100000 in
theorem penumbraref02_Gcd.calls (k : Nat) (P0_ : Nat→Prop) (A0 : Option Addr) (c0 : Nat) (l0 : List Int) (P1_ : Nat→Prop) (A1 : Option Addr) (c1 : Nat) (l1 : List Int) (r : List Int) (w : World) (hs0 : Kd.V (Kd.int .u32) 35 w w.heap.size (fun k_=>P0_ k_) (.slice A0 l0.length c0) l0) (hs1 : Kd.V (Kd.int .u32) 35 w w.heap.size (fun k_=>P1_ k_) (.slice A1 l1.length c1) l1) (h : penumbraref02_Gcd.f k l0 l1=some r) :
  Calls Tryd.prog 60 #[.slice A0 l0.length c0,.slice A1 l1.length c1] w fun e w'=>∃ v0_ : Value,e=.returned (v0_)∧Kd.R (Kd.int .u32) 35 w' w.heap.size (fun k_=>(w.heap.size≤k_)) v0_ r∧Below w.heap.size w w':=by
 have HO0:=Aside0.mk (show Kd.V (Kd.int .u32) 35 w w.heap.size (fun k_=>((P0_ k_∨P1_ k_)∨w.heap.size≤k_)) (.slice A0 l0.length c0) l0 from Kd.V_mono hs0 (fun k_ hk=>.inl (.inl hk)))
 have HO1:=Aside0.mk (show Kd.V (Kd.int .u32) 35 w w.heap.size (fun k_=>((P0_ k_∨P1_ k_)∨w.heap.size≤k_)) (.slice A1 l1.length c1) l1 from Kd.V_mono hs1 (fun k_ hk=>.inl (.inr hk)))
 have HB:=Aside0.mk (Below.refl w.heap.size w)
 have H : (penumbraref02_Gcd.l0 k l0 l1)=some r:=h
 clear h
 have H':=Aside0.mk H
 clear H
 go_enter Tryd.func60,Tryd.ntmps60
 go_wp2
 go_loopg [0,1] k (fun kq v0 v1 w'=>∃ (x0_1 : List Int) (x1_1 : List Int),Aside0 (penumbraref02_Gcd.l0 kq x0_1 x1_1=some r)∧Aside0 (kq≤k)∧Aside0 (Kd.V (Kd.int .u32) 35 w' w.heap.size (fun k_=>((P0_ k_∨P1_ k_)∨w.heap.size≤k_)) v0 x0_1)∧Aside0 (Kd.V (Kd.int .u32) 35 w' w.heap.size (fun k_=>((P0_ k_∨P1_ k_)∨w.heap.size≤k_)) v1 x1_1)∧Aside0 (Below w.heap.size w w'))
 case atStart=>exact ⟨(l0),(l1),H',⟨Nat.le_refl _⟩,⟨by (with_reducible repeat (first|apply Kd.V_alloc|apply Kd.V_drewN|apply Kd.V_drew));exact HO0.out⟩,⟨by (with_reducible repeat (first|apply Kd.V_alloc|apply Kd.V_drewN|apply Kd.V_drew));exact HO1.out⟩,⟨Hu HB.out⟩⟩
 case round =>
  clear H'
  obtain ⟨x0_1,x1_1,HA,HK1,HO_0,HO_1,HB⟩:=hrel
  cases gk with
 |zero=>exact absurd HA.out (by simp [penumbraref02_Gcd.l0])
 |succ k1 =>
   have H:=HA.out
   clear HA
   simp only [penumbraref02_Gcd.l0] at H
   replace H:=Option.bind_eq_some_iff.mp H
   obtain ⟨t549,A30,H⟩:=H
   try dsimp only at H
   have A3:=Aside0.mk A30
   clear A30
   by_cases c4 : t549=true
   ·subst c4
    rw [if_pos rfl] at H
    replace H:=Option.bind_eq_some_iff.mp H
    obtain ⟨t550,A50,H⟩:=H
    try dsimp only at H
    have A5:=Aside0.mk A50
    clear A50
    obtain rfl:=Option.some.inj H
    obtain ⟨Ao6,co6,eo6⟩:=Kd.V_slice HO_1.out
    subst eo6
    go_wp2_with (first|((with_reducible refine gate_callee (f:=33) rfl ?_);refine goesL_ (some 9) rfl rfl Tryd.func33 (by kernel_rfl) rfl #[.slice Ao6 x1_1.length co6] rfl (by (try simp only [List.map_toArray,List.map_cons,List.map_nil]);first|done|rfl) ?_;(with_reducible refine (penumbraref01_Zero.calls k1 _ _ x1_1 true _ ?side1 ?side2 A3.out).mono ?_);(case side1=>repeat (first|exact (Kd.V_reads' HO_1.out).2.2|(with_reducible refine Kd.C_alloc ?_ _)|(with_reducible refine Kd.C_drewN ?_ _)|(with_reducible refine Kd.C_drew ?_)));(case side2=>exact (Kd.V_reads' HO_1.out).2.1);rintro e w7 ⟨rfl,hb⟩;refine ⟨_,rfl,?_⟩;have n0_:=Aside0.mk (Kd.V_below (by (with_reducible repeat (first|apply Kd.V_alloc|apply Kd.V_drewN|apply Kd.V_drew));exact HO_0.out) hb);have n1_:=Aside0.mk (Kd.V_below (by (with_reducible repeat (first|apply Kd.V_alloc|apply Kd.V_drewN|apply Kd.V_drew));exact HO_1.out) hb);have n2_:=Aside0.mk (below_step (Hu HB.out) hb);clear HO_0;clear HO_1;clear HB;have HO_0:=n0_;have HO_1:=n1_;have HB:=n2_;clear n0_ n1_ n2_;obtain ⟨Ao8,co8,eo8⟩:=Kd.V_slice HO_0.out;subst eo8)|((with_reducible refine gate_callee (f:=58) rfl ?_);refine goesL_ (some 21) rfl rfl Tryd.func58 (by kernel_rfl) rfl #[.slice Ao8 x0_1.length co8] rfl (by (try simp only [List.map_toArray,List.map_cons,List.map_nil]);first|done|rfl) ?_;(with_reducible refine (penumbraref01_Norm.calls k1 _ _ x0_1 t550 _ ?side1 ?side2 A5.out).mono ?_);(case side1=>repeat (first|exact (Kd.V_reads' HO_0.out).2.2|(with_reducible refine Kd.C_alloc ?_ _)|(with_reducible refine Kd.C_drewN ?_ _)|(with_reducible refine Kd.C_drew ?_)));(case side2=>exact (Kd.V_reads' HO_0.out).2.1);rintro e w9 ⟨v551,rfl,ho0,hb⟩;refine ⟨_,rfl,?_⟩;have n0_:=Aside0.mk (Kd.V_elder' (by (with_reducible repeat (first|apply Kd.V_alloc|apply Kd.V_drewN|apply Kd.V_drew));exact HO_0.out) (Kd.R_base ho0) hb);have n1_:=Aside0.mk (Kd.V_elder' (by (with_reducible repeat (first|apply Kd.V_alloc|apply Kd.V_drewN|apply Kd.V_drew));exact HO_1.out) (Kd.R_base ho0) hb);have n2_:=Aside0.mk (Kd.R_lower (Kd.R_newM (M:=fun k_=>(w.heap.size≤k_)) ho0 (below_size (Hu HB.out)) (fun k_ h_=>h_)) (below_size (Hu HB.out)));have n3_:=Aside0.mk (below_step (Hu HB.out) hb);clear HO_0;clear HO_1;clear HB;have HO_0:=n0_;have HO_1:=n1_;have HO552:=n2_;have HB:=n3_;clear n0_ n1_ n2_ n3_))
    go_ret
    exact ⟨_,by first|rfl|(simp [errW_none,errW_some] <;> rfl)|(simp [*,errW_none,errW_some] <;> rfl),by (with_reducible repeat (first|apply Ra|apply Rn|apply Rd));exact Kd.R_mono HO552.out (fun _ hk=>hk.1),Hu HB.out⟩
   ·replace c4:=Bool.eq_false_iff.mpr c4
    subst c4
    rw [if_neg (show ¬ (false=true) by decide)] at H
    replace H:=Option.bind_eq_some_iff.mp H
    obtain ⟨⟨t553,t554,t555⟩,A100,H⟩:=H
    try dsimp only at H
    have A10:=Aside0.mk A100
    clear A100
    have H':=Aside0.mk H
    clear H
    obtain ⟨Ao11,co11,eo11⟩:=Kd.V_slice HO_1.out
    subst eo11
    go_wp2_with (first|((with_reducible refine gate_callee (f:=33) rfl ?_);refine goesL_ (some 9) rfl rfl Tryd.func33 (by kernel_rfl) rfl #[.slice Ao11 x1_1.length co11] rfl (by (try simp only [List.map_toArray,List.map_cons,List.map_nil]);first|done|rfl) ?_;(with_reducible refine (penumbraref01_Zero.calls k1 _ _ x1_1 false _ ?side1 ?side2 A3.out).mono ?_);(case side1=>repeat (first|exact (Kd.V_reads' HO_1.out).2.2|(with_reducible refine Kd.C_alloc ?_ _)|(with_reducible refine Kd.C_drewN ?_ _)|(with_reducible refine Kd.C_drew ?_)));(case side2=>exact (Kd.V_reads' HO_1.out).2.1);rintro e w12 ⟨rfl,hb⟩;refine ⟨_,rfl,?_⟩;have n0_:=Aside0.mk (Kd.V_below (by (with_reducible repeat (first|apply Kd.V_alloc|apply Kd.V_drewN|apply Kd.V_drew));exact HO_0.out) hb);have n1_:=Aside0.mk (Kd.V_below (by (with_reducible repeat (first|apply Kd.V_alloc|apply Kd.V_drewN|apply Kd.V_drew));exact HO_1.out) hb);have n2_:=Aside0.mk (below_step (Hu HB.out) hb);clear HO_0;clear HO_1;clear HB;have HO_0:=n0_;have HO_1:=n1_;have HB:=n2_;clear n0_ n1_ n2_;obtain ⟨Ao13,co13,eo13⟩:=Kd.V_slice HO_0.out;subst eo13)|((with_reducible refine gate_callee (f:=42) rfl ?_);refine goesL_ (some 14) rfl rfl Tryd.func42 (by kernel_rfl) rfl #[.slice Ao13 x0_1.length co13,.slice Ao11 x1_1.length co11] rfl (by (try simp only [List.map_toArray,List.map_cons,List.map_nil]);first|done|rfl) ?_;(with_reducible refine (penumbraref01_DivMod.calls k1 _ _ x0_1 _ _ x1_1 t553 t554 t555 _ ?side1 ?side2 ?side3 ?side4 A10.out).mono ?_);(case side1=>repeat (first|exact (Kd.V_reads' HO_0.out).2.2|(with_reducible refine Kd.C_alloc ?_ _)|(with_reducible refine Kd.C_drewN ?_ _)|(with_reducible refine Kd.C_drew ?_)));(case side2=>exact (Kd.V_reads' HO_0.out).2.1);(case side3=>repeat (first|exact (Kd.V_reads' HO_1.out).2.2|(with_reducible refine Kd.C_alloc ?_ _)|(with_reducible refine Kd.C_drewN ?_ _)|(with_reducible refine Kd.C_drew ?_)));(case side4=>exact (Kd.V_reads' HO_1.out).2.1);rintro e w14 ⟨v556,v558,rfl,ho0,ho1,hb⟩;refine ⟨_,rfl,?_⟩;have n0_:=Aside0.mk (Kd.V_mono (Kd.V_told (Kd.V_told (Kd.V_old (by (with_reducible repeat (first|apply Kd.V_alloc|apply Kd.V_drewN|apply Kd.V_drew));exact HO_0.out) hb) (Kd.R_base ho0)) (Kd.R_base ho1)) (fun _ h_=>h_.1));have n1_:=Aside0.mk (Kd.V_mono (Kd.V_told (Kd.V_told (Kd.V_old (by (with_reducible repeat (first|apply Kd.V_alloc|apply Kd.V_drewN|apply Kd.V_drew));exact HO_1.out) hb) (Kd.R_base ho0)) (Kd.R_base ho1)) (fun _ h_=>h_.1));have n2_:=Aside0.mk (Kd.R_lower (Kd.R_newM (M:=fun k_=>(w.heap.size≤k_)) ho0 (below_size (Hu HB.out)) (fun k_ h_=>h_)) (below_size (Hu HB.out)));have n3_:=Aside0.mk (Kd.R_lower (Kd.R_newM (M:=fun k_=>(w.heap.size≤k_)) ho1 (below_size (Hu HB.out)) (fun k_ h_=>h_)) (below_size (Hu HB.out)));have n4_:=Aside0.mk (below_step (Hu HB.out) hb);clear HO_0;clear HO_1;clear HB;have HO_0:=n0_;have HO_1:=n1_;have HO557:=n2_;have HO559:=n3_;have HB:=n4_;clear n0_ n1_ n2_ n3_ n4_))
    go_roundg k1
    case measure=>have:=HK1.out;omega
    case rel=>exact ⟨(x1_1),(t554),H',⟨by have:=HK1.out;omega⟩,⟨by (with_reducible repeat (first|apply Kd.V_alloc|apply Kd.V_drewN|apply Kd.V_drew));exact Kd.V_mono HO_1.out (fun _ hk=>hk.1.1)⟩,⟨Kd.V_mono (Kd.R_V (by (with_reducible repeat (first|apply Ra|apply Rn|apply Rd));exact Kd.R_mono HO559.out (fun _ hk=>hk.1))) (fun k_ hk=>by first|exact ⟨(.inr (hk.1)),hk.2⟩|exact (.inr (hk)))⟩,⟨Hu HB.out⟩⟩
end Go.Proofs.YtncdiodnbkhacaaDoor.Pq
end
section
namespace Go.Proofs.YtncdiodnbkhacaaDoor.Pq
open Go.RowKit Go.Proofs.YtncdiodnbkhacaaDoorW.PrintWords Go.Proofs.YtncdiodnbkhacaaDoorW.PrintLast Go.Proofs.YtncdiodnbkhacaaDoorW.PrintMore
attribute [local go_sem] max2_int min2_int max_two min_two max_three min_three max_four min_four
set_option linter.unusedVariables false
set_option linter.unusedSimpArgs false
open Go.Shelf
set_option maxHeartbeats 8000000 in
set_option maxRecDepth 100000 in
theorem penumbraref03_Zero.calls  (r1 : Bool) (r2 : List Int) (r3 : List Int) (w : World) (h : penumbraref03_Zero.f  = some (r1,r2,r3)) :
  Calls Tryd.prog 29 #[] w fun e w'=>∃ v1_ v2_ : Value,e=.returned (.agg #[.bool r1,v1_,v2_])∧Kd.R (Kd.int .u32) 35 w' w.heap.size (fun k_=>some k_≠(v2_ : Value).ownBlock) v1_ r2∧Kd.R (Kd.int .u32) 35 w' w.heap.size (fun k_=>some k_≠(v1_ : Value).ownBlock) v2_ r3∧Below w.heap.size w w':=by
 have hu25:=Tryd.underlying25
 have HB:=Aside0.mk (Below.refl w.heap.size w)
 have H : (some (false,([] : List Int),(([1] : List Int))))=some (r1,r2,r3):=h
 clear h
 obtain ⟨y419,hy419⟩ : ∃ y_ : List Int,y_=(([1] : List Int)):=⟨_,rfl⟩
 replace H : (some (false,([] : List Int),y419))=some (r1,r2,r3):=by first|(rw [hy419];with_reducible exact H)|(have H2_:=(Option.bind_some _ _).symm.trans H;rw [hy419];with_reducible exact H2_)|(have H2_:=(Option.bind_some _ _).symm.trans H;with_reducible exact H2_)|with_reducible exact H|(rw [hy419];exact H)|exact H
 have Ny419:=Aside0.mk hy419
 clear hy419
 simp only [Option.some.injEq,Prod.mk.injEq] at H
 obtain ⟨rfl,rfl,rfl⟩:=H
 go_enter Tryd.func29,Tryd.ntmps29
 go_wp2_with (first|((with_reducible refine gate_dst (N:=0) rfl ?_);refine box_event ?hg (N:=0) ?hd (cs:=#[.bool false,.slice none 0 0,.slice none 0 0]) (t:=25) ?hr ?_;(case hd=>rfl);(case hg=>rfl);(case hr=>first|(go_simp;done)|(go_simp;(with_reducible rfl))|(go_simp;rfl)|(go_simp;simp only [hu,Int.emod_sub_emod]));intro gb418 hg w1 hbox hb;have n0_:=Aside0.mk (below_step (by repeat (first|with_reducible exact HB.out|apply ba|apply bn|apply b1)) hb);have n1_:=Aside0.mk (hbox);have n2_:=Aside0.mk ((by rw [hg];exact (below_size (by repeat (first|with_reducible exact HB.out|apply ba|apply bn|apply b1))) : w.heap.size≤gb418));have n3_:=Aside0.mk ((by rw [hg];exact (below_size (by repeat (first|with_reducible exact HB.out|apply ba|apply bn|apply b1))) : w.heap.size≤gb418));clear HB;have HB:=n0_;have BK418:=n1_;have GW418:=n2_;have GE418:=n3_;clear n0_ n1_ n2_ n3_;clear hb hbox hg)|((with_reducible refine gate_dst (N:=1) rfl ?_);refine Kd.R_lit (Kd.int .u32) _ 35 ?hg (N:=1) ?hd (xs:=([1] : List Int)) (inner:=[.int .u32 1]) (ok:=fun _=>True) (okp:=fun _=>True) ?hr ?hp (fun _ hk=>hk) trivial (Below.refl _ _) (Nat.le_refl _) (by simp) ?_;(case hd=>rfl);(case hg=>rfl);(case hr=>first|(go_simp;done)|(go_simp;(with_reducible rfl))|(go_simp;rfl)|(go_simp;simp only [hu,Int.emod_sub_emod]));(case hp=>exact (Reps.one (show Kd.M (Kd.int .u32) _ _ _ 1 [.int .u32 1] from rfl) (Reps.none _ _)));intro v420 w2 ho3 hb hg_ hnew_;clear hg_ hnew_;(first|rw [← Ny419.out] at ho3|(simp only [Int.reduceToNat] at ho3;rw [← Ny419.out] at ho3));have n0_:=Aside0.mk (Kd.R_lower ho3 (below_size (by repeat (first|with_reducible exact HB.out|apply ba|apply bn|apply b1|refine below_set ?_ GE418.out))));have n1_:=Aside0.mk (blk_below (g:=gb418) (o:=.cells #[.bool false,.slice none 0 0,.slice none 0 0] 25 (0,0)) (by (with_reducible repeat (first|refine blk_drewN ?_ _|refine blk_drew ?_|refine blk_alloc ?_ _));exact BK418.out) hb);have n2_:=Aside0.mk (below_step (by repeat (first|with_reducible exact HB.out|apply ba|apply bn|apply b1|refine below_set ?_ GE418.out)) hb);clear BK418;clear HB;have HO421:=n0_;have BK418:=n1_;have HB:=n2_;clear n0_ n1_ n2_;clear hb ho3;obtain ⟨Ao4,co4,eo4⟩:=Kd.R_slice HO421.out;subst eo4;have hcz5_0 : w2.cell? ⟨gb418,0,none⟩=some (.bool false):=(blk_cell BK418.out 0).trans rfl;have hcz5_1 : w2.cell? ⟨gb418,1,none⟩=some (.slice none 0 0):=(blk_cell BK418.out 1).trans rfl;have hcz5_2 : w2.cell? ⟨gb418,2,none⟩=some (.slice none 0 0):=(blk_cell BK418.out 2).trans rfl;have hfz5_0:=blk_frozen BK418.out 0;have hfz5_1:=blk_frozen BK418.out 1;have hfz5_2:=blk_frozen BK418.out 2))
 refine bodyPost_ret (results_cell_row rfl _ _ gb418 25 #[.bool false,.slice none 0 0,.slice Ao4 y419.length co4] (0,0) _ rfl (by (with_reducible repeat (first|refine blk_drewN ?_ _|refine blk_drew ?_|refine blk_alloc ?_ _));refine blk_put (cs:=#[.bool false,.slice none 0 0,.slice none 0 0]) ?_ 2 _ rfl;(with_reducible repeat (first|refine blk_drewN ?_ _|refine blk_drew ?_|refine blk_alloc ?_ _));refine blk_put (cs:=#[.bool false,.slice none 0 0,.slice none 0 0]) ?_ 1 _ rfl;(with_reducible repeat (first|refine blk_drewN ?_ _|refine blk_drew ?_|refine blk_alloc ?_ _));refine blk_put (cs:=#[.bool false,.slice none 0 0,.slice none 0 0]) ?_ 0 _ rfl;(with_reducible repeat (first|refine blk_drewN ?_ _|refine blk_drew ?_|refine blk_alloc ?_ _));exact BK418.out) Tryd.underlying25 rfl (by kernel_rfl)) rfl ?_
 exact ⟨_,_,by first|rfl|(simp [errW_none,errW_some] <;> rfl)|(simp [*,errW_none,errW_some] <;> rfl),by first|exact Kd.R_nil _ _ _ _ _|exact Kd.N_nil _ _ _ _ _|exact Kd.V_nil _ _ _ _ _|exact Kd.Q_nil _ _ _ _ _|exact Kd.S_nil _ _ _ _ _,by (with_reducible repeat (first|apply Ra|apply Rn|apply Rd));exact Kd.R_mono (Kd.R_far (p:=⟨gb418,2,none⟩) (Kd.R_far (p:=⟨gb418,1,none⟩) (Kd.R_far (p:=⟨gb418,0,none⟩) (Kd.R_types HO421.out BK418.out (by decide)) (fun _ hk=>hk.2) (.bool false)) (fun _ hk=>hk.2) (.slice none 0 0)) (fun _ hk=>hk.2) (.slice Ao4 y419.length co4)) (fun _ hk=>(by simp [Value.ownBlock])),by repeat (first|with_reducible exact HB.out|apply ba|apply bn|apply b1|refine below_set ?_ GE418.out)⟩
end Go.Proofs.YtncdiodnbkhacaaDoor.Pq
end
section
namespace Go.Proofs.YtncdiodnbkhacaaDoor.Pq
open Go.RowKit Go.Proofs.YtncdiodnbkhacaaDoorW.PrintWords Go.Proofs.YtncdiodnbkhacaaDoorW.PrintLast Go.Proofs.YtncdiodnbkhacaaDoorW.PrintMore
attribute [local go_sem] max2_int min2_int max_two min_two max_three min_three max_four min_four
set_option linter.unusedVariables false
set_option linter.unusedSimpArgs false
theorem penumbraref03_Read.mono_l : ∀ k,(∀ y0 y1 y2 y3,LeO (penumbraref03_Read.j0 k y0 y1 y2 y3) (penumbraref03_Read.j0 (k+1) y0 y1 y2 y3))
|0=>fun _ _ _ _ r h=>by simp [penumbraref03_Read.j0] at h
|k+1=>by
  have ih0:=penumbraref03_Read.mono_l k
  ·intro y0 y1 y2 y3
   unfold penumbraref03_Read.j0
   with_reducible repeat' first
  |exact ih0 _ _ _ _
  |exact penumbraref01_DivMod.mono _ _ _
  |exact penumbraref01_Zero.mono _ _
  |exact penumbraref02_Gcd.mono _ _ _
  |exact LeO.refl _
  |exact LeO.none _
  |refine LeO.ite ?_ ?_
  |refine LeO.bind ?_ (fun _=>?_)
theorem penumbraref03_Read.mono : ∀ a0 a1 a2 k,LeO (penumbraref03_Read.f k a0 a1 a2) (penumbraref03_Read.f (k+1) a0 a1 a2):=by
 intro a0 a1 a2 k
 have ih0:=penumbraref03_Read.mono_l k
 unfold penumbraref03_Read.f
 with_reducible repeat' first
  |exact ih0 _ _ _ _
  |exact penumbraref01_DivMod.mono _ _ _
  |exact penumbraref01_Zero.mono _ _
  |exact penumbraref02_Gcd.mono _ _ _
  |exact LeO.refl _
  |exact LeO.none _
  |refine LeO.ite ?_ ?_
  |refine LeO.bind ?_ (fun _=>?_)
set_option maxHeartbeats 8000000 in
set_option maxRecDepth 100000 in
theorem penumbraref03_Read.calls (k : Nat) (a0_0 : Bool) (A0_1 : Option Addr) (c0_1 : Nat) (l0_1 : List Int) (A0_2 : Option Addr) (c0_2 : Nat) (l0_2 : List Int) (r1 : Bool) (r2 : List Int) (r3 : List Int) (w : World) (hr0_1 : Kd.C (Kd.int .u32) w A0_1 l0_1.length l0_1) (hc0_1 : l0_1.length≤c0_1) (hr0_2 : Kd.C (Kd.int .u32) w A0_2 l0_2.length l0_2) (hc0_2 : l0_2.length≤c0_2) (h : penumbraref03_Read.f k a0_0 l0_1 l0_2=some (r1,r2,r3)) :
  Calls Tryd.prog 34 #[.agg #[.bool a0_0,.slice A0_1 l0_1.length c0_1,.slice A0_2 l0_2.length c0_2]] w fun e w'=>∃ v1_ v2_ : Value,e=.returned (.agg #[.bool r1,v1_,v2_])∧Kd.R (Kd.int .u32) 35 w' w.heap.size (fun k_=>some k_≠(v2_ : Value).ownBlock) v1_ r2∧Kd.R (Kd.int .u32) 35 w' w.heap.size (fun k_=>some k_≠(v1_ : Value).ownBlock) v2_ r3∧Below w.heap.size w w':=by
 have hu25:=Tryd.underlying25
 have HR0_1:=Aside0.mk hr0_1
 have HC0_1:=Aside0.mk hc0_1
 clear hr0_1 hc0_1
 have HR0_2:=Aside0.mk hr0_2
 have HC0_2:=Aside0.mk hc0_2
 clear hr0_2 hc0_2
 have HB:=Aside0.mk (Below.refl w.heap.size w)
 have H : ((penumbraref01_Zero.f k l0_2).bind fun t562=>(if t562=true then (penumbraref03_Read.j0 k true a0_0 l0_1 l0_2) else ((penumbraref01_Zero.f k l0_1).bind fun t563=>(penumbraref03_Read.j0 k t563 a0_0 l0_1 l0_2))))=some (r1,r2,r3):=h
 clear h
 have HC2:=Aside0.mk H
 clear H
 go_enter Tryd.func34,Tryd.ntmps34
 go_upto_region 1 with (first|((with_reducible refine gate_dst (N:=1) rfl ?_);refine box_event ?hg (N:=1) ?hd (cs:=#[.bool a0_0,.slice A0_1 l0_1.length c0_1,.slice A0_2 l0_2.length c0_2]) (t:=25) ?hr ?_;(case hd=>rfl);(case hg=>rfl);(case hr=>first|(go_simp;done)|(go_simp;(with_reducible rfl))|(go_simp;rfl)|(go_simp;simp only [hu,Int.emod_sub_emod]));intro gb560 hg w3 hbox hb;have n0_:=Aside0.mk (below_step (Hu HB.out) hb);have n1_:=Aside0.mk (hbox);have n2_:=Aside0.mk ((by rw [hg];exact (below_size (Hu HB.out)) : w.heap.size≤gb560));have n3_:=Aside0.mk ((by rw [hg];exact (below_size (Hu HB.out)) : w.heap.size≤gb560));clear HB;have HB:=n0_;have BK560:=n1_;have GW560:=n2_;have GE560:=n3_;clear n0_ n1_ n2_ n3_;clear hb hbox hg)|((with_reducible refine gate_dst (N:=2) rfl ?_);refine box_event ?hg (N:=2) ?hd (cs:=#[.bool false,.slice none 0 0,.slice none 0 0]) (t:=25) ?hr ?_;(case hd=>rfl);(case hg=>rfl);(case hr=>first|(go_simp;done)|(go_simp;(with_reducible rfl))|(go_simp;rfl)|(go_simp;simp only [hu,Int.emod_sub_emod]));intro gb561 hg w4 hbox hb;have n0_:=Aside0.mk (blk_below (g:=gb560) (o:=.cells #[.bool a0_0,.slice A0_1 l0_1.length c0_1,.slice A0_2 l0_2.length c0_2] 25 (0,0)) (Bu BK560.out) hb);have n1_:=Aside0.mk (below_step (by repeat (first|with_reducible exact HB.out|apply ba|apply bn|apply b1|refine below_set ?_ GE560.out)) hb);have n2_:=Aside0.mk (hbox);have n3_:=Aside0.mk ((by rw [hg];exact (below_size (by repeat (first|with_reducible exact HB.out|apply ba|apply bn|apply b1|refine below_set ?_ GE560.out))) : w.heap.size≤gb561));have n4_:=Aside0.mk ((by rw [hg];exact (below_size (by repeat (first|with_reducible exact HB.out|apply ba|apply bn|apply b1|refine below_set ?_ GE560.out))) : w.heap.size≤gb561));have n5_:=Aside0.mk ((by rw [hg];exact Nat.ne_of_lt (blk_lt (g:=gb560) (o:=.cells #[.bool a0_0,.slice A0_1 l0_1.length c0_1,.slice A0_2 l0_2.length c0_2] 25 (0,0)) (Bu BK560.out)) : gb560≠gb561));have n6_:=Aside0.mk ((by rw [hg];exact Nat.ne_of_gt (blk_lt (g:=gb560) (o:=.cells #[.bool a0_0,.slice A0_1 l0_1.length c0_1,.slice A0_2 l0_2.length c0_2] 25 (0,0)) (Bu BK560.out)) : gb561≠gb560));clear BK560;clear HB;have BK560:=n0_;have HB:=n1_;have BK561:=n2_;have GW561:=n3_;have GE561:=n4_;have NB560_561:=n5_;have NB561_560:=n6_;clear n0_ n1_ n2_ n3_ n4_ n5_ n6_;clear hb hbox hg))
 (try simp only [Act.put,s0,s1,s2])
 go_cut [17] (fun v17 wc=>∃ (kq : Nat) (x17_1 : Bool),v17=.bool x17_1∧Aside0 (penumbraref03_Read.j0 kq x17_1 a0_0 l0_1 l0_2=some (r1,r2,r3))∧Aside0 (kq≤k)∧Aside0 (wc.heap[gb560]? = some (.cells #[.bool a0_0,(.slice A0_1 l0_1.length c0_1),(.slice A0_2 l0_2.length c0_2)] 25 (0,0)))∧Aside0 (wc.heap[gb561]? = some (.cells #[.bool false,(.slice none 0 0),(.slice none 0 0)] 25 (0,0)))∧Aside0 (Below w.heap.size w wc))
 case first =>
  have H:=HC2.out
  clear HC2
  replace H:=Option.bind_eq_some_iff.mp H
  obtain ⟨t562,A50,H⟩:=H
  try dsimp only at H
  have A5:=Aside0.mk A50
  clear A50
  by_cases c6 : t562=true
  ·subst c6
   rw [if_pos rfl] at H
   have H':=Aside0.mk H
   clear H
   have hnb7:=NB560_561.out
   have hnc7:=NB561_560.out
   have hcz8_0 : w4.cell? ⟨gb560,0,none⟩=some (.bool a0_0):=(blk_cell BK560.out 0).trans rfl
   have hcz8_1 : w4.cell? ⟨gb560,1,none⟩=some (.slice A0_1 l0_1.length c0_1):=(blk_cell BK560.out 1).trans rfl
   have hcz8_2 : w4.cell? ⟨gb560,2,none⟩=some (.slice A0_2 l0_2.length c0_2):=(blk_cell BK560.out 2).trans rfl
   have hfz8_0:=blk_frozen BK560.out 0
   have hfz8_1:=blk_frozen BK560.out 1
   have hfz8_2:=blk_frozen BK560.out 2
   go_wp2_with (first|((with_reducible refine gate_callee (f:=33) rfl ?_);refine goesL_ (some 12) rfl rfl Tryd.func33 (by kernel_rfl) rfl #[.slice A0_2 l0_2.length c0_2] rfl (by (try simp only [List.map_toArray,List.map_cons,List.map_nil]);first|done|rfl) ?_;(with_reducible refine (penumbraref01_Zero.calls k _ _ l0_2 true _ ?side1 ?side2 A5.out).mono ?_);(case side1=>repeat (first|exact (Kd.C_below HR0_2.out HB.out)|(with_reducible refine Kd.C_alloc ?_ _)|(with_reducible refine Kd.C_drewN ?_ _)|(with_reducible refine Kd.C_drew ?_)));(case side2=>exact HC0_2.out);rintro e w9 ⟨rfl,hb⟩;refine ⟨_,rfl,?_⟩;have n0_:=Aside0.mk (blk_below (g:=gb560) (o:=.cells #[.bool a0_0,.slice A0_1 l0_1.length c0_1,.slice A0_2 l0_2.length c0_2] 25 (0,0)) (Bu BK560.out) hb);have n1_:=Aside0.mk (blk_below (g:=gb561) (o:=.cells #[.bool false,.slice none 0 0,.slice none 0 0] 25 (0,0)) (Bu BK561.out) hb);have n2_:=Aside0.mk (below_step (by repeat (first|with_reducible exact HB.out|apply ba|apply bn|apply b1|refine below_set ?_ GE560.out|refine below_set ?_ GE561.out)) hb);clear BK560;clear BK561;clear HB;have BK560:=n0_;have BK561:=n1_;have HB:=n2_;clear n0_ n1_ n2_))
   go_meet
   case rel=>exact ⟨_,(true),(by first|rfl|(simp;done)|(simp [*];done)),H',⟨by first|omega|exact Nat.le_refl _⟩,⟨Bu BK560.out⟩,⟨Bu BK561.out⟩,⟨by repeat (first|with_reducible exact HB.out|apply ba|apply bn|apply b1|refine below_set ?_ GE560.out|refine below_set ?_ GE561.out)⟩⟩
  ·replace c6:=Bool.eq_false_iff.mpr c6
   subst c6
   rw [if_neg (show ¬ (false=true) by decide)] at H
   replace H:=Option.bind_eq_some_iff.mp H
   obtain ⟨t563,A100,H⟩:=H
   try dsimp only at H
   have A10:=Aside0.mk A100
   clear A100
   have H':=Aside0.mk H
   clear H
   have hnb11:=NB560_561.out
   have hnc11:=NB561_560.out
   have hcz12_0 : w4.cell? ⟨gb560,0,none⟩=some (.bool a0_0):=(blk_cell BK560.out 0).trans rfl
   have hcz12_1 : w4.cell? ⟨gb560,1,none⟩=some (.slice A0_1 l0_1.length c0_1):=(blk_cell BK560.out 1).trans rfl
   have hcz12_2 : w4.cell? ⟨gb560,2,none⟩=some (.slice A0_2 l0_2.length c0_2):=(blk_cell BK560.out 2).trans rfl
   have hfz12_0:=blk_frozen BK560.out 0
   have hfz12_1:=blk_frozen BK560.out 1
   have hfz12_2:=blk_frozen BK560.out 2
   go_wp2_with (first|((with_reducible refine gate_callee (f:=33) rfl ?_);refine goesL_ (some 12) rfl rfl Tryd.func33 (by kernel_rfl) rfl #[.slice A0_2 l0_2.length c0_2] rfl (by (try simp only [List.map_toArray,List.map_cons,List.map_nil]);first|done|rfl) ?_;(with_reducible refine (penumbraref01_Zero.calls k _ _ l0_2 false _ ?side1 ?side2 A5.out).mono ?_);(case side1=>repeat (first|exact (Kd.C_below HR0_2.out HB.out)|(with_reducible refine Kd.C_alloc ?_ _)|(with_reducible refine Kd.C_drewN ?_ _)|(with_reducible refine Kd.C_drew ?_)));(case side2=>exact HC0_2.out);rintro e w13 ⟨rfl,hb⟩;refine ⟨_,rfl,?_⟩;have n0_:=Aside0.mk (blk_below (g:=gb560) (o:=.cells #[.bool a0_0,.slice A0_1 l0_1.length c0_1,.slice A0_2 l0_2.length c0_2] 25 (0,0)) (Bu BK560.out) hb);have n1_:=Aside0.mk (blk_below (g:=gb561) (o:=.cells #[.bool false,.slice none 0 0,.slice none 0 0] 25 (0,0)) (Bu BK561.out) hb);have n2_:=Aside0.mk (below_step (by repeat (first|with_reducible exact HB.out|apply ba|apply bn|apply b1|refine below_set ?_ GE560.out|refine below_set ?_ GE561.out)) hb);clear BK560;clear BK561;clear HB;have BK560:=n0_;have BK561:=n1_;have HB:=n2_;clear n0_ n1_ n2_;have hcz14_0 : w13.cell? ⟨gb560,0,none⟩=some (.bool a0_0):=(blk_cell BK560.out 0).trans rfl;have hcz14_1 : w13.cell? ⟨gb560,1,none⟩=some (.slice A0_1 l0_1.length c0_1):=(blk_cell BK560.out 1).trans rfl;have hcz14_2 : w13.cell? ⟨gb560,2,none⟩=some (.slice A0_2 l0_2.length c0_2):=(blk_cell BK560.out 2).trans rfl;have hfz14_0:=blk_frozen BK560.out 0;have hfz14_1:=blk_frozen BK560.out 1;have hfz14_2:=blk_frozen BK560.out 2)|(go_at_call 33;(with_reducible refine (penumbraref01_Zero.calls k _ _ l0_1 t563 _ ?side1 ?side2 A10.out).mono ?_);(case side1=>repeat (first|exact (Kd.C_below HR0_1.out HB.out)|(with_reducible refine Kd.C_alloc ?_ _)|(with_reducible refine Kd.C_drewN ?_ _)|(with_reducible refine Kd.C_drew ?_)));(case side2=>exact HC0_1.out);rintro e w15 ⟨rfl,hb⟩;have n0_:=Aside0.mk (blk_below (g:=gb560) (o:=.cells #[.bool a0_0,.slice A0_1 l0_1.length c0_1,.slice A0_2 l0_2.length c0_2] 25 (0,0)) (Bu BK560.out) hb);have n1_:=Aside0.mk (blk_below (g:=gb561) (o:=.cells #[.bool false,.slice none 0 0,.slice none 0 0] 25 (0,0)) (Bu BK561.out) hb);have n2_:=Aside0.mk (below_step (by repeat (first|with_reducible exact HB.out|apply ba|apply bn|apply b1|refine below_set ?_ GE560.out|refine below_set ?_ GE561.out)) hb);clear BK560;clear BK561;clear HB;have BK560:=n0_;have BK561:=n1_;have HB:=n2_;clear n0_ n1_ n2_))
   go_meet
   case rel=>exact ⟨_,(t563),(by first|rfl|(simp;done)|(simp [*];done)),H',⟨by first|omega|exact Nat.le_refl _⟩,⟨Bu BK560.out⟩,⟨Bu BK561.out⟩,⟨by repeat (first|with_reducible exact HB.out|apply ba|apply bn|apply b1|refine below_set ?_ GE560.out|refine below_set ?_ GE561.out)⟩⟩
 case rest =>
  clear HC2
  obtain ⟨kq,x17_1,rfl,HA,HJ1,BK560,BK561,HB⟩:=hcut
  cases kq with
 |zero=>exact absurd HA.out (by simp [penumbraref03_Read.j0])
 |succ kj1 =>
   have H:=HA.out
   clear HA
   simp only [penumbraref03_Read.j0] at H
   by_cases c16 : x17_1=true
   ·subst c16
    rw [if_pos rfl] at H
    replace H:=Option.bind_eq_some_iff.mp H
    obtain ⟨⟨t564,t565,t568⟩,A170,H⟩:=H
    try dsimp only at H
    have A17:=Aside0.mk A170
    clear A170
    simp only [Option.some.injEq,Prod.mk.injEq] at H
    obtain ⟨rfl,rfl,rfl⟩:=H
    go_wp2_with (first|((with_reducible refine gate_callee (f:=29) rfl ?_);refine goesL_ (some 18) rfl rfl Tryd.func29 (by kernel_rfl) rfl #[] rfl (by (try simp only [List.map_toArray,List.map_cons,List.map_nil]);first|done|rfl) ?_;(with_reducible refine (penumbraref03_Zero.calls  t564 t565 t568 _ A17.out).mono ?_);rintro e w18 ⟨v566,v569,rfl,ho0,ho1,hb⟩;refine ⟨_,rfl,?_⟩;have n0_:=Aside0.mk (Kd.R_lower ho0 (below_size (by repeat (first|with_reducible exact HB.out|apply ba|apply bn|apply b1|refine below_set ?_ GE560.out|refine below_set ?_ GE561.out))));have n1_:=Aside0.mk (Kd.R_lower ho1 (below_size (by repeat (first|with_reducible exact HB.out|apply ba|apply bn|apply b1|refine below_set ?_ GE560.out|refine below_set ?_ GE561.out))));have n2_:=Aside0.mk (blk_below (g:=gb560) (o:=.cells #[.bool a0_0,.slice A0_1 l0_1.length c0_1,.slice A0_2 l0_2.length c0_2] 25 (0,0)) (Bu BK560.out) hb);have n3_:=Aside0.mk (blk_below (g:=gb561) (o:=.cells #[.bool false,.slice none 0 0,.slice none 0 0] 25 (0,0)) (Bu BK561.out) hb);have n4_:=Aside0.mk (below_step (by repeat (first|with_reducible exact HB.out|apply ba|apply bn|apply b1|refine below_set ?_ GE560.out|refine below_set ?_ GE561.out)) hb);clear BK560;clear BK561;clear HB;have HO567:=n0_;have HO570:=n1_;have BK560:=n2_;have BK561:=n3_;have HB:=n4_;clear n0_ n1_ n2_ n3_ n4_;have hnb19:=NB561_560.out;have hnc19:=NB560_561.out;have hcz20_0 : w18.cell? ⟨gb561,0,none⟩=some (.bool false):=(blk_cell BK561.out 0).trans rfl;have hcz20_1 : w18.cell? ⟨gb561,1,none⟩=some (.slice none 0 0):=(blk_cell BK561.out 1).trans rfl;have hcz20_2 : w18.cell? ⟨gb561,2,none⟩=some (.slice none 0 0):=(blk_cell BK561.out 2).trans rfl;have hfz20_0:=blk_frozen BK561.out 0;have hfz20_1:=blk_frozen BK561.out 1;have hfz20_2:=blk_frozen BK561.out 2;obtain ⟨Ao21,co21,eo21⟩:=Kd.R_slice HO567.out;subst eo21;obtain ⟨Ao22,co22,eo22⟩:=Kd.R_slice HO570.out;subst eo22))
    refine bodyPost_ret (results_cell_row rfl _ _ gb561 25 #[.bool t564,.slice Ao21 t565.length co21,.slice Ao22 t568.length co22] (0,0) _ rfl (by (with_reducible repeat (first|refine blk_drewN ?_ _|refine blk_drew ?_|refine blk_alloc ?_ _));refine blk_put (cs:=#[.bool t564,.slice Ao21 t565.length co21,.slice none 0 0]) ?_ 2 _ rfl;(with_reducible repeat (first|refine blk_drewN ?_ _|refine blk_drew ?_|refine blk_alloc ?_ _));refine blk_put (cs:=#[.bool t564,.slice none 0 0,.slice none 0 0]) ?_ 1 _ rfl;(with_reducible repeat (first|refine blk_drewN ?_ _|refine blk_drew ?_|refine blk_alloc ?_ _));refine blk_put (cs:=#[.bool false,.slice none 0 0,.slice none 0 0]) ?_ 0 _ rfl;(with_reducible repeat (first|refine blk_drewN ?_ _|refine blk_drew ?_|refine blk_alloc ?_ _));exact BK561.out) Tryd.underlying25 rfl (by kernel_rfl)) rfl ?_
    exact ⟨_,_,by first|rfl|(simp [errW_none,errW_some] <;> rfl)|(simp [*,errW_none,errW_some] <;> rfl),by (with_reducible repeat (first|apply Ra|apply Rn|apply Rd));exact Kd.R_mono (Kd.R_far (p:=⟨gb561,2,none⟩) (Kd.R_far (p:=⟨gb561,1,none⟩) (Kd.R_far (p:=⟨gb561,0,none⟩) (Kd.R_types HO567.out BK561.out (by decide)) (fun _ hk=>hk.2) (.bool t564)) (fun _ hk=>hk.2) (.slice Ao21 t565.length co21)) (fun _ hk=>hk.2) (.slice Ao22 t568.length co22)) (fun _ hk=>hk.1),by (with_reducible repeat (first|apply Ra|apply Rn|apply Rd));exact Kd.R_mono (Kd.R_far (p:=⟨gb561,2,none⟩) (Kd.R_far (p:=⟨gb561,1,none⟩) (Kd.R_far (p:=⟨gb561,0,none⟩) (Kd.R_types HO570.out BK561.out (by decide)) (fun _ hk=>hk.2) (.bool t564)) (fun _ hk=>hk.2) (.slice Ao21 t565.length co21)) (fun _ hk=>hk.2) (.slice Ao22 t568.length co22)) (fun _ hk=>hk.1),by repeat (first|with_reducible exact HB.out|apply ba|apply bn|apply b1|refine below_set ?_ GE560.out|refine below_set ?_ GE561.out)⟩
   ·replace c16:=Bool.eq_false_iff.mpr c16
    subst c16
    rw [if_neg (show ¬ (false=true) by decide)] at H
    replace H:=Option.bind_eq_some_iff.mp H
    obtain ⟨t571,A230,H⟩:=H
    try dsimp only at H
    have A23:=Aside0.mk A230
    clear A230
    replace H:=Option.bind_eq_some_iff.mp H
    obtain ⟨⟨t574,t575,t576⟩,A240,H⟩:=H
    try dsimp only at H
    have A24:=Aside0.mk A240
    clear A240
    replace H:=Option.bind_eq_some_iff.mp H
    obtain ⟨⟨t581,t582,t583⟩,A250,H⟩:=H
    try dsimp only at H
    have A25:=Aside0.mk A250
    clear A250
    simp only [Option.some.injEq,Prod.mk.injEq] at H
    obtain ⟨rfl,rfl,rfl⟩:=H
    have hnb26:=NB560_561.out
    have hnc26:=NB561_560.out
    have hcz27_0 : wc.cell? ⟨gb560,0,none⟩=some (.bool a0_0):=(blk_cell BK560.out 0).trans rfl
    have hcz27_1 : wc.cell? ⟨gb560,1,none⟩=some (.slice A0_1 l0_1.length c0_1):=(blk_cell BK560.out 1).trans rfl
    have hcz27_2 : wc.cell? ⟨gb560,2,none⟩=some (.slice A0_2 l0_2.length c0_2):=(blk_cell BK560.out 2).trans rfl
    have hfz27_0:=blk_frozen BK560.out 0
    have hfz27_1:=blk_frozen BK560.out 1
    have hfz27_2:=blk_frozen BK560.out 2
    go_wp2_with (first|((with_reducible refine gate_callee (f:=60) rfl ?_);refine goesL_ (some 23) rfl rfl Tryd.func60 (by kernel_rfl) rfl #[.slice A0_1 l0_1.length c0_1,.slice A0_2 l0_2.length c0_2] rfl (by (try simp only [List.map_toArray,List.map_cons,List.map_nil]);first|done|rfl) ?_;(with_reducible refine (penumbraref02_Gcd.calls kj1 (fun k_=>k_ < w.heap.size) _ _ l0_1 (fun k_=>k_ < w.heap.size) _ _ l0_2 t571 _ ?side1 ?side2 A23.out).mono ?_);(case side1=>exact Kd.V_mk HC0_1.out (Kd.F_below (Kd.C_F (Kd.heap_int .u32) HR0_1.out) (by repeat (first|with_reducible exact HB.out|apply ba|apply bn|apply b1|refine below_set ?_ GE560.out|refine below_set ?_ GE561.out))));(case side2=>exact Kd.V_mk HC0_2.out (Kd.F_below (Kd.C_F (Kd.heap_int .u32) HR0_2.out) (by repeat (first|with_reducible exact HB.out|apply ba|apply bn|apply b1|refine below_set ?_ GE560.out|refine below_set ?_ GE561.out))));rintro e w28 ⟨v572,rfl,ho0,hb⟩;refine ⟨_,rfl,?_⟩;have n0_:=Aside0.mk (Kd.R_lower (Kd.R_mono (ok':=fun k_=>True) ho0 (fun _ hk_=>trivial)) (below_size (by repeat (first|with_reducible exact HB.out|apply ba|apply bn|apply b1|refine below_set ?_ GE560.out|refine below_set ?_ GE561.out))));have n1_:=Aside0.mk (blk_below (g:=gb560) (o:=.cells #[.bool a0_0,.slice A0_1 l0_1.length c0_1,.slice A0_2 l0_2.length c0_2] 25 (0,0)) (Bu BK560.out) hb);have n2_:=Aside0.mk (blk_below (g:=gb561) (o:=.cells #[.bool false,.slice none 0 0,.slice none 0 0] 25 (0,0)) (Bu BK561.out) hb);have n3_:=Aside0.mk (below_step (by repeat (first|with_reducible exact HB.out|apply ba|apply bn|apply b1|refine below_set ?_ GE560.out|refine below_set ?_ GE561.out)) hb);clear BK560;clear BK561;clear HB;have HO573:=n0_;have BK560:=n1_;have BK561:=n2_;have HB:=n3_;clear n0_ n1_ n2_ n3_;have hcz29_0 : w28.cell? ⟨gb560,0,none⟩=some (.bool a0_0):=(blk_cell BK560.out 0).trans rfl;have hcz29_1 : w28.cell? ⟨gb560,1,none⟩=some (.slice A0_1 l0_1.length c0_1):=(blk_cell BK560.out 1).trans rfl;have hcz29_2 : w28.cell? ⟨gb560,2,none⟩=some (.slice A0_2 l0_2.length c0_2):=(blk_cell BK560.out 2).trans rfl;have hfz29_0:=blk_frozen BK560.out 0;have hfz29_1:=blk_frozen BK560.out 1;have hfz29_2:=blk_frozen BK560.out 2;obtain ⟨Ao30,co30,eo30⟩:=Kd.R_slice HO573.out;subst eo30)|((with_reducible refine gate_callee (f:=42) rfl ?_);refine goesL_ (some 28) rfl rfl Tryd.func42 (by kernel_rfl) rfl #[.slice A0_1 l0_1.length c0_1,.slice Ao30 t571.length co30] rfl (by (try simp only [List.map_toArray,List.map_cons,List.map_nil]);first|done|rfl) ?_;(with_reducible refine (penumbraref01_DivMod.calls kj1 _ _ l0_1 _ _ t571 t574 t575 t576 _ ?side1 ?side2 ?side3 ?side4 A24.out).mono ?_);(case side1=>repeat (first|exact (Kd.C_below HR0_1.out HB.out)|(with_reducible refine Kd.C_alloc ?_ _)|(with_reducible refine Kd.C_drewN ?_ _)|(with_reducible refine Kd.C_drew ?_)));(case side2=>exact HC0_1.out);(case side3=>exact Cu (Kd.R_reads' HO573.out).2.2);(case side4=>exact (Kd.R_reads' HO573.out).2.1);rintro e w31 ⟨v577,v579,rfl,ho0,ho1,hb⟩;refine ⟨_,rfl,?_⟩;have n0_:=Aside0.mk (Kd.R_mono (Kd.R_told (Kd.R_told (Kd.R_old (Ru HO573.out) hb) (Kd.R_base ho0)) (Kd.R_base ho1)) (fun _ h_=>h_.1));have n1_:=Aside0.mk (Kd.R_lower (Kd.R_new' ho0 (Kd.R_lt (Ru HO573.out))) (below_size (by repeat (first|with_reducible exact HB.out|apply ba|apply bn|apply b1|refine below_set ?_ GE560.out|refine below_set ?_ GE561.out))));have n2_:=Aside0.mk (Kd.R_lower (Kd.R_new' ho1 (Kd.R_lt (Ru HO573.out))) (below_size (by repeat (first|with_reducible exact HB.out|apply ba|apply bn|apply b1|refine below_set ?_ GE560.out|refine below_set ?_ GE561.out))));have n3_:=Aside0.mk (blk_below (g:=gb560) (o:=.cells #[.bool a0_0,.slice A0_1 l0_1.length c0_1,.slice A0_2 l0_2.length c0_2] 25 (0,0)) (Bu BK560.out) hb);have n4_:=Aside0.mk (blk_below (g:=gb561) (o:=.cells #[.bool false,.slice none 0 0,.slice none 0 0] 25 (0,0)) (Bu BK561.out) hb);have n5_:=Aside0.mk (below_step (by repeat (first|with_reducible exact HB.out|apply ba|apply bn|apply b1|refine below_set ?_ GE560.out|refine below_set ?_ GE561.out)) hb);clear HO573;clear BK560;clear BK561;clear HB;have HO573:=n0_;have HO578:=n1_;have HO580:=n2_;have BK560:=n3_;have BK561:=n4_;have HB:=n5_;clear n0_ n1_ n2_ n3_ n4_ n5_;have hcz32_0 : w31.cell? ⟨gb560,0,none⟩=some (.bool a0_0):=(blk_cell BK560.out 0).trans rfl;have hcz32_1 : w31.cell? ⟨gb560,1,none⟩=some (.slice A0_1 l0_1.length c0_1):=(blk_cell BK560.out 1).trans rfl;have hcz32_2 : w31.cell? ⟨gb560,2,none⟩=some (.slice A0_2 l0_2.length c0_2):=(blk_cell BK560.out 2).trans rfl;have hfz32_0:=blk_frozen BK560.out 0;have hfz32_1:=blk_frozen BK560.out 1;have hfz32_2:=blk_frozen BK560.out 2)|((with_reducible refine gate_callee (f:=42) rfl ?_);refine goesL_ (some 36) rfl rfl Tryd.func42 (by kernel_rfl) rfl #[.slice A0_2 l0_2.length c0_2,.slice Ao30 t571.length co30] rfl (by (try simp only [List.map_toArray,List.map_cons,List.map_nil]);first|done|rfl) ?_;(with_reducible refine (penumbraref01_DivMod.calls kj1 _ _ l0_2 _ _ t571 t581 t582 t583 _ ?side1 ?side2 ?side3 ?side4 A25.out).mono ?_);(case side1=>repeat (first|exact (Kd.C_below HR0_2.out HB.out)|(with_reducible refine Kd.C_alloc ?_ _)|(with_reducible refine Kd.C_drewN ?_ _)|(with_reducible refine Kd.C_drew ?_)));(case side2=>exact HC0_2.out);(case side3=>exact Cu (Kd.R_reads' HO573.out).2.2);(case side4=>exact (Kd.R_reads' HO573.out).2.1);rintro e w33 ⟨v584,v586,rfl,ho0,ho1,hb⟩;refine ⟨_,rfl,?_⟩;have n0_:=Aside0.mk (Kd.R_mono (Kd.R_told (Kd.R_told (Kd.R_old (Ru HO573.out) hb) (Kd.R_base ho0)) (Kd.R_base ho1)) (fun _ h_=>h_.1));have n1_:=Aside0.mk (Kd.R_mono (Kd.R_told (Kd.R_told (Kd.R_old (Ru HO578.out) hb) (Kd.R_base ho0)) (Kd.R_base ho1)) (fun _ h_=>h_.1));have n2_:=Aside0.mk (Kd.R_mono (Kd.R_told (Kd.R_told (Kd.R_old (Ru HO580.out) hb) (Kd.R_base ho0)) (Kd.R_base ho1)) (fun _ h_=>h_.1));have n3_:=Aside0.mk (Kd.R_lower (Kd.R_new' (Kd.R_new' (Kd.R_new' ho0 (Kd.R_lt (Ru HO573.out))) (Kd.R_lt (Ru HO578.out))) (Kd.R_lt (Ru HO580.out))) (below_size (by repeat (first|with_reducible exact HB.out|apply ba|apply bn|apply b1|refine below_set ?_ GE560.out|refine below_set ?_ GE561.out))));have n4_:=Aside0.mk (Kd.R_lower (Kd.R_new' (Kd.R_new' (Kd.R_new' ho1 (Kd.R_lt (Ru HO573.out))) (Kd.R_lt (Ru HO578.out))) (Kd.R_lt (Ru HO580.out))) (below_size (by repeat (first|with_reducible exact HB.out|apply ba|apply bn|apply b1|refine below_set ?_ GE560.out|refine below_set ?_ GE561.out))));have n5_:=Aside0.mk (blk_below (g:=gb560) (o:=.cells #[.bool a0_0,.slice A0_1 l0_1.length c0_1,.slice A0_2 l0_2.length c0_2] 25 (0,0)) (Bu BK560.out) hb);have n6_:=Aside0.mk (blk_below (g:=gb561) (o:=.cells #[.bool false,.slice none 0 0,.slice none 0 0] 25 (0,0)) (Bu BK561.out) hb);have n7_:=Aside0.mk (below_step (by repeat (first|with_reducible exact HB.out|apply ba|apply bn|apply b1|refine below_set ?_ GE560.out|refine below_set ?_ GE561.out)) hb);clear HO573;clear HO578;clear HO580;clear BK560;clear BK561;clear HB;have HO573:=n0_;have HO578:=n1_;have HO580:=n2_;have HO585:=n3_;have HO587:=n4_;have BK560:=n5_;have BK561:=n6_;have HB:=n7_;clear n0_ n1_ n2_ n3_ n4_ n5_ n6_ n7_;have hcz34_0 : w33.cell? ⟨gb560,0,none⟩=some (.bool a0_0):=(blk_cell BK560.out 0).trans rfl;have hcz34_1 : w33.cell? ⟨gb560,1,none⟩=some (.slice A0_1 l0_1.length c0_1):=(blk_cell BK560.out 1).trans rfl;have hcz34_2 : w33.cell? ⟨gb560,2,none⟩=some (.slice A0_2 l0_2.length c0_2):=(blk_cell BK560.out 2).trans rfl;have hfz34_0:=blk_frozen BK560.out 0;have hfz34_1:=blk_frozen BK560.out 1;have hfz34_2:=blk_frozen BK560.out 2;obtain ⟨Ao35,co35,eo35⟩:=Kd.R_slice HO585.out;subst eo35;obtain ⟨Ao36,co36,eo36⟩:=Kd.R_slice HO578.out;subst eo36;have hcz37_0 : w33.cell? ⟨gb561,0,none⟩=some (.bool false):=(blk_cell BK561.out 0).trans rfl;have hcz37_1 : w33.cell? ⟨gb561,1,none⟩=some (.slice none 0 0):=(blk_cell BK561.out 1).trans rfl;have hcz37_2 : w33.cell? ⟨gb561,2,none⟩=some (.slice none 0 0):=(blk_cell BK561.out 2).trans rfl;have hfz37_0:=blk_frozen BK561.out 0;have hfz37_1:=blk_frozen BK561.out 1;have hfz37_2:=blk_frozen BK561.out 2))
    refine bodyPost_ret (results_cell_row rfl _ _ gb561 25 #[.bool a0_0,.slice Ao36 t574.length co36,.slice Ao35 t581.length co35] (0,0) _ rfl (by (with_reducible repeat (first|refine blk_drewN ?_ _|refine blk_drew ?_|refine blk_alloc ?_ _));refine blk_put (cs:=#[.bool a0_0,.slice Ao36 t574.length co36,.slice none 0 0]) ?_ 2 _ rfl;(with_reducible repeat (first|refine blk_drewN ?_ _|refine blk_drew ?_|refine blk_alloc ?_ _));refine blk_put (cs:=#[.bool a0_0,.slice none 0 0,.slice none 0 0]) ?_ 1 _ rfl;(with_reducible repeat (first|refine blk_drewN ?_ _|refine blk_drew ?_|refine blk_alloc ?_ _));refine blk_put (cs:=#[.bool false,.slice none 0 0,.slice none 0 0]) ?_ 0 _ rfl;(with_reducible repeat (first|refine blk_drewN ?_ _|refine blk_drew ?_|refine blk_alloc ?_ _));exact BK561.out) Tryd.underlying25 rfl (by kernel_rfl)) rfl ?_
    exact ⟨_,_,by first|rfl|(simp [errW_none,errW_some] <;> rfl)|(simp [*,errW_none,errW_some] <;> rfl),by (with_reducible repeat (first|apply Ra|apply Rn|apply Rd));exact Kd.R_mono (Kd.R_far (p:=⟨gb561,2,none⟩) (Kd.R_far (p:=⟨gb561,1,none⟩) (Kd.R_far (p:=⟨gb561,0,none⟩) (Kd.R_types HO578.out BK561.out (by decide)) (fun _ hk=>hk.2) (.bool a0_0)) (fun _ hk=>hk.2) (.slice Ao36 t574.length co36)) (fun _ hk=>hk.2) (.slice Ao35 t581.length co35)) (fun _ hk=>hk.1.1.2),by (with_reducible repeat (first|apply Ra|apply Rn|apply Rd));exact Kd.R_mono (Kd.R_far (p:=⟨gb561,2,none⟩) (Kd.R_far (p:=⟨gb561,1,none⟩) (Kd.R_far (p:=⟨gb561,0,none⟩) (Kd.R_types HO585.out BK561.out (by decide)) (fun _ hk=>hk.2) (.bool a0_0)) (fun _ hk=>hk.2) (.slice Ao36 t574.length co36)) (fun _ hk=>hk.2) (.slice Ao35 t581.length co35)) (fun _ hk=>hk.1.1.2),by repeat (first|with_reducible exact HB.out|apply ba|apply bn|apply b1|refine below_set ?_ GE560.out|refine below_set ?_ GE561.out)⟩
end Go.Proofs.YtncdiodnbkhacaaDoor.Pq
end
section
namespace Go.Proofs.YtncdiodnbkhacaaDoor.Pq
open Go.RowKit Go.Proofs.YtncdiodnbkhacaaDoorW.PrintWords Go.Proofs.YtncdiodnbkhacaaDoorW.PrintLast Go.Proofs.YtncdiodnbkhacaaDoorW.PrintMore
attribute [local go_sem] max2_int min2_int max_two min_two max_three min_three max_four min_four
set_option linter.unusedVariables false
set_option linter.unusedSimpArgs false
theorem penumbraref01_Of.mono : ∀ a0 k,LeO (penumbraref01_Of.f k a0) (penumbraref01_Of.f (k+1) a0):=by
 intro a0 k
 unfold penumbraref01_Of.f
 with_reducible repeat' first
  |exact penumbraref01_Norm.mono _ _
  |exact LeO.refl _
  |exact LeO.none _
  |refine LeO.ite ?_ ?_
  |refine LeO.bind ?_ (fun _=>?_)
set_option maxHeartbeats 8000000 in
set_option maxRecDepth 100000 in
theorem penumbraref01_Of.calls (k : Nat) (a0 : Int) (r : List Int) (w : World) (h : penumbraref01_Of.f k a0=some r) :
  Calls Tryd.prog 78 #[.int .u64 a0] w fun e w'=>∃ v0_ : Value,e=.returned (v0_)∧Kd.R (Kd.int .u32) 35 w' w.heap.size (fun _=>True) v0_ r∧Below w.heap.size w w':=by
 have HB:=Aside0.mk (Below.refl w.heap.size w)
 have H : ((penumbraref01_Norm.f k (([(a0) % 4294967296,(a0 / 4294967296) % 4294967296] : List Int))).bind fun t591=>(some t591))=some r:=h
 clear h
 obtain ⟨y588,hy588⟩ : ∃ y_ : List Int,y_=(([(a0) % 4294967296,(a0 / 4294967296) % 4294967296] : List Int)):=⟨_,rfl⟩
 replace H : ((penumbraref01_Norm.f k y588).bind fun t591=>(some t591))=some r:=by first|(rw [hy588];with_reducible exact H)|(have H2_:=(Option.bind_some _ _).symm.trans H;rw [hy588];with_reducible exact H2_)|(have H2_:=(Option.bind_some _ _).symm.trans H;with_reducible exact H2_)|with_reducible exact H|(rw [hy588];exact H)|exact H
 have Ny588:=Aside0.mk hy588
 clear hy588
 replace H:=Option.bind_eq_some_iff.mp H
 obtain ⟨t591,A20,H⟩:=H
 try dsimp only at H
 have A2:=Aside0.mk A20
 clear A20
 obtain rfl:=Option.some.inj H
 go_enter Tryd.func78,Tryd.ntmps78
 go_wp2_with (first|((with_reducible refine gate_dst (N:=8) rfl ?_);refine Kd.R_lit (Kd.int .u32) _ 35 ?hg (N:=8) ?hd (xs:=([(a0) % 4294967296,(a0 / 4294967296) % 4294967296] : List Int)) (inner:=[.int .u32 ((a0) % 4294967296),.int .u32 ((a0 / 4294967296) % 4294967296)]) (ok:=fun _=>True) (okp:=fun _=>True) ?hr ?hp (fun _ hk=>hk) trivial (Below.refl _ _) (Nat.le_refl _) (by simp) ?_;(case hd=>rfl);(case hg=>rfl);(case hr=>first|(go_simp;done)|(go_simp;(with_reducible rfl))|(go_simp;rfl)|(go_simp;simp only [hu,Int.emod_sub_emod]));(case hp=>exact (Reps.one (show Kd.M (Kd.int .u32) _ _ _ ((a0) % 4294967296) [.int .u32 ((a0) % 4294967296)] from rfl) (Reps.one (show Kd.M (Kd.int .u32) _ _ _ ((a0 / 4294967296) % 4294967296) [.int .u32 ((a0 / 4294967296) % 4294967296)] from rfl) (Reps.none _ _))));intro v589 w3 ho4 hb hg_ hnew_;clear hg_ hnew_;(first|rw [← Ny588.out] at ho4|(simp only [Int.reduceToNat] at ho4;rw [← Ny588.out] at ho4));have n0_:=Aside0.mk (Kd.R_lower ho4 (below_size (Hu HB.out)));have n1_:=Aside0.mk (below_step (Hu HB.out) hb);clear HB;have HO590:=n0_;have HB:=n1_;clear n0_ n1_;clear hb ho4;obtain ⟨Ao5,co5,eo5⟩:=Kd.R_slice HO590.out;subst eo5)|((with_reducible refine gate_callee (f:=58) rfl ?_);refine goesL_ (some 9) rfl rfl Tryd.func58 (by kernel_rfl) rfl #[.slice Ao5 y588.length co5] rfl (by (try simp only [List.map_toArray,List.map_cons,List.map_nil]);first|done|rfl) ?_;(with_reducible refine (penumbraref01_Norm.calls k _ _ y588 t591 _ ?side1 ?side2 A2.out).mono ?_);(case side1=>exact Cu (Kd.R_reads' HO590.out).2.2);(case side2=>exact (Kd.R_reads' HO590.out).2.1);rintro e w6 ⟨v592,rfl,ho0,hb⟩;refine ⟨_,rfl,?_⟩;have n0_:=Aside0.mk (Kd.R_elder' (Ru HO590.out) (Kd.R_base ho0) hb);have n1_:=Aside0.mk (Kd.R_lower (Kd.R_new' ho0 (Kd.R_lt (Ru HO590.out))) (below_size (Hu HB.out)));have n2_:=Aside0.mk (below_step (Hu HB.out) hb);clear HO590;clear HB;have HO590:=n0_;have HO593:=n1_;have HB:=n2_;clear n0_ n1_ n2_))
 go_ret
 exact ⟨_,by first|rfl|(simp [errW_none,errW_some] <;> rfl)|(simp [*,errW_none,errW_some] <;> rfl),by (with_reducible repeat (first|apply Ra|apply Rn|apply Rd));exact Kd.R_mono HO593.out (fun _ hk=>trivial),Hu HB.out⟩
end Go.Proofs.YtncdiodnbkhacaaDoor.Pq
end
section
namespace Go.Proofs.YtncdiodnbkhacaaDoor.Pq
open Go.RowKit Go.Proofs.YtncdiodnbkhacaaDoorW.PrintWords Go.Proofs.YtncdiodnbkhacaaDoorW.PrintLast Go.Proofs.YtncdiodnbkhacaaDoorW.PrintMore
attribute [local go_sem] max2_int min2_int max_two min_two max_three min_three max_four min_four
set_option linter.unusedVariables false
set_option linter.unusedSimpArgs false
theorem penumbraref03_abs.mono : ∀ a0 k,LeO (penumbraref03_abs.f k a0) (penumbraref03_abs.f (k+1) a0):=by
 intro a0 k
 unfold penumbraref03_abs.f
 with_reducible repeat' first
  |exact penumbraref01_Of.mono _ _
  |exact LeO.refl _
  |exact LeO.none _
  |refine LeO.ite ?_ ?_
  |refine LeO.bind ?_ (fun _=>?_)
set_option maxHeartbeats 8000000 in
set_option maxRecDepth 100000 in
theorem penumbraref03_abs.calls (k : Nat) (a0 : Int) (r : List Int) (w : World) (h : penumbraref03_abs.f k a0=some r) :
  Calls Tryd.prog 49 #[.int .i64 a0] w fun e w'=>∃ v0_ : Value,e=.returned (v0_)∧Kd.R (Kd.int .u32) 35 w' w.heap.size (fun _=>True) v0_ r∧Below w.heap.size w w':=by
 have HB:=Aside0.mk (Below.refl w.heap.size w)
 have H : (if a0 < 0 then ((penumbraref01_Of.f k (IntKind.u64.wrap ((IntKind.u64.wrap (wrap64 (-(wrap64 (a0+1)))))+1))).bind fun t594=>(some t594)) else ((penumbraref01_Of.f k (IntKind.u64.wrap (a0))).bind fun t597=>(some t597)))=some r:=h
 clear h
 by_cases c2 : a0 < 0
 ·rw [if_pos c2] at H
  have c2b0 : decide (a0 < 0)=true:=decide_eq_true c2
  clear c2
  replace H:=Option.bind_eq_some_iff.mp H
  obtain ⟨t594,A30,H⟩:=H
  try dsimp only at H
  have A3:=Aside0.mk A30
  clear A30
  obtain rfl:=Option.some.inj H
  go_enter Tryd.func49,Tryd.ntmps49
  go_wp2_with (first|((with_reducible refine gate_callee (f:=78) rfl ?_);refine goesL_ (some 10) rfl rfl Tryd.func78 (by kernel_rfl) rfl #[.int .u64 (IntKind.u64.wrap ((IntKind.u64.wrap (wrap64 (-(wrap64 (a0+1)))))+1))] rfl (by (try simp only [List.map_toArray,List.map_cons,List.map_nil]);first|done|rfl) ?_;(with_reducible refine (penumbraref01_Of.calls k (IntKind.u64.wrap ((IntKind.u64.wrap (wrap64 (-(wrap64 (a0+1)))))+1)) t594 _ A3.out).mono ?_);rintro e w4 ⟨v595,rfl,ho0,hb⟩;refine ⟨_,rfl,?_⟩;have n0_:=Aside0.mk (Kd.R_lower ho0 (below_size (Hu HB.out)));have n1_:=Aside0.mk (below_step (Hu HB.out) hb);clear HB;have HO596:=n0_;have HB:=n1_;clear n0_ n1_))
  go_ret
  exact ⟨_,by first|rfl|(simp [errW_none,errW_some] <;> rfl)|(simp [*,errW_none,errW_some] <;> rfl),by (with_reducible repeat (first|apply Ra|apply Rn|apply Rd));exact HO596.out,Hu HB.out⟩
 ·rw [if_neg c2] at H
  have c2b0 : decide (a0 < 0)=false:=decide_eq_false c2
  clear c2
  replace H:=Option.bind_eq_some_iff.mp H
  obtain ⟨t597,A50,H⟩:=H
  try dsimp only at H
  have A5:=Aside0.mk A50
  clear A50
  obtain rfl:=Option.some.inj H
  go_enter Tryd.func49,Tryd.ntmps49
  go_wp2_with (first|((with_reducible refine gate_callee (f:=78) rfl ?_);refine goesL_ (some 13) rfl rfl Tryd.func78 (by kernel_rfl) rfl #[.int .u64 (IntKind.u64.wrap (a0))] rfl (by (try simp only [List.map_toArray,List.map_cons,List.map_nil]);first|done|rfl) ?_;(with_reducible refine (penumbraref01_Of.calls k (IntKind.u64.wrap (a0)) t597 _ A5.out).mono ?_);rintro e w6 ⟨v598,rfl,ho0,hb⟩;refine ⟨_,rfl,?_⟩;have n0_:=Aside0.mk (Kd.R_lower ho0 (below_size (Hu HB.out)));have n1_:=Aside0.mk (below_step (Hu HB.out) hb);clear HB;have HO599:=n0_;have HB:=n1_;clear n0_ n1_))
  go_ret
  exact ⟨_,by first|rfl|(simp [errW_none,errW_some] <;> rfl)|(simp [*,errW_none,errW_some] <;> rfl),by (with_reducible repeat (first|apply Ra|apply Rn|apply Rd));exact HO599.out,Hu HB.out⟩
end Go.Proofs.YtncdiodnbkhacaaDoor.Pq
end
section
namespace Go.Proofs.YtncdiodnbkhacaaDoor.Pq
open Go.RowKit Go.Proofs.YtncdiodnbkhacaaDoorW.PrintWords Go.Proofs.YtncdiodnbkhacaaDoorW.PrintLast Go.Proofs.YtncdiodnbkhacaaDoorW.PrintMore
attribute [local go_sem] max2_int min2_int max_two min_two max_three min_three max_four min_four
set_option linter.unusedVariables false
set_option linter.unusedSimpArgs false
theorem penumbraref03_Of.mono : ∀ a0 a1 k,LeO (penumbraref03_Of.f k a0 a1) (penumbraref03_Of.f (k+1) a0 a1):=by
 intro a0 a1 k
 unfold penumbraref03_Of.f
 with_reducible repeat' first
  |exact penumbraref03_Read.mono _ _ _ _
  |exact penumbraref03_abs.mono _ _
  |exact LeO.refl _
  |exact LeO.none _
  |refine LeO.ite ?_ ?_
  |refine LeO.bind ?_ (fun _=>?_)
set_option maxHeartbeats 8000000 in
set_option maxRecDepth 100000 in
theorem penumbraref03_Of.calls (k : Nat) (a0 : Int) (a1 : Int) (r1 : Bool) (r2 : List Int) (r3 : List Int) (w : World) (h : penumbraref03_Of.f k a0 a1=some (r1,r2,r3)) :
  Calls Tryd.prog 23 #[.int .i64 a0,.int .i64 a1] w fun e w'=>∃ v1_ v2_ : Value,e=.returned (.agg #[.bool r1,v1_,v2_])∧Kd.R (Kd.int .u32) 35 w' w.heap.size (fun k_=>some k_≠(v2_ : Value).ownBlock) v1_ r2∧Kd.R (Kd.int .u32) 35 w' w.heap.size (fun k_=>some k_≠(v1_ : Value).ownBlock) v2_ r3∧Below w.heap.size w w':=by
 have hu25:=Tryd.underlying25
 have HB:=Aside0.mk (Below.refl w.heap.size w)
 have H : (if a0 < 0 then (if a1 ≥ 0 then ((penumbraref03_abs.f k a0).bind fun t601=>((penumbraref03_abs.f k a1).bind fun t604=>((penumbraref03_Read.f k true t601 t604).bind fun bt607=>(some (bt607.1,bt607.2.1,bt607.2.2))))) else (if a0 ≥ 0 then ((penumbraref03_abs.f k a0).bind fun t614=>((penumbraref03_abs.f k a1).bind fun t617=>((penumbraref03_Read.f k (decide (a1 < 0)) t614 t617).bind fun bt620=>(some (bt620.1,bt620.2.1,bt620.2.2))))) else ((penumbraref03_abs.f k a0).bind fun t627=>((penumbraref03_abs.f k a1).bind fun t630=>((penumbraref03_Read.f k false t627 t630).bind fun bt633=>(some (bt633.1,bt633.2.1,bt633.2.2))))))) else (if a0 ≥ 0 then ((penumbraref03_abs.f k a0).bind fun t640=>((penumbraref03_abs.f k a1).bind fun t643=>((penumbraref03_Read.f k (decide (a1 < 0)) t640 t643).bind fun bt646=>(some (bt646.1,bt646.2.1,bt646.2.2))))) else ((penumbraref03_abs.f k a0).bind fun t653=>((penumbraref03_abs.f k a1).bind fun t656=>((penumbraref03_Read.f k false t653 t656).bind fun bt659=>(some (bt659.1,bt659.2.1,bt659.2.2)))))))=some (r1,r2,r3):=h
 clear h
 by_cases c3 : a0 < 0
 ·rw [if_pos c3] at H
  have c3b0 : decide (a0 < 0)=true:=decide_eq_true c3
  clear c3
  by_cases c4 : a1 ≥ 0
  ·rw [if_pos c4] at H
   have c4b0 : decide (0≤a1)=true:=decide_eq_true c4
   clear c4
   replace H:=Option.bind_eq_some_iff.mp H
   obtain ⟨t601,A50,H⟩:=H
   try dsimp only at H
   have A5:=Aside0.mk A50
   clear A50
   replace H:=Option.bind_eq_some_iff.mp H
   obtain ⟨t604,A60,H⟩:=H
   try dsimp only at H
   have A6:=Aside0.mk A60
   clear A60
   replace H:=Option.bind_eq_some_iff.mp H
   obtain ⟨⟨t607,t608,t611⟩,A70,H⟩:=H
   try dsimp only at H
   have A7:=Aside0.mk A70
   clear A70
   simp only [Option.some.injEq,Prod.mk.injEq] at H
   obtain ⟨rfl,rfl,rfl⟩:=H
   go_enter Tryd.func23,Tryd.ntmps23
   go_wp2_with (first|((with_reducible refine gate_dst (N:=4) rfl ?_);refine box_event ?hg (N:=4) ?hd (cs:=#[.bool false,.slice none 0 0,.slice none 0 0]) (t:=25) ?hr ?_;(case hd=>rfl);(case hg=>rfl);(case hr=>first|(go_simp;done)|(go_simp;(with_reducible rfl))|(go_simp;rfl)|(go_simp;simp only [hu,Int.emod_sub_emod]));intro gb600 hg w8 hbox hb;have n0_:=Aside0.mk (below_step (Hu HB.out) hb);have n1_:=Aside0.mk (hbox);have n2_:=Aside0.mk ((by rw [hg];exact (below_size (Hu HB.out)) : w.heap.size≤gb600));have n3_:=Aside0.mk ((by rw [hg];exact (below_size (Hu HB.out)) : w.heap.size≤gb600));clear HB;have HB:=n0_;have BK600:=n1_;have GW600:=n2_;have GE600:=n3_;clear n0_ n1_ n2_ n3_;clear hb hbox hg)|((with_reducible refine gate_callee (f:=49) rfl ?_);refine goesL_ (some 20) rfl rfl Tryd.func49 (by kernel_rfl) rfl #[.int .i64 a0] rfl (by (try simp only [List.map_toArray,List.map_cons,List.map_nil]);first|done|rfl) ?_;(with_reducible refine (penumbraref03_abs.calls k a0 t601 _ A5.out).mono ?_);rintro e w9 ⟨v602,rfl,ho0,hb⟩;refine ⟨_,rfl,?_⟩;have n0_:=Aside0.mk (Kd.R_lower ho0 (below_size (by repeat (first|with_reducible exact HB.out|apply ba|apply bn|apply b1|refine below_set ?_ GE600.out))));have n1_:=Aside0.mk (blk_below (g:=gb600) (o:=.cells #[.bool false,.slice none 0 0,.slice none 0 0] 25 (0,0)) (Bu BK600.out) hb);have n2_:=Aside0.mk (below_step (by repeat (first|with_reducible exact HB.out|apply ba|apply bn|apply b1|refine below_set ?_ GE600.out)) hb);clear BK600;clear HB;have HO603:=n0_;have BK600:=n1_;have HB:=n2_;clear n0_ n1_ n2_)|((with_reducible refine gate_callee (f:=49) rfl ?_);refine goesL_ (some 22) rfl rfl Tryd.func49 (by kernel_rfl) rfl #[.int .i64 a1] rfl (by (try simp only [List.map_toArray,List.map_cons,List.map_nil]);first|done|rfl) ?_;(with_reducible refine (penumbraref03_abs.calls k a1 t604 _ A6.out).mono ?_);rintro e w10 ⟨v605,rfl,ho0,hb⟩;refine ⟨_,rfl,?_⟩;have n0_:=Aside0.mk (Kd.R_elder' (Ru HO603.out) (Kd.R_base ho0) hb);have n1_:=Aside0.mk (Kd.R_lower (Kd.R_new' ho0 (Kd.R_lt (Ru HO603.out))) (below_size (by repeat (first|with_reducible exact HB.out|apply ba|apply bn|apply b1|refine below_set ?_ GE600.out))));have n2_:=Aside0.mk (blk_below (g:=gb600) (o:=.cells #[.bool false,.slice none 0 0,.slice none 0 0] 25 (0,0)) (Bu BK600.out) hb);have n3_:=Aside0.mk (below_step (by repeat (first|with_reducible exact HB.out|apply ba|apply bn|apply b1|refine below_set ?_ GE600.out)) hb);clear HO603;clear BK600;clear HB;have HO603:=n0_;have HO606:=n1_;have BK600:=n2_;have HB:=n3_;clear n0_ n1_ n2_ n3_;obtain ⟨Ao11,co11,eo11⟩:=Kd.R_slice HO606.out;subst eo11;obtain ⟨Ao12,co12,eo12⟩:=Kd.R_slice HO603.out;subst eo12)|((with_reducible refine gate_callee (f:=34) rfl ?_);refine goesL_ (some 24) rfl rfl Tryd.func34 (by kernel_rfl) rfl #[.agg #[.bool true,.slice Ao12 t601.length co12,.slice Ao11 t604.length co11]] rfl (by (try simp only [List.map_toArray,List.map_cons,List.map_nil]);first|done|rfl) ?_;(with_reducible refine (penumbraref03_Read.calls k true _ _ t601 _ _ t604 t607 t608 t611 _ ?side1 ?side2 ?side3 ?side4 A7.out).mono ?_);(case side1=>exact Cu (Kd.R_reads' HO603.out).2.2);(case side2=>exact (Kd.R_reads' HO603.out).2.1);(case side3=>exact Cu (Kd.R_reads' HO606.out).2.2);(case side4=>exact (Kd.R_reads' HO606.out).2.1);rintro e w13 ⟨v609,v612,rfl,ho0,ho1,hb⟩;refine ⟨_,rfl,?_⟩;have n0_:=Aside0.mk (Kd.R_mono (Kd.R_told (Kd.R_told (Kd.R_old (Ru HO603.out) hb) (Kd.R_base ho0)) (Kd.R_base ho1)) (fun _ h_=>h_.1));have n1_:=Aside0.mk (Kd.R_mono (Kd.R_told (Kd.R_told (Kd.R_old (Ru HO606.out) hb) (Kd.R_base ho0)) (Kd.R_base ho1)) (fun _ h_=>h_.1));have n2_:=Aside0.mk (Kd.R_lower (Kd.R_new' (Kd.R_new' ho0 (Kd.R_lt (Ru HO603.out))) (Kd.R_lt (Ru HO606.out))) (below_size (by repeat (first|with_reducible exact HB.out|apply ba|apply bn|apply b1|refine below_set ?_ GE600.out))));have n3_:=Aside0.mk (Kd.R_lower (Kd.R_new' (Kd.R_new' ho1 (Kd.R_lt (Ru HO603.out))) (Kd.R_lt (Ru HO606.out))) (below_size (by repeat (first|with_reducible exact HB.out|apply ba|apply bn|apply b1|refine below_set ?_ GE600.out))));have n4_:=Aside0.mk (blk_below (g:=gb600) (o:=.cells #[.bool false,.slice none 0 0,.slice none 0 0] 25 (0,0)) (Bu BK600.out) hb);have n5_:=Aside0.mk (below_step (by repeat (first|with_reducible exact HB.out|apply ba|apply bn|apply b1|refine below_set ?_ GE600.out)) hb);clear HO603;clear HO606;clear BK600;clear HB;have HO603:=n0_;have HO606:=n1_;have HO610:=n2_;have HO613:=n3_;have BK600:=n4_;have HB:=n5_;clear n0_ n1_ n2_ n3_ n4_ n5_;have hcz14_0 : w13.cell? ⟨gb600,0,none⟩=some (.bool false):=(blk_cell BK600.out 0).trans rfl;have hcz14_1 : w13.cell? ⟨gb600,1,none⟩=some (.slice none 0 0):=(blk_cell BK600.out 1).trans rfl;have hcz14_2 : w13.cell? ⟨gb600,2,none⟩=some (.slice none 0 0):=(blk_cell BK600.out 2).trans rfl;have hfz14_0:=blk_frozen BK600.out 0;have hfz14_1:=blk_frozen BK600.out 1;have hfz14_2:=blk_frozen BK600.out 2;obtain ⟨Ao15,co15,eo15⟩:=Kd.R_slice HO610.out;subst eo15;obtain ⟨Ao16,co16,eo16⟩:=Kd.R_slice HO613.out;subst eo16))
   refine bodyPost_ret (results_cell_row rfl _ _ gb600 25 #[.bool t607,.slice Ao15 t608.length co15,.slice Ao16 t611.length co16] (0,0) _ rfl (by (with_reducible repeat (first|refine blk_drewN ?_ _|refine blk_drew ?_|refine blk_alloc ?_ _));refine blk_put (cs:=#[.bool t607,.slice Ao15 t608.length co15,.slice none 0 0]) ?_ 2 _ rfl;(with_reducible repeat (first|refine blk_drewN ?_ _|refine blk_drew ?_|refine blk_alloc ?_ _));refine blk_put (cs:=#[.bool t607,.slice none 0 0,.slice none 0 0]) ?_ 1 _ rfl;(with_reducible repeat (first|refine blk_drewN ?_ _|refine blk_drew ?_|refine blk_alloc ?_ _));refine blk_put (cs:=#[.bool false,.slice none 0 0,.slice none 0 0]) ?_ 0 _ rfl;(with_reducible repeat (first|refine blk_drewN ?_ _|refine blk_drew ?_|refine blk_alloc ?_ _));exact BK600.out) Tryd.underlying25 rfl (by kernel_rfl)) rfl ?_
   exact ⟨_,_,by first|rfl|(simp [errW_none,errW_some] <;> rfl)|(simp [*,errW_none,errW_some] <;> rfl),by (with_reducible repeat (first|apply Ra|apply Rn|apply Rd));exact Kd.R_mono (Kd.R_far (p:=⟨gb600,2,none⟩) (Kd.R_far (p:=⟨gb600,1,none⟩) (Kd.R_far (p:=⟨gb600,0,none⟩) (Kd.R_types HO610.out BK600.out (by decide)) (fun _ hk=>hk.2) (.bool t607)) (fun _ hk=>hk.2) (.slice Ao15 t608.length co15)) (fun _ hk=>hk.2) (.slice Ao16 t611.length co16)) (fun _ hk=>hk.1.1.1),by (with_reducible repeat (first|apply Ra|apply Rn|apply Rd));exact Kd.R_mono (Kd.R_far (p:=⟨gb600,2,none⟩) (Kd.R_far (p:=⟨gb600,1,none⟩) (Kd.R_far (p:=⟨gb600,0,none⟩) (Kd.R_types HO613.out BK600.out (by decide)) (fun _ hk=>hk.2) (.bool t607)) (fun _ hk=>hk.2) (.slice Ao15 t608.length co15)) (fun _ hk=>hk.2) (.slice Ao16 t611.length co16)) (fun _ hk=>hk.1.1.1),by repeat (first|with_reducible exact HB.out|apply ba|apply bn|apply b1|refine below_set ?_ GE600.out)⟩
  ·rw [if_neg c4] at H
   have c4b0 : decide (0≤a1)=false:=decide_eq_false c4
   clear c4
   by_cases c17 : a0 ≥ 0
   ·rw [if_pos c17] at H
    have c17b0 : decide (0≤a0)=true:=decide_eq_true c17
    clear c17
    replace H:=Option.bind_eq_some_iff.mp H
    obtain ⟨t614,A180,H⟩:=H
    try dsimp only at H
    have A18:=Aside0.mk A180
    clear A180
    replace H:=Option.bind_eq_some_iff.mp H
    obtain ⟨t617,A190,H⟩:=H
    try dsimp only at H
    have A19:=Aside0.mk A190
    clear A190
    replace H:=Option.bind_eq_some_iff.mp H
    obtain ⟨⟨t620,t621,t624⟩,A200,H⟩:=H
    try dsimp only at H
    have A20:=Aside0.mk A200
    clear A200
    simp only [Option.some.injEq,Prod.mk.injEq] at H
    obtain ⟨rfl,rfl,rfl⟩:=H
    go_enter Tryd.func23,Tryd.ntmps23
    go_wp2_with (first|((with_reducible refine gate_dst (N:=4) rfl ?_);refine box_event ?hg (N:=4) ?hd (cs:=#[.bool false,.slice none 0 0,.slice none 0 0]) (t:=25) ?hr ?_;(case hd=>rfl);(case hg=>rfl);(case hr=>first|(go_simp;done)|(go_simp;(with_reducible rfl))|(go_simp;rfl)|(go_simp;simp only [hu,Int.emod_sub_emod]));intro gb600 hg w21 hbox hb;have n0_:=Aside0.mk (below_step (Hu HB.out) hb);have n1_:=Aside0.mk (hbox);have n2_:=Aside0.mk ((by rw [hg];exact (below_size (Hu HB.out)) : w.heap.size≤gb600));have n3_:=Aside0.mk ((by rw [hg];exact (below_size (Hu HB.out)) : w.heap.size≤gb600));clear HB;have HB:=n0_;have BK600:=n1_;have GW600:=n2_;have GE600:=n3_;clear n0_ n1_ n2_ n3_;clear hb hbox hg)|((with_reducible refine gate_callee (f:=49) rfl ?_);refine goesL_ (some 20) rfl rfl Tryd.func49 (by kernel_rfl) rfl #[.int .i64 a0] rfl (by (try simp only [List.map_toArray,List.map_cons,List.map_nil]);first|done|rfl) ?_;(with_reducible refine (penumbraref03_abs.calls k a0 t614 _ A18.out).mono ?_);rintro e w22 ⟨v615,rfl,ho0,hb⟩;refine ⟨_,rfl,?_⟩;have n0_:=Aside0.mk (Kd.R_lower ho0 (below_size (by repeat (first|with_reducible exact HB.out|apply ba|apply bn|apply b1|refine below_set ?_ GE600.out))));have n1_:=Aside0.mk (blk_below (g:=gb600) (o:=.cells #[.bool false,.slice none 0 0,.slice none 0 0] 25 (0,0)) (Bu BK600.out) hb);have n2_:=Aside0.mk (below_step (by repeat (first|with_reducible exact HB.out|apply ba|apply bn|apply b1|refine below_set ?_ GE600.out)) hb);clear BK600;clear HB;have HO616:=n0_;have BK600:=n1_;have HB:=n2_;clear n0_ n1_ n2_)|((with_reducible refine gate_callee (f:=49) rfl ?_);refine goesL_ (some 22) rfl rfl Tryd.func49 (by kernel_rfl) rfl #[.int .i64 a1] rfl (by (try simp only [List.map_toArray,List.map_cons,List.map_nil]);first|done|rfl) ?_;(with_reducible refine (penumbraref03_abs.calls k a1 t617 _ A19.out).mono ?_);rintro e w23 ⟨v618,rfl,ho0,hb⟩;refine ⟨_,rfl,?_⟩;have n0_:=Aside0.mk (Kd.R_elder' (Ru HO616.out) (Kd.R_base ho0) hb);have n1_:=Aside0.mk (Kd.R_lower (Kd.R_new' ho0 (Kd.R_lt (Ru HO616.out))) (below_size (by repeat (first|with_reducible exact HB.out|apply ba|apply bn|apply b1|refine below_set ?_ GE600.out))));have n2_:=Aside0.mk (blk_below (g:=gb600) (o:=.cells #[.bool false,.slice none 0 0,.slice none 0 0] 25 (0,0)) (Bu BK600.out) hb);have n3_:=Aside0.mk (below_step (by repeat (first|with_reducible exact HB.out|apply ba|apply bn|apply b1|refine below_set ?_ GE600.out)) hb);clear HO616;clear BK600;clear HB;have HO616:=n0_;have HO619:=n1_;have BK600:=n2_;have HB:=n3_;clear n0_ n1_ n2_ n3_;obtain ⟨Ao24,co24,eo24⟩:=Kd.R_slice HO619.out;subst eo24;obtain ⟨Ao25,co25,eo25⟩:=Kd.R_slice HO616.out;subst eo25)|((with_reducible refine gate_callee (f:=34) rfl ?_);refine goesL_ (some 24) rfl rfl Tryd.func34 (by kernel_rfl) rfl #[.agg #[.bool (decide (a1 < 0)),.slice Ao25 t614.length co25,.slice Ao24 t617.length co24]] rfl (by (try simp only [List.map_toArray,List.map_cons,List.map_nil]);first|done|rfl) ?_;(with_reducible refine (penumbraref03_Read.calls k (decide (a1 < 0)) _ _ t614 _ _ t617 t620 t621 t624 _ ?side1 ?side2 ?side3 ?side4 A20.out).mono ?_);(case side1=>exact Cu (Kd.R_reads' HO616.out).2.2);(case side2=>exact (Kd.R_reads' HO616.out).2.1);(case side3=>exact Cu (Kd.R_reads' HO619.out).2.2);(case side4=>exact (Kd.R_reads' HO619.out).2.1);rintro e w26 ⟨v622,v625,rfl,ho0,ho1,hb⟩;refine ⟨_,rfl,?_⟩;have n0_:=Aside0.mk (Kd.R_mono (Kd.R_told (Kd.R_told (Kd.R_old (Ru HO616.out) hb) (Kd.R_base ho0)) (Kd.R_base ho1)) (fun _ h_=>h_.1));have n1_:=Aside0.mk (Kd.R_mono (Kd.R_told (Kd.R_told (Kd.R_old (Ru HO619.out) hb) (Kd.R_base ho0)) (Kd.R_base ho1)) (fun _ h_=>h_.1));have n2_:=Aside0.mk (Kd.R_lower (Kd.R_new' (Kd.R_new' ho0 (Kd.R_lt (Ru HO616.out))) (Kd.R_lt (Ru HO619.out))) (below_size (by repeat (first|with_reducible exact HB.out|apply ba|apply bn|apply b1|refine below_set ?_ GE600.out))));have n3_:=Aside0.mk (Kd.R_lower (Kd.R_new' (Kd.R_new' ho1 (Kd.R_lt (Ru HO616.out))) (Kd.R_lt (Ru HO619.out))) (below_size (by repeat (first|with_reducible exact HB.out|apply ba|apply bn|apply b1|refine below_set ?_ GE600.out))));have n4_:=Aside0.mk (blk_below (g:=gb600) (o:=.cells #[.bool false,.slice none 0 0,.slice none 0 0] 25 (0,0)) (Bu BK600.out) hb);have n5_:=Aside0.mk (below_step (by repeat (first|with_reducible exact HB.out|apply ba|apply bn|apply b1|refine below_set ?_ GE600.out)) hb);clear HO616;clear HO619;clear BK600;clear HB;have HO616:=n0_;have HO619:=n1_;have HO623:=n2_;have HO626:=n3_;have BK600:=n4_;have HB:=n5_;clear n0_ n1_ n2_ n3_ n4_ n5_;have hcz27_0 : w26.cell? ⟨gb600,0,none⟩=some (.bool false):=(blk_cell BK600.out 0).trans rfl;have hcz27_1 : w26.cell? ⟨gb600,1,none⟩=some (.slice none 0 0):=(blk_cell BK600.out 1).trans rfl;have hcz27_2 : w26.cell? ⟨gb600,2,none⟩=some (.slice none 0 0):=(blk_cell BK600.out 2).trans rfl;have hfz27_0:=blk_frozen BK600.out 0;have hfz27_1:=blk_frozen BK600.out 1;have hfz27_2:=blk_frozen BK600.out 2;obtain ⟨Ao28,co28,eo28⟩:=Kd.R_slice HO623.out;subst eo28;obtain ⟨Ao29,co29,eo29⟩:=Kd.R_slice HO626.out;subst eo29))
    refine bodyPost_ret (results_cell_row rfl _ _ gb600 25 #[.bool t620,.slice Ao28 t621.length co28,.slice Ao29 t624.length co29] (0,0) _ rfl (by (with_reducible repeat (first|refine blk_drewN ?_ _|refine blk_drew ?_|refine blk_alloc ?_ _));refine blk_put (cs:=#[.bool t620,.slice Ao28 t621.length co28,.slice none 0 0]) ?_ 2 _ rfl;(with_reducible repeat (first|refine blk_drewN ?_ _|refine blk_drew ?_|refine blk_alloc ?_ _));refine blk_put (cs:=#[.bool t620,.slice none 0 0,.slice none 0 0]) ?_ 1 _ rfl;(with_reducible repeat (first|refine blk_drewN ?_ _|refine blk_drew ?_|refine blk_alloc ?_ _));refine blk_put (cs:=#[.bool false,.slice none 0 0,.slice none 0 0]) ?_ 0 _ rfl;(with_reducible repeat (first|refine blk_drewN ?_ _|refine blk_drew ?_|refine blk_alloc ?_ _));exact BK600.out) Tryd.underlying25 rfl (by kernel_rfl)) rfl ?_
    exact ⟨_,_,by first|rfl|(simp [errW_none,errW_some] <;> rfl)|(simp [*,errW_none,errW_some] <;> rfl),by (with_reducible repeat (first|apply Ra|apply Rn|apply Rd));exact Kd.R_mono (Kd.R_far (p:=⟨gb600,2,none⟩) (Kd.R_far (p:=⟨gb600,1,none⟩) (Kd.R_far (p:=⟨gb600,0,none⟩) (Kd.R_types HO623.out BK600.out (by decide)) (fun _ hk=>hk.2) (.bool t620)) (fun _ hk=>hk.2) (.slice Ao28 t621.length co28)) (fun _ hk=>hk.2) (.slice Ao29 t624.length co29)) (fun _ hk=>hk.1.1.1),by (with_reducible repeat (first|apply Ra|apply Rn|apply Rd));exact Kd.R_mono (Kd.R_far (p:=⟨gb600,2,none⟩) (Kd.R_far (p:=⟨gb600,1,none⟩) (Kd.R_far (p:=⟨gb600,0,none⟩) (Kd.R_types HO626.out BK600.out (by decide)) (fun _ hk=>hk.2) (.bool t620)) (fun _ hk=>hk.2) (.slice Ao28 t621.length co28)) (fun _ hk=>hk.2) (.slice Ao29 t624.length co29)) (fun _ hk=>hk.1.1.1),by repeat (first|with_reducible exact HB.out|apply ba|apply bn|apply b1|refine below_set ?_ GE600.out)⟩
   ·rw [if_neg c17] at H
    have c17b0 : decide (0≤a0)=false:=decide_eq_false c17
    clear c17
    replace H:=Option.bind_eq_some_iff.mp H
    obtain ⟨t627,A300,H⟩:=H
    try dsimp only at H
    have A30:=Aside0.mk A300
    clear A300
    replace H:=Option.bind_eq_some_iff.mp H
    obtain ⟨t630,A310,H⟩:=H
    try dsimp only at H
    have A31:=Aside0.mk A310
    clear A310
    replace H:=Option.bind_eq_some_iff.mp H
    obtain ⟨⟨t633,t634,t637⟩,A320,H⟩:=H
    try dsimp only at H
    have A32:=Aside0.mk A320
    clear A320
    simp only [Option.some.injEq,Prod.mk.injEq] at H
    obtain ⟨rfl,rfl,rfl⟩:=H
    go_enter Tryd.func23,Tryd.ntmps23
    go_wp2_with (first|((with_reducible refine gate_dst (N:=4) rfl ?_);refine box_event ?hg (N:=4) ?hd (cs:=#[.bool false,.slice none 0 0,.slice none 0 0]) (t:=25) ?hr ?_;(case hd=>rfl);(case hg=>rfl);(case hr=>first|(go_simp;done)|(go_simp;(with_reducible rfl))|(go_simp;rfl)|(go_simp;simp only [hu,Int.emod_sub_emod]));intro gb600 hg w33 hbox hb;have n0_:=Aside0.mk (below_step (Hu HB.out) hb);have n1_:=Aside0.mk (hbox);have n2_:=Aside0.mk ((by rw [hg];exact (below_size (Hu HB.out)) : w.heap.size≤gb600));have n3_:=Aside0.mk ((by rw [hg];exact (below_size (Hu HB.out)) : w.heap.size≤gb600));clear HB;have HB:=n0_;have BK600:=n1_;have GW600:=n2_;have GE600:=n3_;clear n0_ n1_ n2_ n3_;clear hb hbox hg)|((with_reducible refine gate_callee (f:=49) rfl ?_);refine goesL_ (some 20) rfl rfl Tryd.func49 (by kernel_rfl) rfl #[.int .i64 a0] rfl (by (try simp only [List.map_toArray,List.map_cons,List.map_nil]);first|done|rfl) ?_;(with_reducible refine (penumbraref03_abs.calls k a0 t627 _ A30.out).mono ?_);rintro e w34 ⟨v628,rfl,ho0,hb⟩;refine ⟨_,rfl,?_⟩;have n0_:=Aside0.mk (Kd.R_lower ho0 (below_size (by repeat (first|with_reducible exact HB.out|apply ba|apply bn|apply b1|refine below_set ?_ GE600.out))));have n1_:=Aside0.mk (blk_below (g:=gb600) (o:=.cells #[.bool false,.slice none 0 0,.slice none 0 0] 25 (0,0)) (Bu BK600.out) hb);have n2_:=Aside0.mk (below_step (by repeat (first|with_reducible exact HB.out|apply ba|apply bn|apply b1|refine below_set ?_ GE600.out)) hb);clear BK600;clear HB;have HO629:=n0_;have BK600:=n1_;have HB:=n2_;clear n0_ n1_ n2_)|((with_reducible refine gate_callee (f:=49) rfl ?_);refine goesL_ (some 22) rfl rfl Tryd.func49 (by kernel_rfl) rfl #[.int .i64 a1] rfl (by (try simp only [List.map_toArray,List.map_cons,List.map_nil]);first|done|rfl) ?_;(with_reducible refine (penumbraref03_abs.calls k a1 t630 _ A31.out).mono ?_);rintro e w35 ⟨v631,rfl,ho0,hb⟩;refine ⟨_,rfl,?_⟩;have n0_:=Aside0.mk (Kd.R_elder' (Ru HO629.out) (Kd.R_base ho0) hb);have n1_:=Aside0.mk (Kd.R_lower (Kd.R_new' ho0 (Kd.R_lt (Ru HO629.out))) (below_size (by repeat (first|with_reducible exact HB.out|apply ba|apply bn|apply b1|refine below_set ?_ GE600.out))));have n2_:=Aside0.mk (blk_below (g:=gb600) (o:=.cells #[.bool false,.slice none 0 0,.slice none 0 0] 25 (0,0)) (Bu BK600.out) hb);have n3_:=Aside0.mk (below_step (by repeat (first|with_reducible exact HB.out|apply ba|apply bn|apply b1|refine below_set ?_ GE600.out)) hb);clear HO629;clear BK600;clear HB;have HO629:=n0_;have HO632:=n1_;have BK600:=n2_;have HB:=n3_;clear n0_ n1_ n2_ n3_;obtain ⟨Ao36,co36,eo36⟩:=Kd.R_slice HO632.out;subst eo36;obtain ⟨Ao37,co37,eo37⟩:=Kd.R_slice HO629.out;subst eo37)|((with_reducible refine gate_callee (f:=34) rfl ?_);refine goesL_ (some 24) rfl rfl Tryd.func34 (by kernel_rfl) rfl #[.agg #[.bool false,.slice Ao37 t627.length co37,.slice Ao36 t630.length co36]] rfl (by (try simp only [List.map_toArray,List.map_cons,List.map_nil]);first|done|rfl) ?_;(with_reducible refine (penumbraref03_Read.calls k false _ _ t627 _ _ t630 t633 t634 t637 _ ?side1 ?side2 ?side3 ?side4 A32.out).mono ?_);(case side1=>exact Cu (Kd.R_reads' HO629.out).2.2);(case side2=>exact (Kd.R_reads' HO629.out).2.1);(case side3=>exact Cu (Kd.R_reads' HO632.out).2.2);(case side4=>exact (Kd.R_reads' HO632.out).2.1);rintro e w38 ⟨v635,v638,rfl,ho0,ho1,hb⟩;refine ⟨_,rfl,?_⟩;have n0_:=Aside0.mk (Kd.R_mono (Kd.R_told (Kd.R_told (Kd.R_old (Ru HO629.out) hb) (Kd.R_base ho0)) (Kd.R_base ho1)) (fun _ h_=>h_.1));have n1_:=Aside0.mk (Kd.R_mono (Kd.R_told (Kd.R_told (Kd.R_old (Ru HO632.out) hb) (Kd.R_base ho0)) (Kd.R_base ho1)) (fun _ h_=>h_.1));have n2_:=Aside0.mk (Kd.R_lower (Kd.R_new' (Kd.R_new' ho0 (Kd.R_lt (Ru HO629.out))) (Kd.R_lt (Ru HO632.out))) (below_size (by repeat (first|with_reducible exact HB.out|apply ba|apply bn|apply b1|refine below_set ?_ GE600.out))));have n3_:=Aside0.mk (Kd.R_lower (Kd.R_new' (Kd.R_new' ho1 (Kd.R_lt (Ru HO629.out))) (Kd.R_lt (Ru HO632.out))) (below_size (by repeat (first|with_reducible exact HB.out|apply ba|apply bn|apply b1|refine below_set ?_ GE600.out))));have n4_:=Aside0.mk (blk_below (g:=gb600) (o:=.cells #[.bool false,.slice none 0 0,.slice none 0 0] 25 (0,0)) (Bu BK600.out) hb);have n5_:=Aside0.mk (below_step (by repeat (first|with_reducible exact HB.out|apply ba|apply bn|apply b1|refine below_set ?_ GE600.out)) hb);clear HO629;clear HO632;clear BK600;clear HB;have HO629:=n0_;have HO632:=n1_;have HO636:=n2_;have HO639:=n3_;have BK600:=n4_;have HB:=n5_;clear n0_ n1_ n2_ n3_ n4_ n5_;have hcz39_0 : w38.cell? ⟨gb600,0,none⟩=some (.bool false):=(blk_cell BK600.out 0).trans rfl;have hcz39_1 : w38.cell? ⟨gb600,1,none⟩=some (.slice none 0 0):=(blk_cell BK600.out 1).trans rfl;have hcz39_2 : w38.cell? ⟨gb600,2,none⟩=some (.slice none 0 0):=(blk_cell BK600.out 2).trans rfl;have hfz39_0:=blk_frozen BK600.out 0;have hfz39_1:=blk_frozen BK600.out 1;have hfz39_2:=blk_frozen BK600.out 2;obtain ⟨Ao40,co40,eo40⟩:=Kd.R_slice HO636.out;subst eo40;obtain ⟨Ao41,co41,eo41⟩:=Kd.R_slice HO639.out;subst eo41))
    refine bodyPost_ret (results_cell_row rfl _ _ gb600 25 #[.bool t633,.slice Ao40 t634.length co40,.slice Ao41 t637.length co41] (0,0) _ rfl (by (with_reducible repeat (first|refine blk_drewN ?_ _|refine blk_drew ?_|refine blk_alloc ?_ _));refine blk_put (cs:=#[.bool t633,.slice Ao40 t634.length co40,.slice none 0 0]) ?_ 2 _ rfl;(with_reducible repeat (first|refine blk_drewN ?_ _|refine blk_drew ?_|refine blk_alloc ?_ _));refine blk_put (cs:=#[.bool t633,.slice none 0 0,.slice none 0 0]) ?_ 1 _ rfl;(with_reducible repeat (first|refine blk_drewN ?_ _|refine blk_drew ?_|refine blk_alloc ?_ _));refine blk_put (cs:=#[.bool false,.slice none 0 0,.slice none 0 0]) ?_ 0 _ rfl;(with_reducible repeat (first|refine blk_drewN ?_ _|refine blk_drew ?_|refine blk_alloc ?_ _));exact BK600.out) Tryd.underlying25 rfl (by kernel_rfl)) rfl ?_
    exact ⟨_,_,by first|rfl|(simp [errW_none,errW_some] <;> rfl)|(simp [*,errW_none,errW_some] <;> rfl),by (with_reducible repeat (first|apply Ra|apply Rn|apply Rd));exact Kd.R_mono (Kd.R_far (p:=⟨gb600,2,none⟩) (Kd.R_far (p:=⟨gb600,1,none⟩) (Kd.R_far (p:=⟨gb600,0,none⟩) (Kd.R_types HO636.out BK600.out (by decide)) (fun _ hk=>hk.2) (.bool t633)) (fun _ hk=>hk.2) (.slice Ao40 t634.length co40)) (fun _ hk=>hk.2) (.slice Ao41 t637.length co41)) (fun _ hk=>hk.1.1.1),by (with_reducible repeat (first|apply Ra|apply Rn|apply Rd));exact Kd.R_mono (Kd.R_far (p:=⟨gb600,2,none⟩) (Kd.R_far (p:=⟨gb600,1,none⟩) (Kd.R_far (p:=⟨gb600,0,none⟩) (Kd.R_types HO639.out BK600.out (by decide)) (fun _ hk=>hk.2) (.bool t633)) (fun _ hk=>hk.2) (.slice Ao40 t634.length co40)) (fun _ hk=>hk.2) (.slice Ao41 t637.length co41)) (fun _ hk=>hk.1.1.1),by repeat (first|with_reducible exact HB.out|apply ba|apply bn|apply b1|refine below_set ?_ GE600.out)⟩
 ·rw [if_neg c3] at H
  have c3b0 : decide (a0 < 0)=false:=decide_eq_false c3
  clear c3
  by_cases c42 : a0 ≥ 0
  ·rw [if_pos c42] at H
   have c42b0 : decide (0≤a0)=true:=decide_eq_true c42
   clear c42
   replace H:=Option.bind_eq_some_iff.mp H
   obtain ⟨t640,A430,H⟩:=H
   try dsimp only at H
   have A43:=Aside0.mk A430
   clear A430
   replace H:=Option.bind_eq_some_iff.mp H
   obtain ⟨t643,A440,H⟩:=H
   try dsimp only at H
   have A44:=Aside0.mk A440
   clear A440
   replace H:=Option.bind_eq_some_iff.mp H
   obtain ⟨⟨t646,t647,t650⟩,A450,H⟩:=H
   try dsimp only at H
   have A45:=Aside0.mk A450
   clear A450
   simp only [Option.some.injEq,Prod.mk.injEq] at H
   obtain ⟨rfl,rfl,rfl⟩:=H
   go_enter Tryd.func23,Tryd.ntmps23
   go_wp2_with (first|((with_reducible refine gate_dst (N:=4) rfl ?_);refine box_event ?hg (N:=4) ?hd (cs:=#[.bool false,.slice none 0 0,.slice none 0 0]) (t:=25) ?hr ?_;(case hd=>rfl);(case hg=>rfl);(case hr=>first|(go_simp;done)|(go_simp;(with_reducible rfl))|(go_simp;rfl)|(go_simp;simp only [hu,Int.emod_sub_emod]));intro gb600 hg w46 hbox hb;have n0_:=Aside0.mk (below_step (Hu HB.out) hb);have n1_:=Aside0.mk (hbox);have n2_:=Aside0.mk ((by rw [hg];exact (below_size (Hu HB.out)) : w.heap.size≤gb600));have n3_:=Aside0.mk ((by rw [hg];exact (below_size (Hu HB.out)) : w.heap.size≤gb600));clear HB;have HB:=n0_;have BK600:=n1_;have GW600:=n2_;have GE600:=n3_;clear n0_ n1_ n2_ n3_;clear hb hbox hg)|((with_reducible refine gate_callee (f:=49) rfl ?_);refine goesL_ (some 20) rfl rfl Tryd.func49 (by kernel_rfl) rfl #[.int .i64 a0] rfl (by (try simp only [List.map_toArray,List.map_cons,List.map_nil]);first|done|rfl) ?_;(with_reducible refine (penumbraref03_abs.calls k a0 t640 _ A43.out).mono ?_);rintro e w47 ⟨v641,rfl,ho0,hb⟩;refine ⟨_,rfl,?_⟩;have n0_:=Aside0.mk (Kd.R_lower ho0 (below_size (by repeat (first|with_reducible exact HB.out|apply ba|apply bn|apply b1|refine below_set ?_ GE600.out))));have n1_:=Aside0.mk (blk_below (g:=gb600) (o:=.cells #[.bool false,.slice none 0 0,.slice none 0 0] 25 (0,0)) (Bu BK600.out) hb);have n2_:=Aside0.mk (below_step (by repeat (first|with_reducible exact HB.out|apply ba|apply bn|apply b1|refine below_set ?_ GE600.out)) hb);clear BK600;clear HB;have HO642:=n0_;have BK600:=n1_;have HB:=n2_;clear n0_ n1_ n2_)|((with_reducible refine gate_callee (f:=49) rfl ?_);refine goesL_ (some 22) rfl rfl Tryd.func49 (by kernel_rfl) rfl #[.int .i64 a1] rfl (by (try simp only [List.map_toArray,List.map_cons,List.map_nil]);first|done|rfl) ?_;(with_reducible refine (penumbraref03_abs.calls k a1 t643 _ A44.out).mono ?_);rintro e w48 ⟨v644,rfl,ho0,hb⟩;refine ⟨_,rfl,?_⟩;have n0_:=Aside0.mk (Kd.R_elder' (Ru HO642.out) (Kd.R_base ho0) hb);have n1_:=Aside0.mk (Kd.R_lower (Kd.R_new' ho0 (Kd.R_lt (Ru HO642.out))) (below_size (by repeat (first|with_reducible exact HB.out|apply ba|apply bn|apply b1|refine below_set ?_ GE600.out))));have n2_:=Aside0.mk (blk_below (g:=gb600) (o:=.cells #[.bool false,.slice none 0 0,.slice none 0 0] 25 (0,0)) (Bu BK600.out) hb);have n3_:=Aside0.mk (below_step (by repeat (first|with_reducible exact HB.out|apply ba|apply bn|apply b1|refine below_set ?_ GE600.out)) hb);clear HO642;clear BK600;clear HB;have HO642:=n0_;have HO645:=n1_;have BK600:=n2_;have HB:=n3_;clear n0_ n1_ n2_ n3_;obtain ⟨Ao49,co49,eo49⟩:=Kd.R_slice HO645.out;subst eo49;obtain ⟨Ao50,co50,eo50⟩:=Kd.R_slice HO642.out;subst eo50)|((with_reducible refine gate_callee (f:=34) rfl ?_);refine goesL_ (some 24) rfl rfl Tryd.func34 (by kernel_rfl) rfl #[.agg #[.bool (decide (a1 < 0)),.slice Ao50 t640.length co50,.slice Ao49 t643.length co49]] rfl (by (try simp only [List.map_toArray,List.map_cons,List.map_nil]);first|done|rfl) ?_;(with_reducible refine (penumbraref03_Read.calls k (decide (a1 < 0)) _ _ t640 _ _ t643 t646 t647 t650 _ ?side1 ?side2 ?side3 ?side4 A45.out).mono ?_);(case side1=>exact Cu (Kd.R_reads' HO642.out).2.2);(case side2=>exact (Kd.R_reads' HO642.out).2.1);(case side3=>exact Cu (Kd.R_reads' HO645.out).2.2);(case side4=>exact (Kd.R_reads' HO645.out).2.1);rintro e w51 ⟨v648,v651,rfl,ho0,ho1,hb⟩;refine ⟨_,rfl,?_⟩;have n0_:=Aside0.mk (Kd.R_mono (Kd.R_told (Kd.R_told (Kd.R_old (Ru HO642.out) hb) (Kd.R_base ho0)) (Kd.R_base ho1)) (fun _ h_=>h_.1));have n1_:=Aside0.mk (Kd.R_mono (Kd.R_told (Kd.R_told (Kd.R_old (Ru HO645.out) hb) (Kd.R_base ho0)) (Kd.R_base ho1)) (fun _ h_=>h_.1));have n2_:=Aside0.mk (Kd.R_lower (Kd.R_new' (Kd.R_new' ho0 (Kd.R_lt (Ru HO642.out))) (Kd.R_lt (Ru HO645.out))) (below_size (by repeat (first|with_reducible exact HB.out|apply ba|apply bn|apply b1|refine below_set ?_ GE600.out))));have n3_:=Aside0.mk (Kd.R_lower (Kd.R_new' (Kd.R_new' ho1 (Kd.R_lt (Ru HO642.out))) (Kd.R_lt (Ru HO645.out))) (below_size (by repeat (first|with_reducible exact HB.out|apply ba|apply bn|apply b1|refine below_set ?_ GE600.out))));have n4_:=Aside0.mk (blk_below (g:=gb600) (o:=.cells #[.bool false,.slice none 0 0,.slice none 0 0] 25 (0,0)) (Bu BK600.out) hb);have n5_:=Aside0.mk (below_step (by repeat (first|with_reducible exact HB.out|apply ba|apply bn|apply b1|refine below_set ?_ GE600.out)) hb);clear HO642;clear HO645;clear BK600;clear HB;have HO642:=n0_;have HO645:=n1_;have HO649:=n2_;have HO652:=n3_;have BK600:=n4_;have HB:=n5_;clear n0_ n1_ n2_ n3_ n4_ n5_;have hcz52_0 : w51.cell? ⟨gb600,0,none⟩=some (.bool false):=(blk_cell BK600.out 0).trans rfl;have hcz52_1 : w51.cell? ⟨gb600,1,none⟩=some (.slice none 0 0):=(blk_cell BK600.out 1).trans rfl;have hcz52_2 : w51.cell? ⟨gb600,2,none⟩=some (.slice none 0 0):=(blk_cell BK600.out 2).trans rfl;have hfz52_0:=blk_frozen BK600.out 0;have hfz52_1:=blk_frozen BK600.out 1;have hfz52_2:=blk_frozen BK600.out 2;obtain ⟨Ao53,co53,eo53⟩:=Kd.R_slice HO649.out;subst eo53;obtain ⟨Ao54,co54,eo54⟩:=Kd.R_slice HO652.out;subst eo54))
   refine bodyPost_ret (results_cell_row rfl _ _ gb600 25 #[.bool t646,.slice Ao53 t647.length co53,.slice Ao54 t650.length co54] (0,0) _ rfl (by (with_reducible repeat (first|refine blk_drewN ?_ _|refine blk_drew ?_|refine blk_alloc ?_ _));refine blk_put (cs:=#[.bool t646,.slice Ao53 t647.length co53,.slice none 0 0]) ?_ 2 _ rfl;(with_reducible repeat (first|refine blk_drewN ?_ _|refine blk_drew ?_|refine blk_alloc ?_ _));refine blk_put (cs:=#[.bool t646,.slice none 0 0,.slice none 0 0]) ?_ 1 _ rfl;(with_reducible repeat (first|refine blk_drewN ?_ _|refine blk_drew ?_|refine blk_alloc ?_ _));refine blk_put (cs:=#[.bool false,.slice none 0 0,.slice none 0 0]) ?_ 0 _ rfl;(with_reducible repeat (first|refine blk_drewN ?_ _|refine blk_drew ?_|refine blk_alloc ?_ _));exact BK600.out) Tryd.underlying25 rfl (by kernel_rfl)) rfl ?_
   exact ⟨_,_,by first|rfl|(simp [errW_none,errW_some] <;> rfl)|(simp [*,errW_none,errW_some] <;> rfl),by (with_reducible repeat (first|apply Ra|apply Rn|apply Rd));exact Kd.R_mono (Kd.R_far (p:=⟨gb600,2,none⟩) (Kd.R_far (p:=⟨gb600,1,none⟩) (Kd.R_far (p:=⟨gb600,0,none⟩) (Kd.R_types HO649.out BK600.out (by decide)) (fun _ hk=>hk.2) (.bool t646)) (fun _ hk=>hk.2) (.slice Ao53 t647.length co53)) (fun _ hk=>hk.2) (.slice Ao54 t650.length co54)) (fun _ hk=>hk.1.1.1),by (with_reducible repeat (first|apply Ra|apply Rn|apply Rd));exact Kd.R_mono (Kd.R_far (p:=⟨gb600,2,none⟩) (Kd.R_far (p:=⟨gb600,1,none⟩) (Kd.R_far (p:=⟨gb600,0,none⟩) (Kd.R_types HO652.out BK600.out (by decide)) (fun _ hk=>hk.2) (.bool t646)) (fun _ hk=>hk.2) (.slice Ao53 t647.length co53)) (fun _ hk=>hk.2) (.slice Ao54 t650.length co54)) (fun _ hk=>hk.1.1.1),by repeat (first|with_reducible exact HB.out|apply ba|apply bn|apply b1|refine below_set ?_ GE600.out)⟩
  ·rw [if_neg c42] at H
   have c42b0 : decide (0≤a0)=false:=decide_eq_false c42
   clear c42
   replace H:=Option.bind_eq_some_iff.mp H
   obtain ⟨t653,A550,H⟩:=H
   try dsimp only at H
   have A55:=Aside0.mk A550
   clear A550
   replace H:=Option.bind_eq_some_iff.mp H
   obtain ⟨t656,A560,H⟩:=H
   try dsimp only at H
   have A56:=Aside0.mk A560
   clear A560
   replace H:=Option.bind_eq_some_iff.mp H
   obtain ⟨⟨t659,t660,t663⟩,A570,H⟩:=H
   try dsimp only at H
   have A57:=Aside0.mk A570
   clear A570
   simp only [Option.some.injEq,Prod.mk.injEq] at H
   obtain ⟨rfl,rfl,rfl⟩:=H
   go_enter Tryd.func23,Tryd.ntmps23
   go_wp2_with (first|((with_reducible refine gate_dst (N:=4) rfl ?_);refine box_event ?hg (N:=4) ?hd (cs:=#[.bool false,.slice none 0 0,.slice none 0 0]) (t:=25) ?hr ?_;(case hd=>rfl);(case hg=>rfl);(case hr=>first|(go_simp;done)|(go_simp;(with_reducible rfl))|(go_simp;rfl)|(go_simp;simp only [hu,Int.emod_sub_emod]));intro gb600 hg w58 hbox hb;have n0_:=Aside0.mk (below_step (Hu HB.out) hb);have n1_:=Aside0.mk (hbox);have n2_:=Aside0.mk ((by rw [hg];exact (below_size (Hu HB.out)) : w.heap.size≤gb600));have n3_:=Aside0.mk ((by rw [hg];exact (below_size (Hu HB.out)) : w.heap.size≤gb600));clear HB;have HB:=n0_;have BK600:=n1_;have GW600:=n2_;have GE600:=n3_;clear n0_ n1_ n2_ n3_;clear hb hbox hg)|((with_reducible refine gate_callee (f:=49) rfl ?_);refine goesL_ (some 20) rfl rfl Tryd.func49 (by kernel_rfl) rfl #[.int .i64 a0] rfl (by (try simp only [List.map_toArray,List.map_cons,List.map_nil]);first|done|rfl) ?_;(with_reducible refine (penumbraref03_abs.calls k a0 t653 _ A55.out).mono ?_);rintro e w59 ⟨v654,rfl,ho0,hb⟩;refine ⟨_,rfl,?_⟩;have n0_:=Aside0.mk (Kd.R_lower ho0 (below_size (by repeat (first|with_reducible exact HB.out|apply ba|apply bn|apply b1|refine below_set ?_ GE600.out))));have n1_:=Aside0.mk (blk_below (g:=gb600) (o:=.cells #[.bool false,.slice none 0 0,.slice none 0 0] 25 (0,0)) (Bu BK600.out) hb);have n2_:=Aside0.mk (below_step (by repeat (first|with_reducible exact HB.out|apply ba|apply bn|apply b1|refine below_set ?_ GE600.out)) hb);clear BK600;clear HB;have HO655:=n0_;have BK600:=n1_;have HB:=n2_;clear n0_ n1_ n2_)|((with_reducible refine gate_callee (f:=49) rfl ?_);refine goesL_ (some 22) rfl rfl Tryd.func49 (by kernel_rfl) rfl #[.int .i64 a1] rfl (by (try simp only [List.map_toArray,List.map_cons,List.map_nil]);first|done|rfl) ?_;(with_reducible refine (penumbraref03_abs.calls k a1 t656 _ A56.out).mono ?_);rintro e w60 ⟨v657,rfl,ho0,hb⟩;refine ⟨_,rfl,?_⟩;have n0_:=Aside0.mk (Kd.R_elder' (Ru HO655.out) (Kd.R_base ho0) hb);have n1_:=Aside0.mk (Kd.R_lower (Kd.R_new' ho0 (Kd.R_lt (Ru HO655.out))) (below_size (by repeat (first|with_reducible exact HB.out|apply ba|apply bn|apply b1|refine below_set ?_ GE600.out))));have n2_:=Aside0.mk (blk_below (g:=gb600) (o:=.cells #[.bool false,.slice none 0 0,.slice none 0 0] 25 (0,0)) (Bu BK600.out) hb);have n3_:=Aside0.mk (below_step (by repeat (first|with_reducible exact HB.out|apply ba|apply bn|apply b1|refine below_set ?_ GE600.out)) hb);clear HO655;clear BK600;clear HB;have HO655:=n0_;have HO658:=n1_;have BK600:=n2_;have HB:=n3_;clear n0_ n1_ n2_ n3_;obtain ⟨Ao61,co61,eo61⟩:=Kd.R_slice HO658.out;subst eo61;obtain ⟨Ao62,co62,eo62⟩:=Kd.R_slice HO655.out;subst eo62)|((with_reducible refine gate_callee (f:=34) rfl ?_);refine goesL_ (some 24) rfl rfl Tryd.func34 (by kernel_rfl) rfl #[.agg #[.bool false,.slice Ao62 t653.length co62,.slice Ao61 t656.length co61]] rfl (by (try simp only [List.map_toArray,List.map_cons,List.map_nil]);first|done|rfl) ?_;(with_reducible refine (penumbraref03_Read.calls k false _ _ t653 _ _ t656 t659 t660 t663 _ ?side1 ?side2 ?side3 ?side4 A57.out).mono ?_);(case side1=>exact Cu (Kd.R_reads' HO655.out).2.2);(case side2=>exact (Kd.R_reads' HO655.out).2.1);(case side3=>exact Cu (Kd.R_reads' HO658.out).2.2);(case side4=>exact (Kd.R_reads' HO658.out).2.1);rintro e w63 ⟨v661,v664,rfl,ho0,ho1,hb⟩;refine ⟨_,rfl,?_⟩;have n0_:=Aside0.mk (Kd.R_mono (Kd.R_told (Kd.R_told (Kd.R_old (Ru HO655.out) hb) (Kd.R_base ho0)) (Kd.R_base ho1)) (fun _ h_=>h_.1));have n1_:=Aside0.mk (Kd.R_mono (Kd.R_told (Kd.R_told (Kd.R_old (Ru HO658.out) hb) (Kd.R_base ho0)) (Kd.R_base ho1)) (fun _ h_=>h_.1));have n2_:=Aside0.mk (Kd.R_lower (Kd.R_new' (Kd.R_new' ho0 (Kd.R_lt (Ru HO655.out))) (Kd.R_lt (Ru HO658.out))) (below_size (by repeat (first|with_reducible exact HB.out|apply ba|apply bn|apply b1|refine below_set ?_ GE600.out))));have n3_:=Aside0.mk (Kd.R_lower (Kd.R_new' (Kd.R_new' ho1 (Kd.R_lt (Ru HO655.out))) (Kd.R_lt (Ru HO658.out))) (below_size (by repeat (first|with_reducible exact HB.out|apply ba|apply bn|apply b1|refine below_set ?_ GE600.out))));have n4_:=Aside0.mk (blk_below (g:=gb600) (o:=.cells #[.bool false,.slice none 0 0,.slice none 0 0] 25 (0,0)) (Bu BK600.out) hb);have n5_:=Aside0.mk (below_step (by repeat (first|with_reducible exact HB.out|apply ba|apply bn|apply b1|refine below_set ?_ GE600.out)) hb);clear HO655;clear HO658;clear BK600;clear HB;have HO655:=n0_;have HO658:=n1_;have HO662:=n2_;have HO665:=n3_;have BK600:=n4_;have HB:=n5_;clear n0_ n1_ n2_ n3_ n4_ n5_;have hcz64_0 : w63.cell? ⟨gb600,0,none⟩=some (.bool false):=(blk_cell BK600.out 0).trans rfl;have hcz64_1 : w63.cell? ⟨gb600,1,none⟩=some (.slice none 0 0):=(blk_cell BK600.out 1).trans rfl;have hcz64_2 : w63.cell? ⟨gb600,2,none⟩=some (.slice none 0 0):=(blk_cell BK600.out 2).trans rfl;have hfz64_0:=blk_frozen BK600.out 0;have hfz64_1:=blk_frozen BK600.out 1;have hfz64_2:=blk_frozen BK600.out 2;obtain ⟨Ao65,co65,eo65⟩:=Kd.R_slice HO662.out;subst eo65;obtain ⟨Ao66,co66,eo66⟩:=Kd.R_slice HO665.out;subst eo66))
   refine bodyPost_ret (results_cell_row rfl _ _ gb600 25 #[.bool t659,.slice Ao65 t660.length co65,.slice Ao66 t663.length co66] (0,0) _ rfl (by (with_reducible repeat (first|refine blk_drewN ?_ _|refine blk_drew ?_|refine blk_alloc ?_ _));refine blk_put (cs:=#[.bool t659,.slice Ao65 t660.length co65,.slice none 0 0]) ?_ 2 _ rfl;(with_reducible repeat (first|refine blk_drewN ?_ _|refine blk_drew ?_|refine blk_alloc ?_ _));refine blk_put (cs:=#[.bool t659,.slice none 0 0,.slice none 0 0]) ?_ 1 _ rfl;(with_reducible repeat (first|refine blk_drewN ?_ _|refine blk_drew ?_|refine blk_alloc ?_ _));refine blk_put (cs:=#[.bool false,.slice none 0 0,.slice none 0 0]) ?_ 0 _ rfl;(with_reducible repeat (first|refine blk_drewN ?_ _|refine blk_drew ?_|refine blk_alloc ?_ _));exact BK600.out) Tryd.underlying25 rfl (by kernel_rfl)) rfl ?_
   exact ⟨_,_,by first|rfl|(simp [errW_none,errW_some] <;> rfl)|(simp [*,errW_none,errW_some] <;> rfl),by (with_reducible repeat (first|apply Ra|apply Rn|apply Rd));exact Kd.R_mono (Kd.R_far (p:=⟨gb600,2,none⟩) (Kd.R_far (p:=⟨gb600,1,none⟩) (Kd.R_far (p:=⟨gb600,0,none⟩) (Kd.R_types HO662.out BK600.out (by decide)) (fun _ hk=>hk.2) (.bool t659)) (fun _ hk=>hk.2) (.slice Ao65 t660.length co65)) (fun _ hk=>hk.2) (.slice Ao66 t663.length co66)) (fun _ hk=>hk.1.1.1),by (with_reducible repeat (first|apply Ra|apply Rn|apply Rd));exact Kd.R_mono (Kd.R_far (p:=⟨gb600,2,none⟩) (Kd.R_far (p:=⟨gb600,1,none⟩) (Kd.R_far (p:=⟨gb600,0,none⟩) (Kd.R_types HO665.out BK600.out (by decide)) (fun _ hk=>hk.2) (.bool t659)) (fun _ hk=>hk.2) (.slice Ao65 t660.length co65)) (fun _ hk=>hk.2) (.slice Ao66 t663.length co66)) (fun _ hk=>hk.1.1.1),by repeat (first|with_reducible exact HB.out|apply ba|apply bn|apply b1|refine below_set ?_ GE600.out)⟩
end Go.Proofs.YtncdiodnbkhacaaDoor.Pq
end
section
namespace Go.Proofs.YtncdiodnbkhacaaDoor.Pq
open Go.RowKit Go.Proofs.YtncdiodnbkhacaaDoorW.PrintWords Go.Proofs.YtncdiodnbkhacaaDoorW.PrintLast Go.Proofs.YtncdiodnbkhacaaDoorW.PrintMore
attribute [local go_sem] max2_int min2_int max_two min_two max_three min_three max_four min_four
set_option linter.unusedVariables false
set_option linter.unusedSimpArgs false
theorem penumbralaw04_fixed.mono : ∀ k,LeO (penumbralaw04_fixed.f k ) (penumbralaw04_fixed.f (k+1) ):=by
 intro  k
 unfold penumbralaw04_fixed.f
 with_reducible repeat' first
  |exact decimal_Natural.mono _ _
  |exact decimal_Parse.mono _ _
  |exact decimal_Print.mono _ _ _ _
  |exact penumbraref03_Is.mono _ _ _ _ _ _ _
  |exact penumbraref03_Of.mono _ _ _
  |exact rat_Of.mono _ _ _
  |exact LeO.refl _
  |exact LeO.none _
  |refine LeO.ite ?_ ?_
  |refine LeO.bind ?_ (fun _=>?_)
def penumbralaw04_fixed.T5 : Bool × List (List Nat × List Nat):=(true,[([],[]),([0],[0]),([1],[1]),([2],[2]),([2,2],[2]),([3,4,4,2],[2,3,4]),([2,5],[2,5]),([6,5],[6]),([7],[7]),([8,7],[7,8]),([7,9],[7,9]),([10,7],[10]),([11],[11]),([11,11],[11]),([12,13,13,11],[11,12,13]),([11,14],[11,14]),([15,14],[15]),([16],[16]),([17,16],[16,17]),([16,18],[16,18]),([19,16],[19]),([20],[20]),([21,20],[20,21]),([20,22],[20,22]),([23,20],[23]),([24,24],[24]),([25,25,24],[24,25]),([26,24],[24,26]),([24,27],[24,27]),([28,26],[28]),([29],[29]),([30,29,29],[29,30]),([31,29],[29,31]),([29,32],[29,32]),([33,31,0,1,2,3,4,5,6,7,8,9,10,11,12,13,14,15,16,17,18,19,20,21,22,23,24,25,26,27,28,29,30,31,32,33],[33])])
def penumbralaw04_fixed.B5 : List Nat:=[0,1,3,7,7,31,63,127,255,511,1023,2047,4095,4095,16383,32767,65535,131071,262143,524287,1048575,2097151,4194303,8388607,16777215,33554431,67108863,134217727,268435455,536870911,1073741823,2147483647,4294967295,8589934591,17179869183]
theorem penumbralaw04_fixed.tab5 : rtab .any (opsOf Tryd.f8 5)=penumbralaw04_fixed.T5:=by kernel_rfl
theorem penumbralaw04_fixed.bits5 : waitsOk penumbralaw04_fixed.T5.2 penumbralaw04_fixed.B5=true:=by kernel_rfl
set_option maxHeartbeats 8000000 in
set_option maxRecDepth 100000 in
theorem penumbralaw04_fixed.calls (k : Nat)  (r : Bool) (w : World) (h : penumbralaw04_fixed.f k  = some r) :
  Calls Tryd.prog 8 #[] w fun e w'=>e=.returned (.bool r)∧Below w.heap.size w w':=by
 have hu25:=Tryd.underlying25
 have HB:=Aside0.mk (Below.refl w.heap.size w)
 have H : ((decimal_Parse.f k (⟨#[48,46,49,50,53]⟩ : ByteArray)).bind fun bt666=>((decimal_Parse.f k (⟨#[48,48,55,47,48,49,52]⟩ : ByteArray)).bind fun bt675=>((decimal_Parse.f k (⟨#[49,47,48]⟩ : ByteArray)).bind fun bt684=>((decimal_Parse.f k (⟨#[49,46]⟩ : ByteArray)).bind fun bt693=>(if bt666.2.2.2=0 then ((penumbraref03_Of.f k 1 8).bind fun bt702=>((penumbraref03_Is.f k bt666.1 bt666.2.1 bt666.2.2.1 bt702.1 bt702.2.1 bt702.2.2).bind fun t709=>(if t709=true then (if bt675.2.2.2=0 then ((penumbraref03_Of.f k 1 2).bind fun bt710=>((penumbraref03_Is.f k bt675.1 bt675.2.1 bt675.2.2.1 bt710.1 bt710.2.1 bt710.2.2).bind fun t717=>(if t717=true then (if bt684.2.2.2=42 then (if bt693.2.2.2=40 then ((rat_Of.f k (-3) 6).bind fun bt718=>((decimal_Print.f k bt718.1 bt718.2.1 bt718.2.2).bind fun t725=>(if t725.toList=([45,49,47,50] : List UInt8) then ((decimal_Natural.f k (([0,1] : List Int))).bind fun t729=>(some (t729.toList == ([52,50,57,52,57,54,55,50,57,54] : List UInt8)))) else (none)))) else (none)) else (none)) else (none)))) else (none)) else (none)))) else (none))))))=some r:=h
 clear h
 replace H:=Option.bind_eq_some_iff.mp H
 obtain ⟨⟨t666,t667,t670,t673⟩,A10,H⟩:=H
 try dsimp only at H
 have A1:=Aside0.mk A10
 clear A10
 replace H:=Option.bind_eq_some_iff.mp H
 obtain ⟨⟨t675,t676,t679,t682⟩,A20,H⟩:=H
 try dsimp only at H
 have A2:=Aside0.mk A20
 clear A20
 replace H:=Option.bind_eq_some_iff.mp H
 obtain ⟨⟨t684,t685,t688,t691⟩,A30,H⟩:=H
 try dsimp only at H
 have A3:=Aside0.mk A30
 clear A30
 replace H:=Option.bind_eq_some_iff.mp H
 obtain ⟨⟨t693,t694,t697,t700⟩,A40,H⟩:=H
 try dsimp only at H
 have A4:=Aside0.mk A40
 clear A40
 by_cases c5 : t673=0
 case neg =>rw [if_neg c5] at H;exact absurd H (by simp)
 rw [if_pos c5] at H
 have c5b0 : (t673 == 0)=true:=beq_iff_eq.mpr c5
 have c5b1 : (t673 != 0)=false:=bne_eq_false_iff_eq.mpr c5
 clear c5
 replace H:=Option.bind_eq_some_iff.mp H
 obtain ⟨⟨t702,t703,t706⟩,A60,H⟩:=H
 try dsimp only at H
 have A6:=Aside0.mk A60
 clear A60
 replace H:=Option.bind_eq_some_iff.mp H
 obtain ⟨t709,A70,H⟩:=H
 try dsimp only at H
 have A7:=Aside0.mk A70
 clear A70
 by_cases c8 : t709=true
 ·subst c8
  rw [if_pos rfl] at H
  by_cases c9 : t682=0
  case neg =>rw [if_neg c9] at H;exact absurd H (by simp)
  rw [if_pos c9] at H
  have c9b0 : (t682 == 0)=true:=beq_iff_eq.mpr c9
  have c9b1 : (t682 != 0)=false:=bne_eq_false_iff_eq.mpr c9
  clear c9
  replace H:=Option.bind_eq_some_iff.mp H
  obtain ⟨⟨t710,t711,t714⟩,A100,H⟩:=H
  try dsimp only at H
  have A10:=Aside0.mk A100
  clear A100
  replace H:=Option.bind_eq_some_iff.mp H
  obtain ⟨t717,A110,H⟩:=H
  try dsimp only at H
  have A11:=Aside0.mk A110
  clear A110
  by_cases c12 : t717=true
  ·subst c12
   rw [if_pos rfl] at H
   by_cases c13 : t691=42
   case neg =>rw [if_neg c13] at H;exact absurd H (by simp)
   rw [if_pos c13] at H
   have c13b0 : (t691 == 42)=true:=beq_iff_eq.mpr c13
   have c13b1 : (t691 != 42)=false:=bne_eq_false_iff_eq.mpr c13
   clear c13
   by_cases c14 : t700=40
   case neg =>rw [if_neg c14] at H;exact absurd H (by simp)
   rw [if_pos c14] at H
   have c14b0 : (t700 == 40)=true:=beq_iff_eq.mpr c14
   have c14b1 : (t700 != 40)=false:=bne_eq_false_iff_eq.mpr c14
   clear c14
   replace H:=Option.bind_eq_some_iff.mp H
   obtain ⟨⟨t718,t719,t722⟩,A150,H⟩:=H
   try dsimp only at H
   have A15:=Aside0.mk A150
   clear A150
   replace H:=Option.bind_eq_some_iff.mp H
   obtain ⟨t725,A160,H⟩:=H
   try dsimp only at H
   have A16:=Aside0.mk A160
   clear A160
   by_cases c17 : t725.toList=([45,49,47,50] : List UInt8)
   case neg =>rw [if_neg c17] at H;exact absurd H (by simp)
   rw [if_pos c17] at H
   have c17b0 : (t725.toList == ([45,49,47,50] : List UInt8))=true:=beq_iff_eq.mpr c17
   have c17b1 : (t725.toList != ([45,49,47,50] : List UInt8))=false:=bne_eq_false_iff_eq.mpr c17
   clear c17
   obtain ⟨y726,hy726⟩ : ∃ y_ : List Int,y_=(([0,1] : List Int)):=⟨_,rfl⟩
   replace H : ((decimal_Natural.f k y726).bind fun t729=>(some (t729.toList == ([52,50,57,52,57,54,55,50,57,54] : List UInt8))))=some r:=by first|(rw [hy726];with_reducible exact H)|(have H2_:=(Option.bind_some _ _).symm.trans H;rw [hy726];with_reducible exact H2_)|(have H2_:=(Option.bind_some _ _).symm.trans H;with_reducible exact H2_)|with_reducible exact H|(rw [hy726];exact H)|exact H
   have Ny726:=Aside0.mk hy726
   clear hy726
   replace H:=Option.bind_eq_some_iff.mp H
   obtain ⟨t729,A180,H⟩:=H
   try dsimp only at H
   have A18:=Aside0.mk A180
   clear A180
   obtain rfl:=Option.some.inj H
   go_enter Tryd.func8,Tryd.ntmps8
   try go_wp2_with (first|((with_reducible refine gate_callee (f:=9) rfl ?_);refine goesL_ (some 10) rfl rfl Tryd.func9 (by kernel_rfl) rfl #[.string (⟨#[48,46,49,50,53]⟩ : ByteArray)] rfl (by (try simp only [List.map_toArray,List.map_cons,List.map_nil]);first|done|rfl) ?_;(with_reducible refine (decimal_Parse.calls k (⟨#[48,46,49,50,53]⟩ : ByteArray) t666 t667 t670 t673 _ A1.out).mono ?_);rintro e w19 ⟨v668,v671,rfl,ho0,ho1,hb⟩;refine ⟨_,rfl,?_⟩;have n0_:=Aside0.mk (Kd.R_lower ho0 (below_size (Hu HB.out)));have n1_:=Aside0.mk (Kd.R_lower ho1 (below_size (Hu HB.out)));have n2_:=Aside0.mk (below_step (Hu HB.out) hb);clear HB;have HO669:=n0_;have HO672:=n1_;have HB:=n2_;clear n0_ n1_ n2_)|((with_reducible refine gate_dst (N:=1) rfl ?_);(try (refine gate_guard (by rfl) ?_;dsimp only));refine box_event ?hg (N:=1) ?hd (cs:=#[.bool false,.slice none 0 0,.slice none 0 0]) (t:=25) ?hr ?_;(case hd=>rfl);(case hg=>rfl);(case hr=>first|(go_simp;done)|(go_simp;(with_reducible rfl))|(go_simp;rfl)|(go_simp;simp only [hu,Int.emod_sub_emod]));intro gb674 hg w20 hbox hb;have n0_:=Aside0.mk (Kd.R_below (Ru HO669.out) hb);have n1_:=Aside0.mk (Kd.R_below (Ru HO672.out) hb);have n2_:=Aside0.mk (below_step (Hu HB.out) hb);have n3_:=Aside0.mk (hbox);have n4_:=Aside0.mk ((by rw [hg];exact (below_size (Hu HB.out)) : w.heap.size≤gb674));have n5_:=Aside0.mk ((by rw [hg];exact (below_size (Hu HB.out)) : w.heap.size≤gb674));clear HO669;clear HO672;clear HB;have HO669:=n0_;have HO672:=n1_;have HB:=n2_;have BK674:=n3_;have GW674:=n4_;have GE674:=n5_;clear n0_ n1_ n2_ n3_ n4_ n5_;clear hb hbox hg;have hcz21_0 : w20.cell? ⟨gb674,0,none⟩=some (.bool false):=(blk_cell BK674.out 0).trans rfl;have hcz21_1 : w20.cell? ⟨gb674,1,none⟩=some (.slice none 0 0):=(blk_cell BK674.out 1).trans rfl;have hcz21_2 : w20.cell? ⟨gb674,2,none⟩=some (.slice none 0 0):=(blk_cell BK674.out 2).trans rfl;have hfz21_0:=blk_frozen BK674.out 0;have hfz21_1:=blk_frozen BK674.out 1;have hfz21_2:=blk_frozen BK674.out 2;obtain ⟨Ao22,co22,eo22⟩:=Kd.R_slice HO669.out;subst eo22;obtain ⟨Ao23,co23,eo23⟩:=Kd.R_slice HO672.out;subst eo23)|((with_reducible refine gate_callee (f:=9) rfl ?_);refine goesL_ (some 14) rfl rfl Tryd.func9 (by kernel_rfl) rfl #[.string (⟨#[48,48,55,47,48,49,52]⟩ : ByteArray)] rfl (by (try simp only [List.map_toArray,List.map_cons,List.map_nil]);first|done|rfl) ?_;(with_reducible refine (decimal_Parse.calls k (⟨#[48,48,55,47,48,49,52]⟩ : ByteArray) t675 t676 t679 t682 _ A2.out).mono ?_);rintro e w24 ⟨v677,v680,rfl,ho0,ho1,hb⟩;refine ⟨_,rfl,?_⟩;have n0_:=Aside0.mk (Kd.R_mono (Kd.R_told (Kd.R_told (Kd.R_old (by (with_reducible repeat (first|apply Ra|apply Rn|apply Rd));exact (Kd.R_mono (Kd.R_far (p:=⟨gb674,2,none⟩) (Kd.R_far (p:=⟨gb674,1,none⟩) (Kd.R_far (p:=⟨gb674,0,none⟩) (Kd.R_types HO669.out BK674.out (by decide)) (fun _ hk=>hk.2) (.bool t666)) (fun _ hk=>hk.2) (.slice Ao22 t667.length co22)) (fun _ hk=>hk.2) (.slice Ao23 t670.length co23)) (fun _ h_=>h_.1))) hb) (Kd.R_base ho0)) (Kd.R_base ho1)) (fun _ h_=>h_.1));have n1_:=Aside0.mk (Kd.R_mono (Kd.R_told (Kd.R_told (Kd.R_old (by (with_reducible repeat (first|apply Ra|apply Rn|apply Rd));exact (Kd.R_mono (Kd.R_far (p:=⟨gb674,2,none⟩) (Kd.R_far (p:=⟨gb674,1,none⟩) (Kd.R_far (p:=⟨gb674,0,none⟩) (Kd.R_types HO672.out BK674.out (by decide)) (fun _ hk=>hk.2) (.bool t666)) (fun _ hk=>hk.2) (.slice Ao22 t667.length co22)) (fun _ hk=>hk.2) (.slice Ao23 t670.length co23)) (fun _ h_=>h_.1))) hb) (Kd.R_base ho0)) (Kd.R_base ho1)) (fun _ h_=>h_.1));have n2_:=Aside0.mk (Kd.R_lower (Kd.R_new' (Kd.R_new' ho0 (Kd.R_lt (by (with_reducible repeat (first|apply Ra|apply Rn|apply Rd));exact (Kd.R_mono (Kd.R_far (p:=⟨gb674,2,none⟩) (Kd.R_far (p:=⟨gb674,1,none⟩) (Kd.R_far (p:=⟨gb674,0,none⟩) (Kd.R_types HO669.out BK674.out (by decide)) (fun _ hk=>hk.2) (.bool t666)) (fun _ hk=>hk.2) (.slice Ao22 t667.length co22)) (fun _ hk=>hk.2) (.slice Ao23 t670.length co23)) (fun _ h_=>h_.1))))) (Kd.R_lt (by (with_reducible repeat (first|apply Ra|apply Rn|apply Rd));exact (Kd.R_mono (Kd.R_far (p:=⟨gb674,2,none⟩) (Kd.R_far (p:=⟨gb674,1,none⟩) (Kd.R_far (p:=⟨gb674,0,none⟩) (Kd.R_types HO672.out BK674.out (by decide)) (fun _ hk=>hk.2) (.bool t666)) (fun _ hk=>hk.2) (.slice Ao22 t667.length co22)) (fun _ hk=>hk.2) (.slice Ao23 t670.length co23)) (fun _ h_=>h_.1))))) (below_size (by repeat (first|with_reducible exact HB.out|apply ba|apply bn|apply b1|refine below_set ?_ GE674.out))));have n3_:=Aside0.mk (Kd.R_lower (Kd.R_new' (Kd.R_new' ho1 (Kd.R_lt (by (with_reducible repeat (first|apply Ra|apply Rn|apply Rd));exact (Kd.R_mono (Kd.R_far (p:=⟨gb674,2,none⟩) (Kd.R_far (p:=⟨gb674,1,none⟩) (Kd.R_far (p:=⟨gb674,0,none⟩) (Kd.R_types HO669.out BK674.out (by decide)) (fun _ hk=>hk.2) (.bool t666)) (fun _ hk=>hk.2) (.slice Ao22 t667.length co22)) (fun _ hk=>hk.2) (.slice Ao23 t670.length co23)) (fun _ h_=>h_.1))))) (Kd.R_lt (by (with_reducible repeat (first|apply Ra|apply Rn|apply Rd));exact (Kd.R_mono (Kd.R_far (p:=⟨gb674,2,none⟩) (Kd.R_far (p:=⟨gb674,1,none⟩) (Kd.R_far (p:=⟨gb674,0,none⟩) (Kd.R_types HO672.out BK674.out (by decide)) (fun _ hk=>hk.2) (.bool t666)) (fun _ hk=>hk.2) (.slice Ao22 t667.length co22)) (fun _ hk=>hk.2) (.slice Ao23 t670.length co23)) (fun _ h_=>h_.1))))) (below_size (by repeat (first|with_reducible exact HB.out|apply ba|apply bn|apply b1|refine below_set ?_ GE674.out))));have n4_:=Aside0.mk (blk_below (g:=gb674) (o:=.cells #[.bool t666,.slice Ao22 t667.length co22,.slice Ao23 t670.length co23] 25 (0,0)) (by (with_reducible repeat (first|refine blk_drewN ?_ _|refine blk_drew ?_|refine blk_alloc ?_ _));refine blk_put (cs:=#[.bool t666,.slice Ao22 t667.length co22,.slice none 0 0]) ?_ 2 _ rfl;(with_reducible repeat (first|refine blk_drewN ?_ _|refine blk_drew ?_|refine blk_alloc ?_ _));refine blk_put (cs:=#[.bool t666,.slice none 0 0,.slice none 0 0]) ?_ 1 _ rfl;(with_reducible repeat (first|refine blk_drewN ?_ _|refine blk_drew ?_|refine blk_alloc ?_ _));refine blk_put (cs:=#[.bool false,.slice none 0 0,.slice none 0 0]) ?_ 0 _ rfl;(with_reducible repeat (first|refine blk_drewN ?_ _|refine blk_drew ?_|refine blk_alloc ?_ _));exact BK674.out) hb);have n5_:=Aside0.mk (below_step (by repeat (first|with_reducible exact HB.out|apply ba|apply bn|apply b1|refine below_set ?_ GE674.out)) hb);clear HO669;clear HO672;clear BK674;clear HB;have HO669:=n0_;have HO672:=n1_;have HO678:=n2_;have HO681:=n3_;have BK674:=n4_;have HB:=n5_;clear n0_ n1_ n2_ n3_ n4_ n5_)|((with_reducible refine gate_dst (N:=3) rfl ?_);(try (refine gate_guard (by rfl) ?_;dsimp only));refine box_event ?hg (N:=3) ?hd (cs:=#[.bool false,.slice none 0 0,.slice none 0 0]) (t:=25) ?hr ?_;(case hd=>rfl);(case hg=>rfl);(case hr=>first|(go_simp;done)|(go_simp;(with_reducible rfl))|(go_simp;rfl)|(go_simp;simp only [hu,Int.emod_sub_emod]));intro gb683 hg w25 hbox hb;have n0_:=Aside0.mk (Kd.R_below (Ru HO669.out) hb);have n1_:=Aside0.mk (Kd.R_below (Ru HO672.out) hb);have n2_:=Aside0.mk (Kd.R_below (Ru HO678.out) hb);have n3_:=Aside0.mk (Kd.R_below (Ru HO681.out) hb);have n4_:=Aside0.mk (blk_below (g:=gb674) (o:=.cells #[.bool t666,.slice Ao22 t667.length co22,.slice Ao23 t670.length co23] 25 (0,0)) (Bu BK674.out) hb);have n5_:=Aside0.mk (below_step (by repeat (first|with_reducible exact HB.out|apply ba|apply bn|apply b1|refine below_set ?_ GE674.out)) hb);have n6_:=Aside0.mk (hbox);have n7_:=Aside0.mk ((by rw [hg];exact (below_size (by repeat (first|with_reducible exact HB.out|apply ba|apply bn|apply b1|refine below_set ?_ GE674.out))) : w.heap.size≤gb683));have n8_:=Aside0.mk ((by rw [hg];exact (below_size (by repeat (first|with_reducible exact HB.out|apply ba|apply bn|apply b1|refine below_set ?_ GE674.out))) : w.heap.size≤gb683));have n9_:=Aside0.mk ((by rw [hg];exact Nat.ne_of_lt (blk_lt (g:=gb674) (o:=.cells #[.bool t666,.slice Ao22 t667.length co22,.slice Ao23 t670.length co23] 25 (0,0)) (Bu BK674.out)) : gb674≠gb683));have n10_:=Aside0.mk ((by rw [hg];exact Nat.ne_of_gt (blk_lt (g:=gb674) (o:=.cells #[.bool t666,.slice Ao22 t667.length co22,.slice Ao23 t670.length co23] 25 (0,0)) (Bu BK674.out)) : gb683≠gb674));clear HO669;clear HO672;clear HO678;clear HO681;clear BK674;clear HB;have HO669:=n0_;have HO672:=n1_;have HO678:=n2_;have HO681:=n3_;have BK674:=n4_;have HB:=n5_;have BK683:=n6_;have GW683:=n7_;have GE683:=n8_;have NB674_683:=n9_;have NB683_674:=n10_;clear n0_ n1_ n2_ n3_ n4_ n5_ n6_ n7_ n8_ n9_ n10_;clear hb hbox hg;have hnb26:=NB683_674.out;have hnc26:=NB674_683.out;have hcz27_0 : w25.cell? ⟨gb683,0,none⟩=some (.bool false):=(blk_cell BK683.out 0).trans rfl;have hcz27_1 : w25.cell? ⟨gb683,1,none⟩=some (.slice none 0 0):=(blk_cell BK683.out 1).trans rfl;have hcz27_2 : w25.cell? ⟨gb683,2,none⟩=some (.slice none 0 0):=(blk_cell BK683.out 2).trans rfl;have hfz27_0:=blk_frozen BK683.out 0;have hfz27_1:=blk_frozen BK683.out 1;have hfz27_2:=blk_frozen BK683.out 2;obtain ⟨Ao28,co28,eo28⟩:=Kd.R_slice HO678.out;subst eo28;obtain ⟨Ao29,co29,eo29⟩:=Kd.R_slice HO681.out;subst eo29)|((with_reducible refine gate_callee (f:=9) rfl ?_);refine goesL_ (some 18) rfl rfl Tryd.func9 (by kernel_rfl) rfl #[.string (⟨#[49,47,48]⟩ : ByteArray)] rfl (by (try simp only [List.map_toArray,List.map_cons,List.map_nil]);first|done|rfl) ?_;(with_reducible refine (decimal_Parse.calls k (⟨#[49,47,48]⟩ : ByteArray) t684 t685 t688 t691 _ A3.out).mono ?_);rintro e w30 ⟨v686,v689,rfl,ho0,ho1,hb⟩;refine ⟨_,rfl,?_⟩;have n0_:=Aside0.mk (Kd.R_mono (Kd.R_told (Kd.R_told (Kd.R_old (by (with_reducible repeat (first|apply Ra|apply Rn|apply Rd));exact (Kd.R_mono (Kd.R_far (p:=⟨gb683,2,none⟩) (Kd.R_far (p:=⟨gb683,1,none⟩) (Kd.R_far (p:=⟨gb683,0,none⟩) (Kd.R_types HO669.out BK683.out (by decide)) (fun _ hk=>hk.2) (.bool t675)) (fun _ hk=>hk.2) (.slice Ao28 t676.length co28)) (fun _ hk=>hk.2) (.slice Ao29 t679.length co29)) (fun _ h_=>h_.1))) hb) (Kd.R_base ho0)) (Kd.R_base ho1)) (fun _ h_=>h_.1));have n1_:=Aside0.mk (Kd.R_mono (Kd.R_told (Kd.R_told (Kd.R_old (by (with_reducible repeat (first|apply Ra|apply Rn|apply Rd));exact (Kd.R_mono (Kd.R_far (p:=⟨gb683,2,none⟩) (Kd.R_far (p:=⟨gb683,1,none⟩) (Kd.R_far (p:=⟨gb683,0,none⟩) (Kd.R_types HO672.out BK683.out (by decide)) (fun _ hk=>hk.2) (.bool t675)) (fun _ hk=>hk.2) (.slice Ao28 t676.length co28)) (fun _ hk=>hk.2) (.slice Ao29 t679.length co29)) (fun _ h_=>h_.1))) hb) (Kd.R_base ho0)) (Kd.R_base ho1)) (fun _ h_=>h_.1));have n2_:=Aside0.mk (Kd.R_mono (Kd.R_told (Kd.R_told (Kd.R_old (by (with_reducible repeat (first|apply Ra|apply Rn|apply Rd));exact (Kd.R_mono (Kd.R_far (p:=⟨gb683,2,none⟩) (Kd.R_far (p:=⟨gb683,1,none⟩) (Kd.R_far (p:=⟨gb683,0,none⟩) (Kd.R_types HO678.out BK683.out (by decide)) (fun _ hk=>hk.2) (.bool t675)) (fun _ hk=>hk.2) (.slice Ao28 t676.length co28)) (fun _ hk=>hk.2) (.slice Ao29 t679.length co29)) (fun _ h_=>h_.1))) hb) (Kd.R_base ho0)) (Kd.R_base ho1)) (fun _ h_=>h_.1));have n3_:=Aside0.mk (Kd.R_mono (Kd.R_told (Kd.R_told (Kd.R_old (by (with_reducible repeat (first|apply Ra|apply Rn|apply Rd));exact (Kd.R_mono (Kd.R_far (p:=⟨gb683,2,none⟩) (Kd.R_far (p:=⟨gb683,1,none⟩) (Kd.R_far (p:=⟨gb683,0,none⟩) (Kd.R_types HO681.out BK683.out (by decide)) (fun _ hk=>hk.2) (.bool t675)) (fun _ hk=>hk.2) (.slice Ao28 t676.length co28)) (fun _ hk=>hk.2) (.slice Ao29 t679.length co29)) (fun _ h_=>h_.1))) hb) (Kd.R_base ho0)) (Kd.R_base ho1)) (fun _ h_=>h_.1));have n4_:=Aside0.mk (Kd.R_lower (Kd.R_new' (Kd.R_new' (Kd.R_new' (Kd.R_new' ho0 (Kd.R_lt (by (with_reducible repeat (first|apply Ra|apply Rn|apply Rd));exact (Kd.R_mono (Kd.R_far (p:=⟨gb683,2,none⟩) (Kd.R_far (p:=⟨gb683,1,none⟩) (Kd.R_far (p:=⟨gb683,0,none⟩) (Kd.R_types HO669.out BK683.out (by decide)) (fun _ hk=>hk.2) (.bool t675)) (fun _ hk=>hk.2) (.slice Ao28 t676.length co28)) (fun _ hk=>hk.2) (.slice Ao29 t679.length co29)) (fun _ h_=>h_.1))))) (Kd.R_lt (by (with_reducible repeat (first|apply Ra|apply Rn|apply Rd));exact (Kd.R_mono (Kd.R_far (p:=⟨gb683,2,none⟩) (Kd.R_far (p:=⟨gb683,1,none⟩) (Kd.R_far (p:=⟨gb683,0,none⟩) (Kd.R_types HO672.out BK683.out (by decide)) (fun _ hk=>hk.2) (.bool t675)) (fun _ hk=>hk.2) (.slice Ao28 t676.length co28)) (fun _ hk=>hk.2) (.slice Ao29 t679.length co29)) (fun _ h_=>h_.1))))) (Kd.R_lt (by (with_reducible repeat (first|apply Ra|apply Rn|apply Rd));exact (Kd.R_mono (Kd.R_far (p:=⟨gb683,2,none⟩) (Kd.R_far (p:=⟨gb683,1,none⟩) (Kd.R_far (p:=⟨gb683,0,none⟩) (Kd.R_types HO678.out BK683.out (by decide)) (fun _ hk=>hk.2) (.bool t675)) (fun _ hk=>hk.2) (.slice Ao28 t676.length co28)) (fun _ hk=>hk.2) (.slice Ao29 t679.length co29)) (fun _ h_=>h_.1))))) (Kd.R_lt (by (with_reducible repeat (first|apply Ra|apply Rn|apply Rd));exact (Kd.R_mono (Kd.R_far (p:=⟨gb683,2,none⟩) (Kd.R_far (p:=⟨gb683,1,none⟩) (Kd.R_far (p:=⟨gb683,0,none⟩) (Kd.R_types HO681.out BK683.out (by decide)) (fun _ hk=>hk.2) (.bool t675)) (fun _ hk=>hk.2) (.slice Ao28 t676.length co28)) (fun _ hk=>hk.2) (.slice Ao29 t679.length co29)) (fun _ h_=>h_.1))))) (below_size (by repeat (first|with_reducible exact HB.out|apply ba|apply bn|apply b1|refine below_set ?_ GE674.out|refine below_set ?_ GE683.out))));have n5_:=Aside0.mk (Kd.R_lower (Kd.R_new' (Kd.R_new' (Kd.R_new' (Kd.R_new' ho1 (Kd.R_lt (by (with_reducible repeat (first|apply Ra|apply Rn|apply Rd));exact (Kd.R_mono (Kd.R_far (p:=⟨gb683,2,none⟩) (Kd.R_far (p:=⟨gb683,1,none⟩) (Kd.R_far (p:=⟨gb683,0,none⟩) (Kd.R_types HO669.out BK683.out (by decide)) (fun _ hk=>hk.2) (.bool t675)) (fun _ hk=>hk.2) (.slice Ao28 t676.length co28)) (fun _ hk=>hk.2) (.slice Ao29 t679.length co29)) (fun _ h_=>h_.1))))) (Kd.R_lt (by (with_reducible repeat (first|apply Ra|apply Rn|apply Rd));exact (Kd.R_mono (Kd.R_far (p:=⟨gb683,2,none⟩) (Kd.R_far (p:=⟨gb683,1,none⟩) (Kd.R_far (p:=⟨gb683,0,none⟩) (Kd.R_types HO672.out BK683.out (by decide)) (fun _ hk=>hk.2) (.bool t675)) (fun _ hk=>hk.2) (.slice Ao28 t676.length co28)) (fun _ hk=>hk.2) (.slice Ao29 t679.length co29)) (fun _ h_=>h_.1))))) (Kd.R_lt (by (with_reducible repeat (first|apply Ra|apply Rn|apply Rd));exact (Kd.R_mono (Kd.R_far (p:=⟨gb683,2,none⟩) (Kd.R_far (p:=⟨gb683,1,none⟩) (Kd.R_far (p:=⟨gb683,0,none⟩) (Kd.R_types HO678.out BK683.out (by decide)) (fun _ hk=>hk.2) (.bool t675)) (fun _ hk=>hk.2) (.slice Ao28 t676.length co28)) (fun _ hk=>hk.2) (.slice Ao29 t679.length co29)) (fun _ h_=>h_.1))))) (Kd.R_lt (by (with_reducible repeat (first|apply Ra|apply Rn|apply Rd));exact (Kd.R_mono (Kd.R_far (p:=⟨gb683,2,none⟩) (Kd.R_far (p:=⟨gb683,1,none⟩) (Kd.R_far (p:=⟨gb683,0,none⟩) (Kd.R_types HO681.out BK683.out (by decide)) (fun _ hk=>hk.2) (.bool t675)) (fun _ hk=>hk.2) (.slice Ao28 t676.length co28)) (fun _ hk=>hk.2) (.slice Ao29 t679.length co29)) (fun _ h_=>h_.1))))) (below_size (by repeat (first|with_reducible exact HB.out|apply ba|apply bn|apply b1|refine below_set ?_ GE674.out|refine below_set ?_ GE683.out))));have n6_:=Aside0.mk (blk_below (g:=gb674) (o:=.cells #[.bool t666,.slice Ao22 t667.length co22,.slice Ao23 t670.length co23] 25 (0,0)) (by (with_reducible repeat (first|refine blk_drewN ?_ _|refine blk_drew ?_|refine blk_alloc ?_ _));refine blk_far ?_ NB674_683.out _;(with_reducible repeat (first|refine blk_drewN ?_ _|refine blk_drew ?_|refine blk_alloc ?_ _));refine blk_far ?_ NB674_683.out _;(with_reducible repeat (first|refine blk_drewN ?_ _|refine blk_drew ?_|refine blk_alloc ?_ _));refine blk_far ?_ NB674_683.out _;(with_reducible repeat (first|refine blk_drewN ?_ _|refine blk_drew ?_|refine blk_alloc ?_ _));exact BK674.out) hb);have n7_:=Aside0.mk (blk_below (g:=gb683) (o:=.cells #[.bool t675,.slice Ao28 t676.length co28,.slice Ao29 t679.length co29] 25 (0,0)) (by (with_reducible repeat (first|refine blk_drewN ?_ _|refine blk_drew ?_|refine blk_alloc ?_ _));refine blk_put (cs:=#[.bool t675,.slice Ao28 t676.length co28,.slice none 0 0]) ?_ 2 _ rfl;(with_reducible repeat (first|refine blk_drewN ?_ _|refine blk_drew ?_|refine blk_alloc ?_ _));refine blk_put (cs:=#[.bool t675,.slice none 0 0,.slice none 0 0]) ?_ 1 _ rfl;(with_reducible repeat (first|refine blk_drewN ?_ _|refine blk_drew ?_|refine blk_alloc ?_ _));refine blk_put (cs:=#[.bool false,.slice none 0 0,.slice none 0 0]) ?_ 0 _ rfl;(with_reducible repeat (first|refine blk_drewN ?_ _|refine blk_drew ?_|refine blk_alloc ?_ _));exact BK683.out) hb);have n8_:=Aside0.mk (below_step (by repeat (first|with_reducible exact HB.out|apply ba|apply bn|apply b1|refine below_set ?_ GE674.out|refine below_set ?_ GE683.out)) hb);clear HO669;clear HO672;clear HO678;clear HO681;clear BK674;clear BK683;clear HB;have HO669:=n0_;have HO672:=n1_;have HO678:=n2_;have HO681:=n3_;have HO687:=n4_;have HO690:=n5_;have BK674:=n6_;have BK683:=n7_;have HB:=n8_;clear n0_ n1_ n2_ n3_ n4_ n5_ n6_ n7_ n8_)|((with_reducible refine gate_dst (N:=5) rfl ?_);(try (refine gate_guard (by rfl) ?_;dsimp only));refine box_event ?hg (N:=5) ?hd (cs:=#[.bool false,.slice none 0 0,.slice none 0 0]) (t:=25) ?hr ?_;(case hd=>rfl);(case hg=>rfl);(case hr=>first|(go_simp;done)|(go_simp;(with_reducible rfl))|(go_simp;rfl)|(go_simp;simp only [hu,Int.emod_sub_emod]));intro gb692 hg w31 hbox hb;have n0_:=Aside0.mk (Kd.R_below (Ru HO669.out) hb);have n1_:=Aside0.mk (Kd.R_below (Ru HO672.out) hb);have n2_:=Aside0.mk (Kd.R_below (Ru HO678.out) hb);have n3_:=Aside0.mk (Kd.R_below (Ru HO681.out) hb);have n4_:=Aside0.mk (Kd.R_below (Ru HO687.out) hb);have n5_:=Aside0.mk (Kd.R_below (Ru HO690.out) hb);have n6_:=Aside0.mk (blk_below (g:=gb674) (o:=.cells #[.bool t666,.slice Ao22 t667.length co22,.slice Ao23 t670.length co23] 25 (0,0)) (Bu BK674.out) hb);have n7_:=Aside0.mk (blk_below (g:=gb683) (o:=.cells #[.bool t675,.slice Ao28 t676.length co28,.slice Ao29 t679.length co29] 25 (0,0)) (Bu BK683.out) hb);have n8_:=Aside0.mk (below_step (by repeat (first|with_reducible exact HB.out|apply ba|apply bn|apply b1|refine below_set ?_ GE674.out|refine below_set ?_ GE683.out)) hb);have n9_:=Aside0.mk (hbox);have n10_:=Aside0.mk ((by rw [hg];exact (below_size (by repeat (first|with_reducible exact HB.out|apply ba|apply bn|apply b1|refine below_set ?_ GE674.out|refine below_set ?_ GE683.out))) : w.heap.size≤gb692));have n11_:=Aside0.mk ((by rw [hg];exact (below_size (by repeat (first|with_reducible exact HB.out|apply ba|apply bn|apply b1|refine below_set ?_ GE674.out|refine below_set ?_ GE683.out))) : w.heap.size≤gb692));have n12_:=Aside0.mk ((by rw [hg];exact Nat.ne_of_lt (blk_lt (g:=gb674) (o:=.cells #[.bool t666,.slice Ao22 t667.length co22,.slice Ao23 t670.length co23] 25 (0,0)) (Bu BK674.out)) : gb674≠gb692));have n13_:=Aside0.mk ((by rw [hg];exact Nat.ne_of_gt (blk_lt (g:=gb674) (o:=.cells #[.bool t666,.slice Ao22 t667.length co22,.slice Ao23 t670.length co23] 25 (0,0)) (Bu BK674.out)) : gb692≠gb674));have n14_:=Aside0.mk ((by rw [hg];exact Nat.ne_of_lt (blk_lt (g:=gb683) (o:=.cells #[.bool t675,.slice Ao28 t676.length co28,.slice Ao29 t679.length co29] 25 (0,0)) (Bu BK683.out)) : gb683≠gb692));have n15_:=Aside0.mk ((by rw [hg];exact Nat.ne_of_gt (blk_lt (g:=gb683) (o:=.cells #[.bool t675,.slice Ao28 t676.length co28,.slice Ao29 t679.length co29] 25 (0,0)) (Bu BK683.out)) : gb692≠gb683));clear HO669;clear HO672;clear HO678;clear HO681;clear HO687;clear HO690;clear BK674;clear BK683;clear HB;have HO669:=n0_;have HO672:=n1_;have HO678:=n2_;have HO681:=n3_;have HO687:=n4_;have HO690:=n5_;have BK674:=n6_;have BK683:=n7_;have HB:=n8_;have BK692:=n9_;have GW692:=n10_;have GE692:=n11_;have NB674_692:=n12_;have NB692_674:=n13_;have NB683_692:=n14_;have NB692_683:=n15_;clear n0_ n1_ n2_ n3_ n4_ n5_ n6_ n7_ n8_ n9_ n10_ n11_ n12_ n13_ n14_ n15_;clear hb hbox hg;have hnb32:=NB692_674.out;have hnc32:=NB674_692.out;have hnb33:=NB692_683.out;have hnc33:=NB683_692.out;have hcz34_0 : w31.cell? ⟨gb692,0,none⟩=some (.bool false):=(blk_cell BK692.out 0).trans rfl;have hcz34_1 : w31.cell? ⟨gb692,1,none⟩=some (.slice none 0 0):=(blk_cell BK692.out 1).trans rfl;have hcz34_2 : w31.cell? ⟨gb692,2,none⟩=some (.slice none 0 0):=(blk_cell BK692.out 2).trans rfl;have hfz34_0:=blk_frozen BK692.out 0;have hfz34_1:=blk_frozen BK692.out 1;have hfz34_2:=blk_frozen BK692.out 2;obtain ⟨Ao35,co35,eo35⟩:=Kd.R_slice HO687.out;subst eo35;obtain ⟨Ao36,co36,eo36⟩:=Kd.R_slice HO690.out;subst eo36)|((with_reducible refine gate_callee (f:=9) rfl ?_);refine goesL_ (some 22) rfl rfl Tryd.func9 (by kernel_rfl) rfl #[.string (⟨#[49,46]⟩ : ByteArray)] rfl (by (try simp only [List.map_toArray,List.map_cons,List.map_nil]);first|done|rfl) ?_;(with_reducible refine (decimal_Parse.calls k (⟨#[49,46]⟩ : ByteArray) t693 t694 t697 t700 _ A4.out).mono ?_);rintro e w37 ⟨v695,v698,rfl,ho0,ho1,hb⟩;refine ⟨_,rfl,?_⟩;have n0_:=Aside0.mk (Kd.R_mono (Kd.R_told (Kd.R_told (Kd.R_old (by (with_reducible repeat (first|apply Ra|apply Rn|apply Rd));exact (Kd.R_mono (Kd.R_far (p:=⟨gb692,2,none⟩) (Kd.R_far (p:=⟨gb692,1,none⟩) (Kd.R_far (p:=⟨gb692,0,none⟩) (Kd.R_types HO669.out BK692.out (by decide)) (fun _ hk=>hk.2) (.bool t684)) (fun _ hk=>hk.2) (.slice Ao35 t685.length co35)) (fun _ hk=>hk.2) (.slice Ao36 t688.length co36)) (fun _ h_=>h_.1))) hb) (Kd.R_base ho0)) (Kd.R_base ho1)) (fun _ h_=>h_.1));have n1_:=Aside0.mk (Kd.R_mono (Kd.R_told (Kd.R_told (Kd.R_old (by (with_reducible repeat (first|apply Ra|apply Rn|apply Rd));exact (Kd.R_mono (Kd.R_far (p:=⟨gb692,2,none⟩) (Kd.R_far (p:=⟨gb692,1,none⟩) (Kd.R_far (p:=⟨gb692,0,none⟩) (Kd.R_types HO672.out BK692.out (by decide)) (fun _ hk=>hk.2) (.bool t684)) (fun _ hk=>hk.2) (.slice Ao35 t685.length co35)) (fun _ hk=>hk.2) (.slice Ao36 t688.length co36)) (fun _ h_=>h_.1))) hb) (Kd.R_base ho0)) (Kd.R_base ho1)) (fun _ h_=>h_.1));have n2_:=Aside0.mk (Kd.R_mono (Kd.R_told (Kd.R_told (Kd.R_old (by (with_reducible repeat (first|apply Ra|apply Rn|apply Rd));exact (Kd.R_mono (Kd.R_far (p:=⟨gb692,2,none⟩) (Kd.R_far (p:=⟨gb692,1,none⟩) (Kd.R_far (p:=⟨gb692,0,none⟩) (Kd.R_types HO678.out BK692.out (by decide)) (fun _ hk=>hk.2) (.bool t684)) (fun _ hk=>hk.2) (.slice Ao35 t685.length co35)) (fun _ hk=>hk.2) (.slice Ao36 t688.length co36)) (fun _ h_=>h_.1))) hb) (Kd.R_base ho0)) (Kd.R_base ho1)) (fun _ h_=>h_.1));have n3_:=Aside0.mk (Kd.R_mono (Kd.R_told (Kd.R_told (Kd.R_old (by (with_reducible repeat (first|apply Ra|apply Rn|apply Rd));exact (Kd.R_mono (Kd.R_far (p:=⟨gb692,2,none⟩) (Kd.R_far (p:=⟨gb692,1,none⟩) (Kd.R_far (p:=⟨gb692,0,none⟩) (Kd.R_types HO681.out BK692.out (by decide)) (fun _ hk=>hk.2) (.bool t684)) (fun _ hk=>hk.2) (.slice Ao35 t685.length co35)) (fun _ hk=>hk.2) (.slice Ao36 t688.length co36)) (fun _ h_=>h_.1))) hb) (Kd.R_base ho0)) (Kd.R_base ho1)) (fun _ h_=>h_.1));have n4_:=Aside0.mk (Kd.R_mono (Kd.R_told (Kd.R_told (Kd.R_old (by (with_reducible repeat (first|apply Ra|apply Rn|apply Rd));exact (Kd.R_mono (Kd.R_far (p:=⟨gb692,2,none⟩) (Kd.R_far (p:=⟨gb692,1,none⟩) (Kd.R_far (p:=⟨gb692,0,none⟩) (Kd.R_types HO687.out BK692.out (by decide)) (fun _ hk=>hk.2) (.bool t684)) (fun _ hk=>hk.2) (.slice Ao35 t685.length co35)) (fun _ hk=>hk.2) (.slice Ao36 t688.length co36)) (fun _ h_=>h_.1))) hb) (Kd.R_base ho0)) (Kd.R_base ho1)) (fun _ h_=>h_.1));have n5_:=Aside0.mk (Kd.R_mono (Kd.R_told (Kd.R_told (Kd.R_old (by (with_reducible repeat (first|apply Ra|apply Rn|apply Rd));exact (Kd.R_mono (Kd.R_far (p:=⟨gb692,2,none⟩) (Kd.R_far (p:=⟨gb692,1,none⟩) (Kd.R_far (p:=⟨gb692,0,none⟩) (Kd.R_types HO690.out BK692.out (by decide)) (fun _ hk=>hk.2) (.bool t684)) (fun _ hk=>hk.2) (.slice Ao35 t685.length co35)) (fun _ hk=>hk.2) (.slice Ao36 t688.length co36)) (fun _ h_=>h_.1))) hb) (Kd.R_base ho0)) (Kd.R_base ho1)) (fun _ h_=>h_.1));have n6_:=Aside0.mk (Kd.R_lower (Kd.R_new' (Kd.R_new' (Kd.R_new' (Kd.R_new' (Kd.R_new' (Kd.R_new' ho0 (Kd.R_lt (by (with_reducible repeat (first|apply Ra|apply Rn|apply Rd));exact (Kd.R_mono (Kd.R_far (p:=⟨gb692,2,none⟩) (Kd.R_far (p:=⟨gb692,1,none⟩) (Kd.R_far (p:=⟨gb692,0,none⟩) (Kd.R_types HO669.out BK692.out (by decide)) (fun _ hk=>hk.2) (.bool t684)) (fun _ hk=>hk.2) (.slice Ao35 t685.length co35)) (fun _ hk=>hk.2) (.slice Ao36 t688.length co36)) (fun _ h_=>h_.1))))) (Kd.R_lt (by (with_reducible repeat (first|apply Ra|apply Rn|apply Rd));exact (Kd.R_mono (Kd.R_far (p:=⟨gb692,2,none⟩) (Kd.R_far (p:=⟨gb692,1,none⟩) (Kd.R_far (p:=⟨gb692,0,none⟩) (Kd.R_types HO672.out BK692.out (by decide)) (fun _ hk=>hk.2) (.bool t684)) (fun _ hk=>hk.2) (.slice Ao35 t685.length co35)) (fun _ hk=>hk.2) (.slice Ao36 t688.length co36)) (fun _ h_=>h_.1))))) (Kd.R_lt (by (with_reducible repeat (first|apply Ra|apply Rn|apply Rd));exact (Kd.R_mono (Kd.R_far (p:=⟨gb692,2,none⟩) (Kd.R_far (p:=⟨gb692,1,none⟩) (Kd.R_far (p:=⟨gb692,0,none⟩) (Kd.R_types HO678.out BK692.out (by decide)) (fun _ hk=>hk.2) (.bool t684)) (fun _ hk=>hk.2) (.slice Ao35 t685.length co35)) (fun _ hk=>hk.2) (.slice Ao36 t688.length co36)) (fun _ h_=>h_.1))))) (Kd.R_lt (by (with_reducible repeat (first|apply Ra|apply Rn|apply Rd));exact (Kd.R_mono (Kd.R_far (p:=⟨gb692,2,none⟩) (Kd.R_far (p:=⟨gb692,1,none⟩) (Kd.R_far (p:=⟨gb692,0,none⟩) (Kd.R_types HO681.out BK692.out (by decide)) (fun _ hk=>hk.2) (.bool t684)) (fun _ hk=>hk.2) (.slice Ao35 t685.length co35)) (fun _ hk=>hk.2) (.slice Ao36 t688.length co36)) (fun _ h_=>h_.1))))) (Kd.R_lt (by (with_reducible repeat (first|apply Ra|apply Rn|apply Rd));exact (Kd.R_mono (Kd.R_far (p:=⟨gb692,2,none⟩) (Kd.R_far (p:=⟨gb692,1,none⟩) (Kd.R_far (p:=⟨gb692,0,none⟩) (Kd.R_types HO687.out BK692.out (by decide)) (fun _ hk=>hk.2) (.bool t684)) (fun _ hk=>hk.2) (.slice Ao35 t685.length co35)) (fun _ hk=>hk.2) (.slice Ao36 t688.length co36)) (fun _ h_=>h_.1))))) (Kd.R_lt (by (with_reducible repeat (first|apply Ra|apply Rn|apply Rd));exact (Kd.R_mono (Kd.R_far (p:=⟨gb692,2,none⟩) (Kd.R_far (p:=⟨gb692,1,none⟩) (Kd.R_far (p:=⟨gb692,0,none⟩) (Kd.R_types HO690.out BK692.out (by decide)) (fun _ hk=>hk.2) (.bool t684)) (fun _ hk=>hk.2) (.slice Ao35 t685.length co35)) (fun _ hk=>hk.2) (.slice Ao36 t688.length co36)) (fun _ h_=>h_.1))))) (below_size (by repeat (first|with_reducible exact HB.out|apply ba|apply bn|apply b1|refine below_set ?_ GE674.out|refine below_set ?_ GE683.out|refine below_set ?_ GE692.out))));have n7_:=Aside0.mk (Kd.R_lower (Kd.R_new' (Kd.R_new' (Kd.R_new' (Kd.R_new' (Kd.R_new' (Kd.R_new' ho1 (Kd.R_lt (by (with_reducible repeat (first|apply Ra|apply Rn|apply Rd));exact (Kd.R_mono (Kd.R_far (p:=⟨gb692,2,none⟩) (Kd.R_far (p:=⟨gb692,1,none⟩) (Kd.R_far (p:=⟨gb692,0,none⟩) (Kd.R_types HO669.out BK692.out (by decide)) (fun _ hk=>hk.2) (.bool t684)) (fun _ hk=>hk.2) (.slice Ao35 t685.length co35)) (fun _ hk=>hk.2) (.slice Ao36 t688.length co36)) (fun _ h_=>h_.1))))) (Kd.R_lt (by (with_reducible repeat (first|apply Ra|apply Rn|apply Rd));exact (Kd.R_mono (Kd.R_far (p:=⟨gb692,2,none⟩) (Kd.R_far (p:=⟨gb692,1,none⟩) (Kd.R_far (p:=⟨gb692,0,none⟩) (Kd.R_types HO672.out BK692.out (by decide)) (fun _ hk=>hk.2) (.bool t684)) (fun _ hk=>hk.2) (.slice Ao35 t685.length co35)) (fun _ hk=>hk.2) (.slice Ao36 t688.length co36)) (fun _ h_=>h_.1))))) (Kd.R_lt (by (with_reducible repeat (first|apply Ra|apply Rn|apply Rd));exact (Kd.R_mono (Kd.R_far (p:=⟨gb692,2,none⟩) (Kd.R_far (p:=⟨gb692,1,none⟩) (Kd.R_far (p:=⟨gb692,0,none⟩) (Kd.R_types HO678.out BK692.out (by decide)) (fun _ hk=>hk.2) (.bool t684)) (fun _ hk=>hk.2) (.slice Ao35 t685.length co35)) (fun _ hk=>hk.2) (.slice Ao36 t688.length co36)) (fun _ h_=>h_.1))))) (Kd.R_lt (by (with_reducible repeat (first|apply Ra|apply Rn|apply Rd));exact (Kd.R_mono (Kd.R_far (p:=⟨gb692,2,none⟩) (Kd.R_far (p:=⟨gb692,1,none⟩) (Kd.R_far (p:=⟨gb692,0,none⟩) (Kd.R_types HO681.out BK692.out (by decide)) (fun _ hk=>hk.2) (.bool t684)) (fun _ hk=>hk.2) (.slice Ao35 t685.length co35)) (fun _ hk=>hk.2) (.slice Ao36 t688.length co36)) (fun _ h_=>h_.1))))) (Kd.R_lt (by (with_reducible repeat (first|apply Ra|apply Rn|apply Rd));exact (Kd.R_mono (Kd.R_far (p:=⟨gb692,2,none⟩) (Kd.R_far (p:=⟨gb692,1,none⟩) (Kd.R_far (p:=⟨gb692,0,none⟩) (Kd.R_types HO687.out BK692.out (by decide)) (fun _ hk=>hk.2) (.bool t684)) (fun _ hk=>hk.2) (.slice Ao35 t685.length co35)) (fun _ hk=>hk.2) (.slice Ao36 t688.length co36)) (fun _ h_=>h_.1))))) (Kd.R_lt (by (with_reducible repeat (first|apply Ra|apply Rn|apply Rd));exact (Kd.R_mono (Kd.R_far (p:=⟨gb692,2,none⟩) (Kd.R_far (p:=⟨gb692,1,none⟩) (Kd.R_far (p:=⟨gb692,0,none⟩) (Kd.R_types HO690.out BK692.out (by decide)) (fun _ hk=>hk.2) (.bool t684)) (fun _ hk=>hk.2) (.slice Ao35 t685.length co35)) (fun _ hk=>hk.2) (.slice Ao36 t688.length co36)) (fun _ h_=>h_.1))))) (below_size (by repeat (first|with_reducible exact HB.out|apply ba|apply bn|apply b1|refine below_set ?_ GE674.out|refine below_set ?_ GE683.out|refine below_set ?_ GE692.out))));have n8_:=Aside0.mk (blk_below (g:=gb674) (o:=.cells #[.bool t666,.slice Ao22 t667.length co22,.slice Ao23 t670.length co23] 25 (0,0)) (by (with_reducible repeat (first|refine blk_drewN ?_ _|refine blk_drew ?_|refine blk_alloc ?_ _));refine blk_far ?_ NB674_692.out _;(with_reducible repeat (first|refine blk_drewN ?_ _|refine blk_drew ?_|refine blk_alloc ?_ _));refine blk_far ?_ NB674_692.out _;(with_reducible repeat (first|refine blk_drewN ?_ _|refine blk_drew ?_|refine blk_alloc ?_ _));refine blk_far ?_ NB674_692.out _;(with_reducible repeat (first|refine blk_drewN ?_ _|refine blk_drew ?_|refine blk_alloc ?_ _));exact BK674.out) hb);have n9_:=Aside0.mk (blk_below (g:=gb683) (o:=.cells #[.bool t675,.slice Ao28 t676.length co28,.slice Ao29 t679.length co29] 25 (0,0)) (by (with_reducible repeat (first|refine blk_drewN ?_ _|refine blk_drew ?_|refine blk_alloc ?_ _));refine blk_far ?_ NB683_692.out _;(with_reducible repeat (first|refine blk_drewN ?_ _|refine blk_drew ?_|refine blk_alloc ?_ _));refine blk_far ?_ NB683_692.out _;(with_reducible repeat (first|refine blk_drewN ?_ _|refine blk_drew ?_|refine blk_alloc ?_ _));refine blk_far ?_ NB683_692.out _;(with_reducible repeat (first|refine blk_drewN ?_ _|refine blk_drew ?_|refine blk_alloc ?_ _));exact BK683.out) hb);have n10_:=Aside0.mk (blk_below (g:=gb692) (o:=.cells #[.bool t684,.slice Ao35 t685.length co35,.slice Ao36 t688.length co36] 25 (0,0)) (by (with_reducible repeat (first|refine blk_drewN ?_ _|refine blk_drew ?_|refine blk_alloc ?_ _));refine blk_put (cs:=#[.bool t684,.slice Ao35 t685.length co35,.slice none 0 0]) ?_ 2 _ rfl;(with_reducible repeat (first|refine blk_drewN ?_ _|refine blk_drew ?_|refine blk_alloc ?_ _));refine blk_put (cs:=#[.bool t684,.slice none 0 0,.slice none 0 0]) ?_ 1 _ rfl;(with_reducible repeat (first|refine blk_drewN ?_ _|refine blk_drew ?_|refine blk_alloc ?_ _));refine blk_put (cs:=#[.bool false,.slice none 0 0,.slice none 0 0]) ?_ 0 _ rfl;(with_reducible repeat (first|refine blk_drewN ?_ _|refine blk_drew ?_|refine blk_alloc ?_ _));exact BK692.out) hb);have n11_:=Aside0.mk (below_step (by repeat (first|with_reducible exact HB.out|apply ba|apply bn|apply b1|refine below_set ?_ GE674.out|refine below_set ?_ GE683.out|refine below_set ?_ GE692.out)) hb);clear HO669;clear HO672;clear HO678;clear HO681;clear HO687;clear HO690;clear BK674;clear BK683;clear BK692;clear HB;have HO669:=n0_;have HO672:=n1_;have HO678:=n2_;have HO681:=n3_;have HO687:=n4_;have HO690:=n5_;have HO696:=n6_;have HO699:=n7_;have BK674:=n8_;have BK683:=n9_;have BK692:=n10_;have HB:=n11_;clear n0_ n1_ n2_ n3_ n4_ n5_ n6_ n7_ n8_ n9_ n10_ n11_)|((with_reducible refine gate_dst (N:=7) rfl ?_);(try (refine gate_guard (by rfl) ?_;dsimp only));refine box_event ?hg (N:=7) ?hd (cs:=#[.bool false,.slice none 0 0,.slice none 0 0]) (t:=25) ?hr ?_;(case hd=>rfl);(case hg=>rfl);(case hr=>first|(go_simp;done)|(go_simp;(with_reducible rfl))|(go_simp;rfl)|(go_simp;simp only [hu,Int.emod_sub_emod]));intro gb701 hg w38 hbox hb;have n0_:=Aside0.mk (Kd.R_below (Ru HO669.out) hb);have n1_:=Aside0.mk (Kd.R_below (Ru HO672.out) hb);have n2_:=Aside0.mk (Kd.R_below (Ru HO678.out) hb);have n3_:=Aside0.mk (Kd.R_below (Ru HO681.out) hb);have n4_:=Aside0.mk (Kd.R_below (Ru HO687.out) hb);have n5_:=Aside0.mk (Kd.R_below (Ru HO690.out) hb);have n6_:=Aside0.mk (Kd.R_below (Ru HO696.out) hb);have n7_:=Aside0.mk (Kd.R_below (Ru HO699.out) hb);have n8_:=Aside0.mk (blk_below (g:=gb674) (o:=.cells #[.bool t666,.slice Ao22 t667.length co22,.slice Ao23 t670.length co23] 25 (0,0)) (Bu BK674.out) hb);have n9_:=Aside0.mk (blk_below (g:=gb683) (o:=.cells #[.bool t675,.slice Ao28 t676.length co28,.slice Ao29 t679.length co29] 25 (0,0)) (Bu BK683.out) hb);have n10_:=Aside0.mk (blk_below (g:=gb692) (o:=.cells #[.bool t684,.slice Ao35 t685.length co35,.slice Ao36 t688.length co36] 25 (0,0)) (Bu BK692.out) hb);have n11_:=Aside0.mk (below_step (by repeat (first|with_reducible exact HB.out|apply ba|apply bn|apply b1|refine below_set ?_ GE674.out|refine below_set ?_ GE683.out|refine below_set ?_ GE692.out)) hb);have n12_:=Aside0.mk (hbox);have n13_:=Aside0.mk ((by rw [hg];exact (below_size (by repeat (first|with_reducible exact HB.out|apply ba|apply bn|apply b1|refine below_set ?_ GE674.out|refine below_set ?_ GE683.out|refine below_set ?_ GE692.out))) : w.heap.size≤gb701));have n14_:=Aside0.mk ((by rw [hg];exact (below_size (by repeat (first|with_reducible exact HB.out|apply ba|apply bn|apply b1|refine below_set ?_ GE674.out|refine below_set ?_ GE683.out|refine below_set ?_ GE692.out))) : w.heap.size≤gb701));have n15_:=Aside0.mk ((by rw [hg];exact Nat.ne_of_lt (blk_lt (g:=gb674) (o:=.cells #[.bool t666,.slice Ao22 t667.length co22,.slice Ao23 t670.length co23] 25 (0,0)) (Bu BK674.out)) : gb674≠gb701));have n16_:=Aside0.mk ((by rw [hg];exact Nat.ne_of_gt (blk_lt (g:=gb674) (o:=.cells #[.bool t666,.slice Ao22 t667.length co22,.slice Ao23 t670.length co23] 25 (0,0)) (Bu BK674.out)) : gb701≠gb674));have n17_:=Aside0.mk ((by rw [hg];exact Nat.ne_of_lt (blk_lt (g:=gb683) (o:=.cells #[.bool t675,.slice Ao28 t676.length co28,.slice Ao29 t679.length co29] 25 (0,0)) (Bu BK683.out)) : gb683≠gb701));have n18_:=Aside0.mk ((by rw [hg];exact Nat.ne_of_gt (blk_lt (g:=gb683) (o:=.cells #[.bool t675,.slice Ao28 t676.length co28,.slice Ao29 t679.length co29] 25 (0,0)) (Bu BK683.out)) : gb701≠gb683));have n19_:=Aside0.mk ((by rw [hg];exact Nat.ne_of_lt (blk_lt (g:=gb692) (o:=.cells #[.bool t684,.slice Ao35 t685.length co35,.slice Ao36 t688.length co36] 25 (0,0)) (Bu BK692.out)) : gb692≠gb701));have n20_:=Aside0.mk ((by rw [hg];exact Nat.ne_of_gt (blk_lt (g:=gb692) (o:=.cells #[.bool t684,.slice Ao35 t685.length co35,.slice Ao36 t688.length co36] 25 (0,0)) (Bu BK692.out)) : gb701≠gb692));clear HO669;clear HO672;clear HO678;clear HO681;clear HO687;clear HO690;clear HO696;clear HO699;clear BK674;clear BK683;clear BK692;clear HB;have HO669:=n0_;have HO672:=n1_;have HO678:=n2_;have HO681:=n3_;have HO687:=n4_;have HO690:=n5_;have HO696:=n6_;have HO699:=n7_;have BK674:=n8_;have BK683:=n9_;have BK692:=n10_;have HB:=n11_;have BK701:=n12_;have GW701:=n13_;have GE701:=n14_;have NB674_701:=n15_;have NB701_674:=n16_;have NB683_701:=n17_;have NB701_683:=n18_;have NB692_701:=n19_;have NB701_692:=n20_;clear n0_ n1_ n2_ n3_ n4_ n5_ n6_ n7_ n8_ n9_ n10_ n11_ n12_ n13_ n14_ n15_ n16_ n17_ n18_ n19_ n20_;clear hb hbox hg;have hnb39:=NB701_674.out;have hnc39:=NB674_701.out;have hnb40:=NB701_683.out;have hnc40:=NB683_701.out;have hnb41:=NB701_692.out;have hnc41:=NB692_701.out;have hcz42_0 : w38.cell? ⟨gb701,0,none⟩=some (.bool false):=(blk_cell BK701.out 0).trans rfl;have hcz42_1 : w38.cell? ⟨gb701,1,none⟩=some (.slice none 0 0):=(blk_cell BK701.out 1).trans rfl;have hcz42_2 : w38.cell? ⟨gb701,2,none⟩=some (.slice none 0 0):=(blk_cell BK701.out 2).trans rfl;have hfz42_0:=blk_frozen BK701.out 0;have hfz42_1:=blk_frozen BK701.out 1;have hfz42_2:=blk_frozen BK701.out 2;obtain ⟨Ao43,co43,eo43⟩:=Kd.R_slice HO696.out;subst eo43;obtain ⟨Ao44,co44,eo44⟩:=Kd.R_slice HO699.out;subst eo44))
   have n0_ : Aside0 (Kd.R (Kd.int .u32) 35 (((w38.setCell ⟨gb701,0,none⟩ (.bool t693)).setCell ⟨gb701,1,none⟩ (.slice Ao43 t694.length co43)).setCell ⟨gb701,2,none⟩ (.slice Ao44 t697.length co44)) w.heap.size (fun k_=>some k_≠(.slice Ao23 t670.length co23 : Value).ownBlock∧some k_≠(.slice Ao28 t676.length co28 : Value).ownBlock∧some k_≠(.slice Ao29 t679.length co29 : Value).ownBlock∧some k_≠(.slice Ao35 t685.length co35 : Value).ownBlock∧some k_≠(.slice Ao36 t688.length co36 : Value).ownBlock∧some k_≠(.slice Ao43 t694.length co43 : Value).ownBlock∧some k_≠(.slice Ao44 t697.length co44 : Value).ownBlock) (.slice Ao22 t667.length co22) t667):=⟨by (with_reducible repeat (first|apply Ra|apply Rn|apply Rd));exact Kd.R_mono (Kd.R_far (p:=⟨gb701,2,none⟩) (Kd.R_far (p:=⟨gb701,1,none⟩) (Kd.R_far (p:=⟨gb701,0,none⟩) (Kd.R_types HO669.out BK701.out (by decide)) (fun _ hk=>hk.2) (.bool t693)) (fun _ hk=>hk.2) (.slice Ao43 t694.length co43)) (fun _ hk=>hk.2) (.slice Ao44 t697.length co44)) (fun _ hk=>⟨hk.1.1.1.1.1.1.1,⟨hk.1.1.1.1.1.1.2,⟨hk.1.1.1.1.1.2,⟨hk.1.1.1.1.2,⟨hk.1.1.1.2,⟨hk.1.1.2,hk.1.2⟩⟩⟩⟩⟩⟩)⟩
   have n1_ : Aside0 (Kd.R (Kd.int .u32) 35 (((w38.setCell ⟨gb701,0,none⟩ (.bool t693)).setCell ⟨gb701,1,none⟩ (.slice Ao43 t694.length co43)).setCell ⟨gb701,2,none⟩ (.slice Ao44 t697.length co44)) w.heap.size (fun k_=>some k_≠(.slice Ao22 t667.length co22 : Value).ownBlock∧some k_≠(.slice Ao28 t676.length co28 : Value).ownBlock∧some k_≠(.slice Ao29 t679.length co29 : Value).ownBlock∧some k_≠(.slice Ao35 t685.length co35 : Value).ownBlock∧some k_≠(.slice Ao36 t688.length co36 : Value).ownBlock∧some k_≠(.slice Ao43 t694.length co43 : Value).ownBlock∧some k_≠(.slice Ao44 t697.length co44 : Value).ownBlock) (.slice Ao23 t670.length co23) t670):=⟨by (with_reducible repeat (first|apply Ra|apply Rn|apply Rd));exact Kd.R_mono (Kd.R_far (p:=⟨gb701,2,none⟩) (Kd.R_far (p:=⟨gb701,1,none⟩) (Kd.R_far (p:=⟨gb701,0,none⟩) (Kd.R_types HO672.out BK701.out (by decide)) (fun _ hk=>hk.2) (.bool t693)) (fun _ hk=>hk.2) (.slice Ao43 t694.length co43)) (fun _ hk=>hk.2) (.slice Ao44 t697.length co44)) (fun _ hk=>⟨hk.1.1.1.1.1.1.1,⟨hk.1.1.1.1.1.1.2,⟨hk.1.1.1.1.1.2,⟨hk.1.1.1.1.2,⟨hk.1.1.1.2,⟨hk.1.1.2,hk.1.2⟩⟩⟩⟩⟩⟩)⟩
   have n2_ : Aside0 (Kd.R (Kd.int .u32) 35 (((w38.setCell ⟨gb701,0,none⟩ (.bool t693)).setCell ⟨gb701,1,none⟩ (.slice Ao43 t694.length co43)).setCell ⟨gb701,2,none⟩ (.slice Ao44 t697.length co44)) w.heap.size (fun k_=>some k_≠(.slice Ao22 t667.length co22 : Value).ownBlock∧some k_≠(.slice Ao23 t670.length co23 : Value).ownBlock∧some k_≠(.slice Ao29 t679.length co29 : Value).ownBlock∧some k_≠(.slice Ao35 t685.length co35 : Value).ownBlock∧some k_≠(.slice Ao36 t688.length co36 : Value).ownBlock∧some k_≠(.slice Ao43 t694.length co43 : Value).ownBlock∧some k_≠(.slice Ao44 t697.length co44 : Value).ownBlock) (.slice Ao28 t676.length co28) t676):=⟨by (with_reducible repeat (first|apply Ra|apply Rn|apply Rd));exact Kd.R_mono (Kd.R_far (p:=⟨gb701,2,none⟩) (Kd.R_far (p:=⟨gb701,1,none⟩) (Kd.R_far (p:=⟨gb701,0,none⟩) (Kd.R_types HO678.out BK701.out (by decide)) (fun _ hk=>hk.2) (.bool t693)) (fun _ hk=>hk.2) (.slice Ao43 t694.length co43)) (fun _ hk=>hk.2) (.slice Ao44 t697.length co44)) (fun _ hk=>⟨hk.1.1.1.1.1.1.2,⟨hk.1.1.1.1.1.2,⟨hk.1.1.1.1.1.1.1,⟨hk.1.1.1.1.2,⟨hk.1.1.1.2,⟨hk.1.1.2,hk.1.2⟩⟩⟩⟩⟩⟩)⟩
   have n3_ : Aside0 (Kd.R (Kd.int .u32) 35 (((w38.setCell ⟨gb701,0,none⟩ (.bool t693)).setCell ⟨gb701,1,none⟩ (.slice Ao43 t694.length co43)).setCell ⟨gb701,2,none⟩ (.slice Ao44 t697.length co44)) w.heap.size (fun k_=>some k_≠(.slice Ao22 t667.length co22 : Value).ownBlock∧some k_≠(.slice Ao23 t670.length co23 : Value).ownBlock∧some k_≠(.slice Ao28 t676.length co28 : Value).ownBlock∧some k_≠(.slice Ao35 t685.length co35 : Value).ownBlock∧some k_≠(.slice Ao36 t688.length co36 : Value).ownBlock∧some k_≠(.slice Ao43 t694.length co43 : Value).ownBlock∧some k_≠(.slice Ao44 t697.length co44 : Value).ownBlock) (.slice Ao29 t679.length co29) t679):=⟨by (with_reducible repeat (first|apply Ra|apply Rn|apply Rd));exact Kd.R_mono (Kd.R_far (p:=⟨gb701,2,none⟩) (Kd.R_far (p:=⟨gb701,1,none⟩) (Kd.R_far (p:=⟨gb701,0,none⟩) (Kd.R_types HO681.out BK701.out (by decide)) (fun _ hk=>hk.2) (.bool t693)) (fun _ hk=>hk.2) (.slice Ao43 t694.length co43)) (fun _ hk=>hk.2) (.slice Ao44 t697.length co44)) (fun _ hk=>⟨hk.1.1.1.1.1.1.2,⟨hk.1.1.1.1.1.2,⟨hk.1.1.1.1.1.1.1,⟨hk.1.1.1.1.2,⟨hk.1.1.1.2,⟨hk.1.1.2,hk.1.2⟩⟩⟩⟩⟩⟩)⟩
   have n4_ : Aside0 (Kd.R (Kd.int .u32) 35 (((w38.setCell ⟨gb701,0,none⟩ (.bool t693)).setCell ⟨gb701,1,none⟩ (.slice Ao43 t694.length co43)).setCell ⟨gb701,2,none⟩ (.slice Ao44 t697.length co44)) w.heap.size (fun k_=>some k_≠(.slice Ao22 t667.length co22 : Value).ownBlock∧some k_≠(.slice Ao23 t670.length co23 : Value).ownBlock∧some k_≠(.slice Ao28 t676.length co28 : Value).ownBlock∧some k_≠(.slice Ao29 t679.length co29 : Value).ownBlock∧some k_≠(.slice Ao36 t688.length co36 : Value).ownBlock∧some k_≠(.slice Ao43 t694.length co43 : Value).ownBlock∧some k_≠(.slice Ao44 t697.length co44 : Value).ownBlock) (.slice Ao35 t685.length co35) t685):=⟨by (with_reducible repeat (first|apply Ra|apply Rn|apply Rd));exact Kd.R_mono (Kd.R_far (p:=⟨gb701,2,none⟩) (Kd.R_far (p:=⟨gb701,1,none⟩) (Kd.R_far (p:=⟨gb701,0,none⟩) (Kd.R_types HO687.out BK701.out (by decide)) (fun _ hk=>hk.2) (.bool t693)) (fun _ hk=>hk.2) (.slice Ao43 t694.length co43)) (fun _ hk=>hk.2) (.slice Ao44 t697.length co44)) (fun _ hk=>⟨hk.1.1.1.1.1.1.2,⟨hk.1.1.1.1.1.2,⟨hk.1.1.1.1.2,⟨hk.1.1.1.2,⟨hk.1.1.1.1.1.1.1,⟨hk.1.1.2,hk.1.2⟩⟩⟩⟩⟩⟩)⟩
   have n5_ : Aside0 (Kd.R (Kd.int .u32) 35 (((w38.setCell ⟨gb701,0,none⟩ (.bool t693)).setCell ⟨gb701,1,none⟩ (.slice Ao43 t694.length co43)).setCell ⟨gb701,2,none⟩ (.slice Ao44 t697.length co44)) w.heap.size (fun k_=>some k_≠(.slice Ao22 t667.length co22 : Value).ownBlock∧some k_≠(.slice Ao23 t670.length co23 : Value).ownBlock∧some k_≠(.slice Ao28 t676.length co28 : Value).ownBlock∧some k_≠(.slice Ao29 t679.length co29 : Value).ownBlock∧some k_≠(.slice Ao35 t685.length co35 : Value).ownBlock∧some k_≠(.slice Ao43 t694.length co43 : Value).ownBlock∧some k_≠(.slice Ao44 t697.length co44 : Value).ownBlock) (.slice Ao36 t688.length co36) t688):=⟨by (with_reducible repeat (first|apply Ra|apply Rn|apply Rd));exact Kd.R_mono (Kd.R_far (p:=⟨gb701,2,none⟩) (Kd.R_far (p:=⟨gb701,1,none⟩) (Kd.R_far (p:=⟨gb701,0,none⟩) (Kd.R_types HO690.out BK701.out (by decide)) (fun _ hk=>hk.2) (.bool t693)) (fun _ hk=>hk.2) (.slice Ao43 t694.length co43)) (fun _ hk=>hk.2) (.slice Ao44 t697.length co44)) (fun _ hk=>⟨hk.1.1.1.1.1.1.2,⟨hk.1.1.1.1.1.2,⟨hk.1.1.1.1.2,⟨hk.1.1.1.2,⟨hk.1.1.1.1.1.1.1,⟨hk.1.1.2,hk.1.2⟩⟩⟩⟩⟩⟩)⟩
   have n6_ : Aside0 (Kd.R (Kd.int .u32) 35 (((w38.setCell ⟨gb701,0,none⟩ (.bool t693)).setCell ⟨gb701,1,none⟩ (.slice Ao43 t694.length co43)).setCell ⟨gb701,2,none⟩ (.slice Ao44 t697.length co44)) w.heap.size (fun k_=>some k_≠(.slice Ao22 t667.length co22 : Value).ownBlock∧some k_≠(.slice Ao23 t670.length co23 : Value).ownBlock∧some k_≠(.slice Ao28 t676.length co28 : Value).ownBlock∧some k_≠(.slice Ao29 t679.length co29 : Value).ownBlock∧some k_≠(.slice Ao35 t685.length co35 : Value).ownBlock∧some k_≠(.slice Ao36 t688.length co36 : Value).ownBlock∧some k_≠(.slice Ao44 t697.length co44 : Value).ownBlock) (.slice Ao43 t694.length co43) t694):=⟨by (with_reducible repeat (first|apply Ra|apply Rn|apply Rd));exact Kd.R_mono (Kd.R_far (p:=⟨gb701,2,none⟩) (Kd.R_far (p:=⟨gb701,1,none⟩) (Kd.R_far (p:=⟨gb701,0,none⟩) (Kd.R_types HO696.out BK701.out (by decide)) (fun _ hk=>hk.2) (.bool t693)) (fun _ hk=>hk.2) (.slice Ao43 t694.length co43)) (fun _ hk=>hk.2) (.slice Ao44 t697.length co44)) (fun _ hk=>⟨hk.1.1.1.1.1.1.2,⟨hk.1.1.1.1.1.2,⟨hk.1.1.1.1.2,⟨hk.1.1.1.2,⟨hk.1.1.2,⟨hk.1.2,hk.1.1.1.1.1.1.1⟩⟩⟩⟩⟩⟩)⟩
   have n7_ : Aside0 (Kd.R (Kd.int .u32) 35 (((w38.setCell ⟨gb701,0,none⟩ (.bool t693)).setCell ⟨gb701,1,none⟩ (.slice Ao43 t694.length co43)).setCell ⟨gb701,2,none⟩ (.slice Ao44 t697.length co44)) w.heap.size (fun k_=>some k_≠(.slice Ao22 t667.length co22 : Value).ownBlock∧some k_≠(.slice Ao23 t670.length co23 : Value).ownBlock∧some k_≠(.slice Ao28 t676.length co28 : Value).ownBlock∧some k_≠(.slice Ao29 t679.length co29 : Value).ownBlock∧some k_≠(.slice Ao35 t685.length co35 : Value).ownBlock∧some k_≠(.slice Ao36 t688.length co36 : Value).ownBlock∧some k_≠(.slice Ao43 t694.length co43 : Value).ownBlock) (.slice Ao44 t697.length co44) t697):=⟨by (with_reducible repeat (first|apply Ra|apply Rn|apply Rd));exact Kd.R_mono (Kd.R_far (p:=⟨gb701,2,none⟩) (Kd.R_far (p:=⟨gb701,1,none⟩) (Kd.R_far (p:=⟨gb701,0,none⟩) (Kd.R_types HO699.out BK701.out (by decide)) (fun _ hk=>hk.2) (.bool t693)) (fun _ hk=>hk.2) (.slice Ao43 t694.length co43)) (fun _ hk=>hk.2) (.slice Ao44 t697.length co44)) (fun _ hk=>⟨hk.1.1.1.1.1.1.2,⟨hk.1.1.1.1.1.2,⟨hk.1.1.1.1.2,⟨hk.1.1.1.2,⟨hk.1.1.2,⟨hk.1.2,hk.1.1.1.1.1.1.1⟩⟩⟩⟩⟩⟩)⟩
   have n8_ : Aside0 ((((w38.setCell ⟨gb701,0,none⟩ (.bool t693)).setCell ⟨gb701,1,none⟩ (.slice Ao43 t694.length co43)).setCell ⟨gb701,2,none⟩ (.slice Ao44 t697.length co44)).heap[gb674]? = some (.cells #[.bool t666,.slice Ao22 t667.length co22,.slice Ao23 t670.length co23] 25 (0,0))):=⟨by (with_reducible repeat (first|refine blk_drewN ?_ _|refine blk_drew ?_|refine blk_alloc ?_ _));refine blk_far ?_ NB674_701.out _;(with_reducible repeat (first|refine blk_drewN ?_ _|refine blk_drew ?_|refine blk_alloc ?_ _));refine blk_far ?_ NB674_701.out _;(with_reducible repeat (first|refine blk_drewN ?_ _|refine blk_drew ?_|refine blk_alloc ?_ _));refine blk_far ?_ NB674_701.out _;(with_reducible repeat (first|refine blk_drewN ?_ _|refine blk_drew ?_|refine blk_alloc ?_ _));exact BK674.out⟩
   have n9_ : Aside0 ((((w38.setCell ⟨gb701,0,none⟩ (.bool t693)).setCell ⟨gb701,1,none⟩ (.slice Ao43 t694.length co43)).setCell ⟨gb701,2,none⟩ (.slice Ao44 t697.length co44)).heap[gb683]? = some (.cells #[.bool t675,.slice Ao28 t676.length co28,.slice Ao29 t679.length co29] 25 (0,0))):=⟨by (with_reducible repeat (first|refine blk_drewN ?_ _|refine blk_drew ?_|refine blk_alloc ?_ _));refine blk_far ?_ NB683_701.out _;(with_reducible repeat (first|refine blk_drewN ?_ _|refine blk_drew ?_|refine blk_alloc ?_ _));refine blk_far ?_ NB683_701.out _;(with_reducible repeat (first|refine blk_drewN ?_ _|refine blk_drew ?_|refine blk_alloc ?_ _));refine blk_far ?_ NB683_701.out _;(with_reducible repeat (first|refine blk_drewN ?_ _|refine blk_drew ?_|refine blk_alloc ?_ _));exact BK683.out⟩
   have n10_ : Aside0 ((((w38.setCell ⟨gb701,0,none⟩ (.bool t693)).setCell ⟨gb701,1,none⟩ (.slice Ao43 t694.length co43)).setCell ⟨gb701,2,none⟩ (.slice Ao44 t697.length co44)).heap[gb692]? = some (.cells #[.bool t684,.slice Ao35 t685.length co35,.slice Ao36 t688.length co36] 25 (0,0))):=⟨by (with_reducible repeat (first|refine blk_drewN ?_ _|refine blk_drew ?_|refine blk_alloc ?_ _));refine blk_far ?_ NB692_701.out _;(with_reducible repeat (first|refine blk_drewN ?_ _|refine blk_drew ?_|refine blk_alloc ?_ _));refine blk_far ?_ NB692_701.out _;(with_reducible repeat (first|refine blk_drewN ?_ _|refine blk_drew ?_|refine blk_alloc ?_ _));refine blk_far ?_ NB692_701.out _;(with_reducible repeat (first|refine blk_drewN ?_ _|refine blk_drew ?_|refine blk_alloc ?_ _));exact BK692.out⟩
   have n11_ : Aside0 ((((w38.setCell ⟨gb701,0,none⟩ (.bool t693)).setCell ⟨gb701,1,none⟩ (.slice Ao43 t694.length co43)).setCell ⟨gb701,2,none⟩ (.slice Ao44 t697.length co44)).heap[gb701]? = some (.cells #[.bool t693,.slice Ao43 t694.length co43,.slice Ao44 t697.length co44] 25 (0,0))):=⟨by (with_reducible repeat (first|refine blk_drewN ?_ _|refine blk_drew ?_|refine blk_alloc ?_ _));refine blk_put (cs:=#[.bool t693,.slice Ao43 t694.length co43,.slice none 0 0]) ?_ 2 _ rfl;(with_reducible repeat (first|refine blk_drewN ?_ _|refine blk_drew ?_|refine blk_alloc ?_ _));refine blk_put (cs:=#[.bool t693,.slice none 0 0,.slice none 0 0]) ?_ 1 _ rfl;(with_reducible repeat (first|refine blk_drewN ?_ _|refine blk_drew ?_|refine blk_alloc ?_ _));refine blk_put (cs:=#[.bool false,.slice none 0 0,.slice none 0 0]) ?_ 0 _ rfl;(with_reducible repeat (first|refine blk_drewN ?_ _|refine blk_drew ?_|refine blk_alloc ?_ _));exact BK701.out⟩
   have n12_ : Aside0 (Below w.heap.size w (((w38.setCell ⟨gb701,0,none⟩ (.bool t693)).setCell ⟨gb701,1,none⟩ (.slice Ao43 t694.length co43)).setCell ⟨gb701,2,none⟩ (.slice Ao44 t697.length co44))):=⟨by repeat (first|with_reducible exact HB.out|apply ba|apply bn|apply b1|refine below_set ?_ GE674.out|refine below_set ?_ GE683.out|refine below_set ?_ GE692.out|refine below_set ?_ GE701.out)⟩
   (try clear HO669)
   (try clear HO672)
   (try clear HO678)
   (try clear HO681)
   (try clear HO687)
   (try clear HO690)
   (try clear HO696)
   (try clear HO699)
   (try clear BK674)
   (try clear BK683)
   (try clear BK692)
   (try clear BK701)
   (try clear HB)
   generalize (((w38.setCell ⟨gb701,0,none⟩ (.bool t693)).setCell ⟨gb701,1,none⟩ (.slice Ao43 t694.length co43)).setCell ⟨gb701,2,none⟩ (.slice Ao44 t697.length co44))=w45 at n0_ n1_ n2_ n3_ n4_ n5_ n6_ n7_ n8_ n9_ n10_ n11_ n12_ ⊢
   have HO669:=n0_
   have HO672:=n1_
   have HO678:=n2_
   have HO681:=n3_
   have HO687:=n4_
   have HO690:=n5_
   have HO696:=n6_
   have HO699:=n7_
   have BK674:=n8_
   have BK683:=n9_
   have BK692:=n10_
   have BK701:=n11_
   have HB:=n12_
   clear n0_ n1_ n2_ n3_ n4_ n5_ n6_ n7_ n8_ n9_ n10_ n11_ n12_
   have n0_:=Aside0.mk (Rd HO669.out)
   have n1_:=Aside0.mk (Rd HO672.out)
   have n2_:=Aside0.mk (Rd HO678.out)
   have n3_:=Aside0.mk (Rd HO681.out)
   have n4_:=Aside0.mk (Rd HO687.out)
   have n5_:=Aside0.mk (Rd HO690.out)
   have n6_:=Aside0.mk (Rd HO696.out)
   have n7_:=Aside0.mk (Rd HO699.out)
   have n8_:=Aside0.mk (blk_drew BK674.out)
   have n9_:=Aside0.mk (blk_drew BK683.out)
   have n10_:=Aside0.mk (blk_drew BK692.out)
   have n11_:=Aside0.mk (blk_drew BK701.out)
   have n12_:=Aside0.mk (b1 HB.out)
   clear HO669
   clear HO672
   clear HO678
   clear HO681
   clear HO687
   clear HO690
   clear HO696
   clear HO699
   clear BK674
   clear BK683
   clear BK692
   clear BK701
   clear HB
   have HO669:=n0_
   have HO672:=n1_
   have HO678:=n2_
   have HO681:=n3_
   have HO687:=n4_
   have HO690:=n5_
   have HO696:=n6_
   have HO699:=n7_
   have BK674:=n8_
   have BK683:=n9_
   have BK692:=n10_
   have BK701:=n11_
   have HB:=n12_
   clear n0_ n1_ n2_ n3_ n4_ n5_ n6_ n7_ n8_ n9_ n10_ n11_ n12_
   refine start_ (n:=35) (S:=fun w'=>w'.cell? ⟨gb674,0,none⟩=some (.bool t666)∧w'.cell? ⟨gb674,1,none⟩=some (.slice Ao22 t667.length co22)∧w'.cell? ⟨gb674,2,none⟩=some (.slice Ao23 t670.length co23)∧w'.cell? ⟨gb683,0,none⟩=some (.bool t675)∧w'.cell? ⟨gb683,1,none⟩=some (.slice Ao28 t676.length co28)∧w'.cell? ⟨gb683,2,none⟩=some (.slice Ao29 t679.length co29)) (ds:=[]) #[false,false,false,false,false,false,false,false,false,false,false,false,false,false,false,false,false,false,false,false,false,false,false,false,false,false,false,false,false,false,false,false,false,false,false] (by kernel_rfl) rfl rfl ⟨(blk_cell BK674.out 0).trans rfl,(blk_cell BK674.out 1).trans rfl,(blk_cell BK674.out 2).trans rfl,(blk_cell BK683.out 0).trans rfl,(blk_cell BK683.out 1).trans rfl,(blk_cell BK683.out 2).trans rfl⟩ (fun hHeld=>?_);refine with_tabW penumbralaw04_fixed.tab5 penumbralaw04_fixed.bits5 (fun HT_ HW_=>?_)
   generalize w45.drew=w46 at HO669 HO672 HO678 HO681 HO687 HO690 HO696 HO699 BK674 BK683 BK692 BK701 HB hHeld ⊢
   refine pv (i:=0) (N:=some 25) (v:=?_) (a':=?_) rfl rfl (any_of HT_.out (by kernel_rfl)) (Or.inl ⟨by rfl,?_⟩) ?_ ?_
   rotate_left
   ·intro w'
    go_simp
    with_reducible rfl
   rotate_left
   ·simp only [Act.put,s0,s1,s2,i64_w,i32_w]
    rfl
   refine pv (i:=1) (N:=some 26) (v:=?_) (a':=?_) rfl rfl (any_of HT_.out (by kernel_rfl)) (Or.inl ⟨by rfl,?_⟩) ?_ ?_
   rotate_left
   ·intro w'
    go_simp
    with_reducible rfl
   rotate_left
   ·simp only [Act.put,s0,s1,s2,i64_w,i32_w]
    rfl
   refine pv (i:=2) (N:=some 27) (v:=?_) (a':=?_) rfl rfl (any_of HT_.out (by kernel_rfl)) (Or.inl ⟨by rfl,?_⟩) ?_ ?_
   rotate_left
   ·intro w'
    go_simp
    with_reducible rfl
   rotate_left
   ·simp only [Act.put,s0,s1,s2,i64_w,i32_w]
    rfl
   refine take_ (i:=3) (N:=some 28) (v:=?_) (a':=?_) #[true,true,true,true,false,false,false,false,false,false,false,false,false,false,false,false,false,false,false,false,false,false,false,false,false,false,false,false,false,false,false,false,false,false,false] rfl rfl (take_ofW HT_.out HW_.out (by kernel_rfl)) (fun _ _ _ h=>h) (Or.inl ⟨by rfl,?_⟩) hHeld ?_ ?_
   rotate_left
   ·rintro w' ⟨s0,s1,s2,s3,s4,s5⟩
    go_simp
    with_reducible rfl
   rotate_left
   ·simp only [Act.put,s0,s1,s2,i64_w,i32_w]
    rfl
   refine one_ (i:=4) (N:=some 29) #[true,true,true,true,true,false,false,false,false,false,false,false,false,false,false,false,false,false,false,false,false,false,false,false,false,false,false,false,false,false,false,false,false,false,false] rfl rfl (one_of HT_.out (by kernel_rfl)) (by decide) (fun K hK=>?_)
   refine goes_ Tryd.func23 (by kernel_rfl) rfl #[.int .i64 1,.int .i64 8] (by rfl) rfl rfl (by (try simp only [List.map_toArray,List.map_cons,List.map_nil]);first|done|rfl) ?_
   with_reducible refine (penumbraref03_Of.calls k 1 8 t702 t703 t706 _ A6.out).mono ?_
   rintro e w47 ⟨v704,v707,rfl,ho0,ho1,hb⟩
   refine ⟨_,rfl,?_⟩
   have n0_:=Aside0.mk (Kd.R_mono (Kd.R_told (Kd.R_told (Kd.R_old (Ru HO669.out) hb) (Kd.R_base ho0)) (Kd.R_base ho1)) (fun _ h_=>h_.1))
   have n1_:=Aside0.mk (Kd.R_mono (Kd.R_told (Kd.R_told (Kd.R_old (Ru HO672.out) hb) (Kd.R_base ho0)) (Kd.R_base ho1)) (fun _ h_=>h_.1))
   have n2_:=Aside0.mk (Kd.R_mono (Kd.R_told (Kd.R_told (Kd.R_old (Ru HO678.out) hb) (Kd.R_base ho0)) (Kd.R_base ho1)) (fun _ h_=>h_.1))
   have n3_:=Aside0.mk (Kd.R_mono (Kd.R_told (Kd.R_told (Kd.R_old (Ru HO681.out) hb) (Kd.R_base ho0)) (Kd.R_base ho1)) (fun _ h_=>h_.1))
   have n4_:=Aside0.mk (Kd.R_mono (Kd.R_told (Kd.R_told (Kd.R_old (Ru HO687.out) hb) (Kd.R_base ho0)) (Kd.R_base ho1)) (fun _ h_=>h_.1))
   have n5_:=Aside0.mk (Kd.R_mono (Kd.R_told (Kd.R_told (Kd.R_old (Ru HO690.out) hb) (Kd.R_base ho0)) (Kd.R_base ho1)) (fun _ h_=>h_.1))
   have n6_:=Aside0.mk (Kd.R_mono (Kd.R_told (Kd.R_told (Kd.R_old (Ru HO696.out) hb) (Kd.R_base ho0)) (Kd.R_base ho1)) (fun _ h_=>h_.1))
   have n7_:=Aside0.mk (Kd.R_mono (Kd.R_told (Kd.R_told (Kd.R_old (Ru HO699.out) hb) (Kd.R_base ho0)) (Kd.R_base ho1)) (fun _ h_=>h_.1))
   have n8_:=Aside0.mk (Kd.R_lower (Kd.R_new' (Kd.R_new' (Kd.R_new' (Kd.R_new' (Kd.R_new' (Kd.R_new' (Kd.R_new' (Kd.R_new' ho0 (Kd.R_lt (Ru HO669.out))) (Kd.R_lt (Ru HO672.out))) (Kd.R_lt (Ru HO678.out))) (Kd.R_lt (Ru HO681.out))) (Kd.R_lt (Ru HO687.out))) (Kd.R_lt (Ru HO690.out))) (Kd.R_lt (Ru HO696.out))) (Kd.R_lt (Ru HO699.out))) (below_size (by repeat (first|with_reducible exact HB.out|apply ba|apply bn|apply b1|refine below_set ?_ GE674.out|refine below_set ?_ GE683.out|refine below_set ?_ GE692.out|refine below_set ?_ GE701.out))))
   have n9_:=Aside0.mk (Kd.R_lower (Kd.R_new' (Kd.R_new' (Kd.R_new' (Kd.R_new' (Kd.R_new' (Kd.R_new' (Kd.R_new' (Kd.R_new' ho1 (Kd.R_lt (Ru HO669.out))) (Kd.R_lt (Ru HO672.out))) (Kd.R_lt (Ru HO678.out))) (Kd.R_lt (Ru HO681.out))) (Kd.R_lt (Ru HO687.out))) (Kd.R_lt (Ru HO690.out))) (Kd.R_lt (Ru HO696.out))) (Kd.R_lt (Ru HO699.out))) (below_size (by repeat (first|with_reducible exact HB.out|apply ba|apply bn|apply b1|refine below_set ?_ GE674.out|refine below_set ?_ GE683.out|refine below_set ?_ GE692.out|refine below_set ?_ GE701.out))))
   have n10_:=Aside0.mk (blk_below (g:=gb674) (o:=.cells #[.bool t666,.slice Ao22 t667.length co22,.slice Ao23 t670.length co23] 25 (0,0)) (Bu BK674.out) hb)
   have n11_:=Aside0.mk (blk_below (g:=gb683) (o:=.cells #[.bool t675,.slice Ao28 t676.length co28,.slice Ao29 t679.length co29] 25 (0,0)) (Bu BK683.out) hb)
   have n12_:=Aside0.mk (blk_below (g:=gb692) (o:=.cells #[.bool t684,.slice Ao35 t685.length co35,.slice Ao36 t688.length co36] 25 (0,0)) (Bu BK692.out) hb)
   have n13_:=Aside0.mk (blk_below (g:=gb701) (o:=.cells #[.bool t693,.slice Ao43 t694.length co43,.slice Ao44 t697.length co44] 25 (0,0)) (Bu BK701.out) hb)
   have n14_:=Aside0.mk (below_step (by repeat (first|with_reducible exact HB.out|apply ba|apply bn|apply b1|refine below_set ?_ GE674.out|refine below_set ?_ GE683.out|refine below_set ?_ GE692.out|refine below_set ?_ GE701.out)) hb)
   clear HO669
   clear HO672
   clear HO678
   clear HO681
   clear HO687
   clear HO690
   clear HO696
   clear HO699
   clear BK674
   clear BK683
   clear BK692
   clear BK701
   clear HB
   have HO669:=n0_
   have HO672:=n1_
   have HO678:=n2_
   have HO681:=n3_
   have HO687:=n4_
   have HO690:=n5_
   have HO696:=n6_
   have HO699:=n7_
   have HO705:=n8_
   have HO708:=n9_
   have BK674:=n10_
   have BK683:=n11_
   have BK692:=n12_
   have BK701:=n13_
   have HB:=n14_
   clear n0_ n1_ n2_ n3_ n4_ n5_ n6_ n7_ n8_ n9_ n10_ n11_ n12_ n13_ n14_
   (try clear hb)
   (try clear hb2)
   (try clear hk)
   (try clear hi)
   (try clear ho0)
   (try clear ho1)
   obtain ⟨Ao48,co48,eo48⟩:=Kd.R_slice HO705.out
   (first|subst eo48|(injection eo48 with f1_ f2_ f3_;have f4_:=f1_.symm;have f5_:=f3_.symm;clear f1_ f2_ f3_;subst f4_;subst f5_))
   obtain ⟨Ao49,co49,eo49⟩:=Kd.R_slice HO708.out
   (first|subst eo49|(injection eo49 with f1_ f2_ f3_;have f4_:=f1_.symm;have f5_:=f3_.symm;clear f1_ f2_ f3_;subst f4_;subst f5_))
   refine hK.out _ _ ⟨(blk_cell BK674.out 0).trans rfl,(blk_cell BK674.out 1).trans rfl,(blk_cell BK674.out 2).trans rfl,(blk_cell BK683.out 0).trans rfl,(blk_cell BK683.out 1).trans rfl,(blk_cell BK683.out 2).trans rfl⟩ (fun hHeld=>?_)
   clear hK K
   refine norm_ (a':=?_) ?_ ?_
   rotate_left
   ·show Act.put _ (some 29) _=_
    simp only [Act.put,s0,s1,s2,i64_w,i32_w]
    rfl
   refine one_ (i:=5) (N:=some 30) #[true,true,true,true,true,true,false,false,false,false,false,false,false,false,false,false,false,false,false,false,false,false,false,false,false,false,false,false,false,false,false,false,false,false,false] rfl rfl (one_of HT_.out (by kernel_rfl)) (by decide) (fun K hK=>?_)
   refine goes_ Tryd.func11 (by kernel_rfl) rfl #[.agg #[.bool t666,.slice Ao22 t667.length co22,.slice Ao23 t670.length co23],.agg #[.bool t702,.slice Ao48 t703.length co48,.slice Ao49 t706.length co49]] (by rfl) rfl rfl (by (try simp only [List.map_toArray,List.map_cons,List.map_nil]);first|done|rfl) ?_
   with_reducible refine (penumbraref03_Is.calls k t666 _ _ t667 _ _ t670 t702 _ _ t703 _ _ t706 true _ ?side1 ?side2 ?side3 ?side4 ?side5 ?side6 ?side7 ?side8 A7.out).mono ?_
   (case side1=>exact Cu (Kd.R_reads' HO669.out).2.2)
   (case side2=>exact (Kd.R_reads' HO669.out).2.1)
   (case side3=>exact Cu (Kd.R_reads' HO672.out).2.2)
   (case side4=>exact (Kd.R_reads' HO672.out).2.1)
   (case side5=>exact Cu (Kd.R_reads' HO705.out).2.2)
   (case side6=>exact (Kd.R_reads' HO705.out).2.1)
   (case side7=>exact Cu (Kd.R_reads' HO708.out).2.2)
   (case side8=>exact (Kd.R_reads' HO708.out).2.1)
   rintro e w50 ⟨rfl,hb⟩
   refine ⟨_,rfl,?_⟩
   have n0_:=Aside0.mk (Kd.R_below (Ru HO669.out) hb)
   have n1_:=Aside0.mk (Kd.R_below (Ru HO672.out) hb)
   have n2_:=Aside0.mk (Kd.R_below (Ru HO678.out) hb)
   have n3_:=Aside0.mk (Kd.R_below (Ru HO681.out) hb)
   have n4_:=Aside0.mk (Kd.R_below (Ru HO687.out) hb)
   have n5_:=Aside0.mk (Kd.R_below (Ru HO690.out) hb)
   have n6_:=Aside0.mk (Kd.R_below (Ru HO696.out) hb)
   have n7_:=Aside0.mk (Kd.R_below (Ru HO699.out) hb)
   have n8_:=Aside0.mk (Kd.R_below (Ru HO705.out) hb)
   have n9_:=Aside0.mk (Kd.R_below (Ru HO708.out) hb)
   have n10_:=Aside0.mk (blk_below (g:=gb674) (o:=.cells #[.bool t666,.slice Ao22 t667.length co22,.slice Ao23 t670.length co23] 25 (0,0)) (Bu BK674.out) hb)
   have n11_:=Aside0.mk (blk_below (g:=gb683) (o:=.cells #[.bool t675,.slice Ao28 t676.length co28,.slice Ao29 t679.length co29] 25 (0,0)) (Bu BK683.out) hb)
   have n12_:=Aside0.mk (blk_below (g:=gb692) (o:=.cells #[.bool t684,.slice Ao35 t685.length co35,.slice Ao36 t688.length co36] 25 (0,0)) (Bu BK692.out) hb)
   have n13_:=Aside0.mk (blk_below (g:=gb701) (o:=.cells #[.bool t693,.slice Ao43 t694.length co43,.slice Ao44 t697.length co44] 25 (0,0)) (Bu BK701.out) hb)
   have n14_:=Aside0.mk (below_step (by repeat (first|with_reducible exact HB.out|apply ba|apply bn|apply b1|refine below_set ?_ GE674.out|refine below_set ?_ GE683.out|refine below_set ?_ GE692.out|refine below_set ?_ GE701.out)) hb)
   clear HO669
   clear HO672
   clear HO678
   clear HO681
   clear HO687
   clear HO690
   clear HO696
   clear HO699
   clear HO705
   clear HO708
   clear BK674
   clear BK683
   clear BK692
   clear BK701
   clear HB
   have HO669:=n0_
   have HO672:=n1_
   have HO678:=n2_
   have HO681:=n3_
   have HO687:=n4_
   have HO690:=n5_
   have HO696:=n6_
   have HO699:=n7_
   have HO705:=n8_
   have HO708:=n9_
   have BK674:=n10_
   have BK683:=n11_
   have BK692:=n12_
   have BK701:=n13_
   have HB:=n14_
   clear n0_ n1_ n2_ n3_ n4_ n5_ n6_ n7_ n8_ n9_ n10_ n11_ n12_ n13_ n14_
   (try clear hb)
   (try clear hb2)
   (try clear hk)
   (try clear hi)
   refine hK.out _ _ ⟨(blk_cell BK674.out 0).trans rfl,(blk_cell BK674.out 1).trans rfl,(blk_cell BK674.out 2).trans rfl,(blk_cell BK683.out 0).trans rfl,(blk_cell BK683.out 1).trans rfl,(blk_cell BK683.out 2).trans rfl⟩ (fun hHeld=>?_)
   clear hK K
   refine norm_ (a':=?_) ?_ ?_
   rotate_left
   ·show Act.put _ (some 30) _=_
    simp only [Act.put,s0,s1,s2,i64_w,i32_w]
    rfl
   refine pv (i:=6) (N:=some 31) (v:=?_) (a':=?_) rfl rfl (any_of HT_.out (by kernel_rfl)) (Or.inl ⟨by rfl,?_⟩) ?_ ?_
   rotate_left
   ·intro w'
    go_simp
    with_reducible rfl
   rotate_left
   ·simp only [Act.put,s0,s1,s2,i64_w,i32_w]
    rfl
   refine pv (i:=7) (N:=some 32) (v:=?_) (a':=?_) rfl rfl (any_of HT_.out (by kernel_rfl)) (Or.inl ⟨by rfl,?_⟩) ?_ ?_
   rotate_left
   ·intro w'
    go_simp
    with_reducible rfl
   rotate_left
   ·simp only [Act.put,s0,s1,s2,i64_w,i32_w]
    rfl
   refine pv (i:=8) (N:=some 33) (v:=?_) (a':=?_) rfl rfl (any_of HT_.out (by kernel_rfl)) (Or.inl ⟨by rfl,?_⟩) ?_ ?_
   rotate_left
   ·intro w'
    go_simp
    with_reducible rfl
   rotate_left
   ·simp only [Act.put,s0,s1,s2,i64_w,i32_w]
    rfl
   refine pv (i:=9) (N:=some 34) (v:=?_) (a':=?_) rfl rfl (any_of HT_.out (by kernel_rfl)) (Or.inl ⟨by rfl,?_⟩) ?_ ?_
   rotate_left
   ·intro w'
    go_simp
    with_reducible rfl
   rotate_left
   ·simp only [Act.put,s0,s1,s2,i64_w,i32_w]
    rfl
   refine pv (i:=10) (N:=some 35) (v:=?_) (a':=?_) rfl rfl (any_of HT_.out (by kernel_rfl)) (Or.inl ⟨by rfl,?_⟩) ?_ ?_
   rotate_left
   ·intro w'
    go_simp
    with_reducible rfl
   rotate_left
   ·simp only [Act.put,s0,s1,s2,i64_w,i32_w]
    rfl
   refine pv (i:=11) (N:=some 36) (v:=?_) (a':=?_) rfl rfl (any_of HT_.out (by kernel_rfl)) (Or.inl ⟨by rfl,?_⟩) ?_ ?_
   rotate_left
   ·intro w'
    go_simp
    with_reducible rfl
   rotate_left
   ·simp only [Act.put,s0,s1,s2,i64_w,i32_w]
    rfl
   refine take_ (i:=12) (N:=some 37) (v:=?_) (a':=?_) #[true,true,true,true,true,true,true,true,true,true,true,true,true,false,false,false,false,false,false,false,false,false,false,false,false,false,false,false,false,false,false,false,false,false,false] rfl rfl (take_ofW HT_.out HW_.out (by kernel_rfl)) (fun _ _ _ h=>h) (Or.inl ⟨by rfl,?_⟩) hHeld ?_ ?_
   rotate_left
   ·rintro w' ⟨s0,s1,s2,s3,s4,s5⟩
    go_simp
    with_reducible rfl
   rotate_left
   ·simp only [Act.put,s0,s1,s2,i64_w,i32_w]
    rfl
   refine one_ (i:=13) (N:=some 38) #[true,true,true,true,true,true,true,true,true,true,true,true,true,true,false,false,false,false,false,false,false,false,false,false,false,false,false,false,false,false,false,false,false,false,false] rfl rfl (one_of HT_.out (by kernel_rfl)) (by decide) (fun K hK=>?_)
   refine goes_ Tryd.func23 (by kernel_rfl) rfl #[.int .i64 1,.int .i64 2] (by rfl) rfl rfl (by (try simp only [List.map_toArray,List.map_cons,List.map_nil]);first|done|rfl) ?_
   with_reducible refine (penumbraref03_Of.calls k 1 2 t710 t711 t714 _ A10.out).mono ?_
   rintro e w51 ⟨v712,v715,rfl,ho0,ho1,hb⟩
   refine ⟨_,rfl,?_⟩
   have n0_:=Aside0.mk (Kd.R_mono (Kd.R_told (Kd.R_told (Kd.R_old (Ru HO669.out) hb) (Kd.R_base ho0)) (Kd.R_base ho1)) (fun _ h_=>h_.1))
   have n1_:=Aside0.mk (Kd.R_mono (Kd.R_told (Kd.R_told (Kd.R_old (Ru HO672.out) hb) (Kd.R_base ho0)) (Kd.R_base ho1)) (fun _ h_=>h_.1))
   have n2_:=Aside0.mk (Kd.R_mono (Kd.R_told (Kd.R_told (Kd.R_old (Ru HO678.out) hb) (Kd.R_base ho0)) (Kd.R_base ho1)) (fun _ h_=>h_.1))
   have n3_:=Aside0.mk (Kd.R_mono (Kd.R_told (Kd.R_told (Kd.R_old (Ru HO681.out) hb) (Kd.R_base ho0)) (Kd.R_base ho1)) (fun _ h_=>h_.1))
   have n4_:=Aside0.mk (Kd.R_mono (Kd.R_told (Kd.R_told (Kd.R_old (Ru HO687.out) hb) (Kd.R_base ho0)) (Kd.R_base ho1)) (fun _ h_=>h_.1))
   have n5_:=Aside0.mk (Kd.R_mono (Kd.R_told (Kd.R_told (Kd.R_old (Ru HO690.out) hb) (Kd.R_base ho0)) (Kd.R_base ho1)) (fun _ h_=>h_.1))
   have n6_:=Aside0.mk (Kd.R_mono (Kd.R_told (Kd.R_told (Kd.R_old (Ru HO696.out) hb) (Kd.R_base ho0)) (Kd.R_base ho1)) (fun _ h_=>h_.1))
   have n7_:=Aside0.mk (Kd.R_mono (Kd.R_told (Kd.R_told (Kd.R_old (Ru HO699.out) hb) (Kd.R_base ho0)) (Kd.R_base ho1)) (fun _ h_=>h_.1))
   have n8_:=Aside0.mk (Kd.R_mono (Kd.R_told (Kd.R_told (Kd.R_old (Ru HO705.out) hb) (Kd.R_base ho0)) (Kd.R_base ho1)) (fun _ h_=>h_.1))
   have n9_:=Aside0.mk (Kd.R_mono (Kd.R_told (Kd.R_told (Kd.R_old (Ru HO708.out) hb) (Kd.R_base ho0)) (Kd.R_base ho1)) (fun _ h_=>h_.1))
   have n10_:=Aside0.mk (Kd.R_lower (Kd.R_new' (Kd.R_new' (Kd.R_new' (Kd.R_new' (Kd.R_new' (Kd.R_new' (Kd.R_new' (Kd.R_new' (Kd.R_new' (Kd.R_new' ho0 (Kd.R_lt (Ru HO669.out))) (Kd.R_lt (Ru HO672.out))) (Kd.R_lt (Ru HO678.out))) (Kd.R_lt (Ru HO681.out))) (Kd.R_lt (Ru HO687.out))) (Kd.R_lt (Ru HO690.out))) (Kd.R_lt (Ru HO696.out))) (Kd.R_lt (Ru HO699.out))) (Kd.R_lt (Ru HO705.out))) (Kd.R_lt (Ru HO708.out))) (below_size (by repeat (first|with_reducible exact HB.out|apply ba|apply bn|apply b1|refine below_set ?_ GE674.out|refine below_set ?_ GE683.out|refine below_set ?_ GE692.out|refine below_set ?_ GE701.out))))
   have n11_:=Aside0.mk (Kd.R_lower (Kd.R_new' (Kd.R_new' (Kd.R_new' (Kd.R_new' (Kd.R_new' (Kd.R_new' (Kd.R_new' (Kd.R_new' (Kd.R_new' (Kd.R_new' ho1 (Kd.R_lt (Ru HO669.out))) (Kd.R_lt (Ru HO672.out))) (Kd.R_lt (Ru HO678.out))) (Kd.R_lt (Ru HO681.out))) (Kd.R_lt (Ru HO687.out))) (Kd.R_lt (Ru HO690.out))) (Kd.R_lt (Ru HO696.out))) (Kd.R_lt (Ru HO699.out))) (Kd.R_lt (Ru HO705.out))) (Kd.R_lt (Ru HO708.out))) (below_size (by repeat (first|with_reducible exact HB.out|apply ba|apply bn|apply b1|refine below_set ?_ GE674.out|refine below_set ?_ GE683.out|refine below_set ?_ GE692.out|refine below_set ?_ GE701.out))))
   have n12_:=Aside0.mk (blk_below (g:=gb674) (o:=.cells #[.bool t666,.slice Ao22 t667.length co22,.slice Ao23 t670.length co23] 25 (0,0)) (Bu BK674.out) hb)
   have n13_:=Aside0.mk (blk_below (g:=gb683) (o:=.cells #[.bool t675,.slice Ao28 t676.length co28,.slice Ao29 t679.length co29] 25 (0,0)) (Bu BK683.out) hb)
   have n14_:=Aside0.mk (blk_below (g:=gb692) (o:=.cells #[.bool t684,.slice Ao35 t685.length co35,.slice Ao36 t688.length co36] 25 (0,0)) (Bu BK692.out) hb)
   have n15_:=Aside0.mk (blk_below (g:=gb701) (o:=.cells #[.bool t693,.slice Ao43 t694.length co43,.slice Ao44 t697.length co44] 25 (0,0)) (Bu BK701.out) hb)
   have n16_:=Aside0.mk (below_step (by repeat (first|with_reducible exact HB.out|apply ba|apply bn|apply b1|refine below_set ?_ GE674.out|refine below_set ?_ GE683.out|refine below_set ?_ GE692.out|refine below_set ?_ GE701.out)) hb)
   clear HO669
   clear HO672
   clear HO678
   clear HO681
   clear HO687
   clear HO690
   clear HO696
   clear HO699
   clear HO705
   clear HO708
   clear BK674
   clear BK683
   clear BK692
   clear BK701
   clear HB
   have HO669:=n0_
   have HO672:=n1_
   have HO678:=n2_
   have HO681:=n3_
   have HO687:=n4_
   have HO690:=n5_
   have HO696:=n6_
   have HO699:=n7_
   have HO705:=n8_
   have HO708:=n9_
   have HO713:=n10_
   have HO716:=n11_
   have BK674:=n12_
   have BK683:=n13_
   have BK692:=n14_
   have BK701:=n15_
   have HB:=n16_
   clear n0_ n1_ n2_ n3_ n4_ n5_ n6_ n7_ n8_ n9_ n10_ n11_ n12_ n13_ n14_ n15_ n16_
   (try clear hb)
   (try clear hb2)
   (try clear hk)
   (try clear hi)
   (try clear ho0)
   (try clear ho1)
   obtain ⟨Ao52,co52,eo52⟩:=Kd.R_slice HO713.out
   (first|subst eo52|(injection eo52 with f1_ f2_ f3_;have f4_:=f1_.symm;have f5_:=f3_.symm;clear f1_ f2_ f3_;subst f4_;subst f5_))
   obtain ⟨Ao53,co53,eo53⟩:=Kd.R_slice HO716.out
   (first|subst eo53|(injection eo53 with f1_ f2_ f3_;have f4_:=f1_.symm;have f5_:=f3_.symm;clear f1_ f2_ f3_;subst f4_;subst f5_))
   refine hK.out _ _ ⟨(blk_cell BK674.out 0).trans rfl,(blk_cell BK674.out 1).trans rfl,(blk_cell BK674.out 2).trans rfl,(blk_cell BK683.out 0).trans rfl,(blk_cell BK683.out 1).trans rfl,(blk_cell BK683.out 2).trans rfl⟩ (fun hHeld=>?_)
   clear hK K
   refine norm_ (a':=?_) ?_ ?_
   rotate_left
   ·show Act.put _ (some 38) _=_
    simp only [Act.put,s0,s1,s2,i64_w,i32_w]
    rfl
   refine one_ (i:=14) (N:=some 39) #[true,true,true,true,true,true,true,true,true,true,true,true,true,true,true,false,false,false,false,false,false,false,false,false,false,false,false,false,false,false,false,false,false,false,false] rfl rfl (one_of HT_.out (by kernel_rfl)) (by decide) (fun K hK=>?_)
   refine goes_ Tryd.func11 (by kernel_rfl) rfl #[.agg #[.bool t675,.slice Ao28 t676.length co28,.slice Ao29 t679.length co29],.agg #[.bool t710,.slice Ao52 t711.length co52,.slice Ao53 t714.length co53]] (by rfl) rfl rfl (by (try simp only [List.map_toArray,List.map_cons,List.map_nil]);first|done|rfl) ?_
   with_reducible refine (penumbraref03_Is.calls k t675 _ _ t676 _ _ t679 t710 _ _ t711 _ _ t714 true _ ?side1 ?side2 ?side3 ?side4 ?side5 ?side6 ?side7 ?side8 A11.out).mono ?_
   (case side1=>exact Cu (Kd.R_reads' HO678.out).2.2)
   (case side2=>exact (Kd.R_reads' HO678.out).2.1)
   (case side3=>exact Cu (Kd.R_reads' HO681.out).2.2)
   (case side4=>exact (Kd.R_reads' HO681.out).2.1)
   (case side5=>exact Cu (Kd.R_reads' HO713.out).2.2)
   (case side6=>exact (Kd.R_reads' HO713.out).2.1)
   (case side7=>exact Cu (Kd.R_reads' HO716.out).2.2)
   (case side8=>exact (Kd.R_reads' HO716.out).2.1)
   rintro e w54 ⟨rfl,hb⟩
   refine ⟨_,rfl,?_⟩
   have n0_:=Aside0.mk (Kd.R_below (Ru HO669.out) hb)
   have n1_:=Aside0.mk (Kd.R_below (Ru HO672.out) hb)
   have n2_:=Aside0.mk (Kd.R_below (Ru HO678.out) hb)
   have n3_:=Aside0.mk (Kd.R_below (Ru HO681.out) hb)
   have n4_:=Aside0.mk (Kd.R_below (Ru HO687.out) hb)
   have n5_:=Aside0.mk (Kd.R_below (Ru HO690.out) hb)
   have n6_:=Aside0.mk (Kd.R_below (Ru HO696.out) hb)
   have n7_:=Aside0.mk (Kd.R_below (Ru HO699.out) hb)
   have n8_:=Aside0.mk (Kd.R_below (Ru HO705.out) hb)
   have n9_:=Aside0.mk (Kd.R_below (Ru HO708.out) hb)
   have n10_:=Aside0.mk (Kd.R_below (Ru HO713.out) hb)
   have n11_:=Aside0.mk (Kd.R_below (Ru HO716.out) hb)
   have n12_:=Aside0.mk (blk_below (g:=gb674) (o:=.cells #[.bool t666,.slice Ao22 t667.length co22,.slice Ao23 t670.length co23] 25 (0,0)) (Bu BK674.out) hb)
   have n13_:=Aside0.mk (blk_below (g:=gb683) (o:=.cells #[.bool t675,.slice Ao28 t676.length co28,.slice Ao29 t679.length co29] 25 (0,0)) (Bu BK683.out) hb)
   have n14_:=Aside0.mk (blk_below (g:=gb692) (o:=.cells #[.bool t684,.slice Ao35 t685.length co35,.slice Ao36 t688.length co36] 25 (0,0)) (Bu BK692.out) hb)
   have n15_:=Aside0.mk (blk_below (g:=gb701) (o:=.cells #[.bool t693,.slice Ao43 t694.length co43,.slice Ao44 t697.length co44] 25 (0,0)) (Bu BK701.out) hb)
   have n16_:=Aside0.mk (below_step (by repeat (first|with_reducible exact HB.out|apply ba|apply bn|apply b1|refine below_set ?_ GE674.out|refine below_set ?_ GE683.out|refine below_set ?_ GE692.out|refine below_set ?_ GE701.out)) hb)
   clear HO669
   clear HO672
   clear HO678
   clear HO681
   clear HO687
   clear HO690
   clear HO696
   clear HO699
   clear HO705
   clear HO708
   clear HO713
   clear HO716
   clear BK674
   clear BK683
   clear BK692
   clear BK701
   clear HB
   have HO669:=n0_
   have HO672:=n1_
   have HO678:=n2_
   have HO681:=n3_
   have HO687:=n4_
   have HO690:=n5_
   have HO696:=n6_
   have HO699:=n7_
   have HO705:=n8_
   have HO708:=n9_
   have HO713:=n10_
   have HO716:=n11_
   have BK674:=n12_
   have BK683:=n13_
   have BK692:=n14_
   have BK701:=n15_
   have HB:=n16_
   clear n0_ n1_ n2_ n3_ n4_ n5_ n6_ n7_ n8_ n9_ n10_ n11_ n12_ n13_ n14_ n15_ n16_
   (try clear hb)
   (try clear hb2)
   (try clear hk)
   (try clear hi)
   refine hK.out _ _ ⟨(blk_cell BK674.out 0).trans rfl,(blk_cell BK674.out 1).trans rfl,(blk_cell BK674.out 2).trans rfl,(blk_cell BK683.out 0).trans rfl,(blk_cell BK683.out 1).trans rfl,(blk_cell BK683.out 2).trans rfl⟩ (fun hHeld=>?_)
   clear hK K
   refine norm_ (a':=?_) ?_ ?_
   rotate_left
   ·show Act.put _ (some 39) _=_
    simp only [Act.put,s0,s1,s2,i64_w,i32_w]
    rfl
   refine pv (i:=15) (N:=some 40) (v:=?_) (a':=?_) rfl rfl (any_of HT_.out (by kernel_rfl)) (Or.inl ⟨by rfl,?_⟩) ?_ ?_
   rotate_left
   ·intro w'
    go_simp
    with_reducible rfl
   rotate_left
   ·simp only [Act.put,s0,s1,s2,i64_w,i32_w]
    rfl
   refine pv (i:=16) (N:=some 41) (v:=?_) (a':=?_) rfl rfl (any_of HT_.out (by kernel_rfl)) (Or.inl ⟨by rfl,?_⟩) ?_ ?_
   rotate_left
   ·intro w'
    go_simp
    with_reducible rfl
   rotate_left
   ·simp only [Act.put,s0,s1,s2,i64_w,i32_w]
    rfl
   refine pv (i:=17) (N:=some 42) (v:=?_) (a':=?_) rfl rfl (any_of HT_.out (by kernel_rfl)) (Or.inl ⟨by rfl,?_⟩) ?_ ?_
   rotate_left
   ·intro w'
    go_simp
    with_reducible rfl
   rotate_left
   ·simp only [Act.put,s0,s1,s2,i64_w,i32_w]
    rfl
   refine pv (i:=18) (N:=some 43) (v:=?_) (a':=?_) rfl rfl (any_of HT_.out (by kernel_rfl)) (Or.inl ⟨by rfl,?_⟩) ?_ ?_
   rotate_left
   ·intro w'
    go_simp
    with_reducible rfl
   rotate_left
   ·simp only [Act.put,s0,s1,s2,i64_w,i32_w]
    rfl
   refine pv (i:=19) (N:=some 44) (v:=?_) (a':=?_) rfl rfl (any_of HT_.out (by kernel_rfl)) (Or.inl ⟨by rfl,?_⟩) ?_ ?_
   rotate_left
   ·intro w'
    go_simp
    with_reducible rfl
   rotate_left
   ·simp only [Act.put,s0,s1,s2,i64_w,i32_w]
    rfl
   refine pv (i:=20) (N:=some 45) (v:=?_) (a':=?_) rfl rfl (any_of HT_.out (by kernel_rfl)) (Or.inl ⟨by rfl,?_⟩) ?_ ?_
   rotate_left
   ·intro w'
    go_simp
    with_reducible rfl
   rotate_left
   ·simp only [Act.put,s0,s1,s2,i64_w,i32_w]
    rfl
   refine pv (i:=21) (N:=some 46) (v:=?_) (a':=?_) rfl rfl (any_of HT_.out (by kernel_rfl)) (Or.inl ⟨by rfl,?_⟩) ?_ ?_
   rotate_left
   ·intro w'
    go_simp
    with_reducible rfl
   rotate_left
   ·simp only [Act.put,s0,s1,s2,i64_w,i32_w]
    rfl
   refine pv (i:=22) (N:=some 47) (v:=?_) (a':=?_) rfl rfl (any_of HT_.out (by kernel_rfl)) (Or.inl ⟨by rfl,?_⟩) ?_ ?_
   rotate_left
   ·intro w'
    go_simp
    with_reducible rfl
   rotate_left
   ·simp only [Act.put,s0,s1,s2,i64_w,i32_w]
    rfl
   refine pv (i:=23) (N:=some 48) (v:=?_) (a':=?_) rfl rfl (any_of HT_.out (by kernel_rfl)) (Or.inl ⟨by rfl,?_⟩) ?_ ?_
   rotate_left
   ·intro w'
    go_simp
    with_reducible rfl
   rotate_left
   ·simp only [Act.put,s0,s1,s2,i64_w,i32_w]
    rfl
   refine pv (i:=24) (N:=some 49) (v:=?_) (a':=?_) rfl rfl (any_of HT_.out (by kernel_rfl)) (Or.inl ⟨by rfl,?_⟩) ?_ ?_
   rotate_left
   ·intro w'
    go_simp
    with_reducible rfl
   rotate_left
   ·simp only [Act.put,s0,s1,s2,i64_w,i32_w]
    rfl
   refine one_ (i:=25) (N:=some 50) #[true,true,true,true,true,true,true,true,true,true,true,true,true,true,true,true,true,true,true,true,true,true,true,true,true,true,false,false,false,false,false,false,false,false,false] rfl rfl (one_of HT_.out (by kernel_rfl)) (by decide) (fun K hK=>?_)
   refine goes_ Tryd.func24 (by kernel_rfl) rfl #[.int .i64 (-3),.int .i64 6] (by rfl) rfl rfl (by (try simp only [List.map_toArray,List.map_cons,List.map_nil]);first|done|rfl) ?_
   with_reducible refine (rat_Of.calls k (-3) 6 t718 t719 t722 _ A15.out).mono ?_
   rintro e w55 ⟨v720,v723,rfl,ho0,ho1,hb⟩
   refine ⟨_,rfl,?_⟩
   have n0_:=Aside0.mk (Kd.R_mono (Kd.R_told (Kd.R_told (Kd.R_old (Ru HO669.out) hb) (Kd.R_base ho0)) (Kd.R_base ho1)) (fun _ h_=>h_.1))
   have n1_:=Aside0.mk (Kd.R_mono (Kd.R_told (Kd.R_told (Kd.R_old (Ru HO672.out) hb) (Kd.R_base ho0)) (Kd.R_base ho1)) (fun _ h_=>h_.1))
   have n2_:=Aside0.mk (Kd.R_mono (Kd.R_told (Kd.R_told (Kd.R_old (Ru HO678.out) hb) (Kd.R_base ho0)) (Kd.R_base ho1)) (fun _ h_=>h_.1))
   have n3_:=Aside0.mk (Kd.R_mono (Kd.R_told (Kd.R_told (Kd.R_old (Ru HO681.out) hb) (Kd.R_base ho0)) (Kd.R_base ho1)) (fun _ h_=>h_.1))
   have n4_:=Aside0.mk (Kd.R_mono (Kd.R_told (Kd.R_told (Kd.R_old (Ru HO687.out) hb) (Kd.R_base ho0)) (Kd.R_base ho1)) (fun _ h_=>h_.1))
   have n5_:=Aside0.mk (Kd.R_mono (Kd.R_told (Kd.R_told (Kd.R_old (Ru HO690.out) hb) (Kd.R_base ho0)) (Kd.R_base ho1)) (fun _ h_=>h_.1))
   have n6_:=Aside0.mk (Kd.R_mono (Kd.R_told (Kd.R_told (Kd.R_old (Ru HO696.out) hb) (Kd.R_base ho0)) (Kd.R_base ho1)) (fun _ h_=>h_.1))
   have n7_:=Aside0.mk (Kd.R_mono (Kd.R_told (Kd.R_told (Kd.R_old (Ru HO699.out) hb) (Kd.R_base ho0)) (Kd.R_base ho1)) (fun _ h_=>h_.1))
   have n8_:=Aside0.mk (Kd.R_mono (Kd.R_told (Kd.R_told (Kd.R_old (Ru HO705.out) hb) (Kd.R_base ho0)) (Kd.R_base ho1)) (fun _ h_=>h_.1))
   have n9_:=Aside0.mk (Kd.R_mono (Kd.R_told (Kd.R_told (Kd.R_old (Ru HO708.out) hb) (Kd.R_base ho0)) (Kd.R_base ho1)) (fun _ h_=>h_.1))
   have n10_:=Aside0.mk (Kd.R_mono (Kd.R_told (Kd.R_told (Kd.R_old (Ru HO713.out) hb) (Kd.R_base ho0)) (Kd.R_base ho1)) (fun _ h_=>h_.1))
   have n11_:=Aside0.mk (Kd.R_mono (Kd.R_told (Kd.R_told (Kd.R_old (Ru HO716.out) hb) (Kd.R_base ho0)) (Kd.R_base ho1)) (fun _ h_=>h_.1))
   have n12_:=Aside0.mk (Kd.R_lower (Kd.R_new' (Kd.R_new' (Kd.R_new' (Kd.R_new' (Kd.R_new' (Kd.R_new' (Kd.R_new' (Kd.R_new' (Kd.R_new' (Kd.R_new' (Kd.R_new' (Kd.R_new' ho0 (Kd.R_lt (Ru HO669.out))) (Kd.R_lt (Ru HO672.out))) (Kd.R_lt (Ru HO678.out))) (Kd.R_lt (Ru HO681.out))) (Kd.R_lt (Ru HO687.out))) (Kd.R_lt (Ru HO690.out))) (Kd.R_lt (Ru HO696.out))) (Kd.R_lt (Ru HO699.out))) (Kd.R_lt (Ru HO705.out))) (Kd.R_lt (Ru HO708.out))) (Kd.R_lt (Ru HO713.out))) (Kd.R_lt (Ru HO716.out))) (below_size (by repeat (first|with_reducible exact HB.out|apply ba|apply bn|apply b1|refine below_set ?_ GE674.out|refine below_set ?_ GE683.out|refine below_set ?_ GE692.out|refine below_set ?_ GE701.out))))
   have n13_:=Aside0.mk (Kd.R_lower (Kd.R_new' (Kd.R_new' (Kd.R_new' (Kd.R_new' (Kd.R_new' (Kd.R_new' (Kd.R_new' (Kd.R_new' (Kd.R_new' (Kd.R_new' (Kd.R_new' (Kd.R_new' ho1 (Kd.R_lt (Ru HO669.out))) (Kd.R_lt (Ru HO672.out))) (Kd.R_lt (Ru HO678.out))) (Kd.R_lt (Ru HO681.out))) (Kd.R_lt (Ru HO687.out))) (Kd.R_lt (Ru HO690.out))) (Kd.R_lt (Ru HO696.out))) (Kd.R_lt (Ru HO699.out))) (Kd.R_lt (Ru HO705.out))) (Kd.R_lt (Ru HO708.out))) (Kd.R_lt (Ru HO713.out))) (Kd.R_lt (Ru HO716.out))) (below_size (by repeat (first|with_reducible exact HB.out|apply ba|apply bn|apply b1|refine below_set ?_ GE674.out|refine below_set ?_ GE683.out|refine below_set ?_ GE692.out|refine below_set ?_ GE701.out))))
   have n14_:=Aside0.mk (blk_below (g:=gb674) (o:=.cells #[.bool t666,.slice Ao22 t667.length co22,.slice Ao23 t670.length co23] 25 (0,0)) (Bu BK674.out) hb)
   have n15_:=Aside0.mk (blk_below (g:=gb683) (o:=.cells #[.bool t675,.slice Ao28 t676.length co28,.slice Ao29 t679.length co29] 25 (0,0)) (Bu BK683.out) hb)
   have n16_:=Aside0.mk (blk_below (g:=gb692) (o:=.cells #[.bool t684,.slice Ao35 t685.length co35,.slice Ao36 t688.length co36] 25 (0,0)) (Bu BK692.out) hb)
   have n17_:=Aside0.mk (blk_below (g:=gb701) (o:=.cells #[.bool t693,.slice Ao43 t694.length co43,.slice Ao44 t697.length co44] 25 (0,0)) (Bu BK701.out) hb)
   have n18_:=Aside0.mk (below_step (by repeat (first|with_reducible exact HB.out|apply ba|apply bn|apply b1|refine below_set ?_ GE674.out|refine below_set ?_ GE683.out|refine below_set ?_ GE692.out|refine below_set ?_ GE701.out)) hb)
   clear HO669
   clear HO672
   clear HO678
   clear HO681
   clear HO687
   clear HO690
   clear HO696
   clear HO699
   clear HO705
   clear HO708
   clear HO713
   clear HO716
   clear BK674
   clear BK683
   clear BK692
   clear BK701
   clear HB
   have HO669:=n0_
   have HO672:=n1_
   have HO678:=n2_
   have HO681:=n3_
   have HO687:=n4_
   have HO690:=n5_
   have HO696:=n6_
   have HO699:=n7_
   have HO705:=n8_
   have HO708:=n9_
   have HO713:=n10_
   have HO716:=n11_
   have HO721:=n12_
   have HO724:=n13_
   have BK674:=n14_
   have BK683:=n15_
   have BK692:=n16_
   have BK701:=n17_
   have HB:=n18_
   clear n0_ n1_ n2_ n3_ n4_ n5_ n6_ n7_ n8_ n9_ n10_ n11_ n12_ n13_ n14_ n15_ n16_ n17_ n18_
   (try clear hb)
   (try clear hb2)
   (try clear hk)
   (try clear hi)
   (try clear ho0)
   (try clear ho1)
   obtain ⟨Ao56,co56,eo56⟩:=Kd.R_slice HO721.out
   (first|subst eo56|(injection eo56 with f1_ f2_ f3_;have f4_:=f1_.symm;have f5_:=f3_.symm;clear f1_ f2_ f3_;subst f4_;subst f5_))
   obtain ⟨Ao57,co57,eo57⟩:=Kd.R_slice HO724.out
   (first|subst eo57|(injection eo57 with f1_ f2_ f3_;have f4_:=f1_.symm;have f5_:=f3_.symm;clear f1_ f2_ f3_;subst f4_;subst f5_))
   refine hK.out _ _ ⟨(blk_cell BK674.out 0).trans rfl,(blk_cell BK674.out 1).trans rfl,(blk_cell BK674.out 2).trans rfl,(blk_cell BK683.out 0).trans rfl,(blk_cell BK683.out 1).trans rfl,(blk_cell BK683.out 2).trans rfl⟩ (fun hHeld=>?_)
   clear hK K
   refine norm_ (a':=?_) ?_ ?_
   rotate_left
   ·show Act.put _ (some 50) _=_
    simp only [Act.put,s0,s1,s2,i64_w,i32_w]
    rfl
   refine one_ (i:=26) (N:=some 51) #[true,true,true,true,true,true,true,true,true,true,true,true,true,true,true,true,true,true,true,true,true,true,true,true,true,true,true,false,false,false,false,false,false,false,false] rfl rfl (one_of HT_.out (by kernel_rfl)) (by decide) (fun K hK=>?_)
   refine goes_ Tryd.func12 (by kernel_rfl) rfl #[.agg #[.bool t718,.slice Ao56 t719.length co56,.slice Ao57 t722.length co57]] (by rfl) rfl rfl (by (try simp only [List.map_toArray,List.map_cons,List.map_nil]);first|done|rfl) ?_
   with_reducible refine (decimal_Print.calls k t718 _ _ t719 _ _ t722 t725 _ ?side1 ?side2 ?side3 ?side4 A16.out).mono ?_
   (case side1=>exact Cu (Kd.R_reads' HO721.out).2.2)
   (case side2=>exact (Kd.R_reads' HO721.out).2.1)
   (case side3=>exact Cu (Kd.R_reads' HO724.out).2.2)
   (case side4=>exact (Kd.R_reads' HO724.out).2.1)
   rintro e w58 ⟨rfl,hb⟩
   refine ⟨_,rfl,?_⟩
   have n0_:=Aside0.mk (Kd.R_below (Ru HO669.out) hb)
   have n1_:=Aside0.mk (Kd.R_below (Ru HO672.out) hb)
   have n2_:=Aside0.mk (Kd.R_below (Ru HO678.out) hb)
   have n3_:=Aside0.mk (Kd.R_below (Ru HO681.out) hb)
   have n4_:=Aside0.mk (Kd.R_below (Ru HO687.out) hb)
   have n5_:=Aside0.mk (Kd.R_below (Ru HO690.out) hb)
   have n6_:=Aside0.mk (Kd.R_below (Ru HO696.out) hb)
   have n7_:=Aside0.mk (Kd.R_below (Ru HO699.out) hb)
   have n8_:=Aside0.mk (Kd.R_below (Ru HO705.out) hb)
   have n9_:=Aside0.mk (Kd.R_below (Ru HO708.out) hb)
   have n10_:=Aside0.mk (Kd.R_below (Ru HO713.out) hb)
   have n11_:=Aside0.mk (Kd.R_below (Ru HO716.out) hb)
   have n12_:=Aside0.mk (Kd.R_below (Ru HO721.out) hb)
   have n13_:=Aside0.mk (Kd.R_below (Ru HO724.out) hb)
   have n14_:=Aside0.mk (blk_below (g:=gb674) (o:=.cells #[.bool t666,.slice Ao22 t667.length co22,.slice Ao23 t670.length co23] 25 (0,0)) (Bu BK674.out) hb)
   have n15_:=Aside0.mk (blk_below (g:=gb683) (o:=.cells #[.bool t675,.slice Ao28 t676.length co28,.slice Ao29 t679.length co29] 25 (0,0)) (Bu BK683.out) hb)
   have n16_:=Aside0.mk (blk_below (g:=gb692) (o:=.cells #[.bool t684,.slice Ao35 t685.length co35,.slice Ao36 t688.length co36] 25 (0,0)) (Bu BK692.out) hb)
   have n17_:=Aside0.mk (blk_below (g:=gb701) (o:=.cells #[.bool t693,.slice Ao43 t694.length co43,.slice Ao44 t697.length co44] 25 (0,0)) (Bu BK701.out) hb)
   have n18_:=Aside0.mk (below_step (by repeat (first|with_reducible exact HB.out|apply ba|apply bn|apply b1|refine below_set ?_ GE674.out|refine below_set ?_ GE683.out|refine below_set ?_ GE692.out|refine below_set ?_ GE701.out)) hb)
   clear HO669
   clear HO672
   clear HO678
   clear HO681
   clear HO687
   clear HO690
   clear HO696
   clear HO699
   clear HO705
   clear HO708
   clear HO713
   clear HO716
   clear HO721
   clear HO724
   clear BK674
   clear BK683
   clear BK692
   clear BK701
   clear HB
   have HO669:=n0_
   have HO672:=n1_
   have HO678:=n2_
   have HO681:=n3_
   have HO687:=n4_
   have HO690:=n5_
   have HO696:=n6_
   have HO699:=n7_
   have HO705:=n8_
   have HO708:=n9_
   have HO713:=n10_
   have HO716:=n11_
   have HO721:=n12_
   have HO724:=n13_
   have BK674:=n14_
   have BK683:=n15_
   have BK692:=n16_
   have BK701:=n17_
   have HB:=n18_
   clear n0_ n1_ n2_ n3_ n4_ n5_ n6_ n7_ n8_ n9_ n10_ n11_ n12_ n13_ n14_ n15_ n16_ n17_ n18_
   (try clear hb)
   (try clear hb2)
   (try clear hk)
   (try clear hi)
   refine hK.out _ _ ⟨(blk_cell BK674.out 0).trans rfl,(blk_cell BK674.out 1).trans rfl,(blk_cell BK674.out 2).trans rfl,(blk_cell BK683.out 0).trans rfl,(blk_cell BK683.out 1).trans rfl,(blk_cell BK683.out 2).trans rfl⟩ (fun hHeld=>?_)
   clear hK K
   refine norm_ (a':=?_) ?_ ?_
   rotate_left
   ·show Act.put _ (some 51) _=_
    simp only [Act.put,s0,s1,s2,i64_w,i32_w]
    rfl
   refine pv (i:=27) (N:=some 52) (v:=?_) (a':=?_) rfl rfl (any_of HT_.out (by kernel_rfl)) (Or.inl ⟨by rfl,?_⟩) ?_ ?_
   rotate_left
   ·intro w'
    go_simp
    with_reducible rfl
   rotate_left
   ·simp only [Act.put,s0,s1,s2,i64_w,i32_w]
    rfl
   refine pv (i:=28) (N:=some 53) (v:=?_) (a':=?_) rfl rfl (any_of HT_.out (by kernel_rfl)) (Or.inl ⟨by rfl,?_⟩) ?_ ?_
   rotate_left
   ·intro w'
    go_simp
    with_reducible rfl
   rotate_left
   ·simp only [Act.put,s0,s1,s2,i64_w,i32_w]
    rfl
   refine pv (i:=29) (N:=some 54) (v:=?_) (a':=?_) rfl rfl (any_of HT_.out (by kernel_rfl)) (Or.inl ⟨by rfl,?_⟩) ?_ ?_
   rotate_left
   ·intro w'
    go_simp
    with_reducible rfl
   rotate_left
   ·simp only [Act.put,s0,s1,s2,i64_w,i32_w]
    rfl
   refine one_ (i:=30) (N:=some 55) #[true,true,true,true,true,true,true,true,true,true,true,true,true,true,true,true,true,true,true,true,true,true,true,true,true,true,true,true,true,true,true,false,false,false,false] rfl rfl (one_of HT_.out (by kernel_rfl)) (by decide) (fun K hK=>?_)
   refine Kd.R_lit_step (Kd.int .u32) _ 35 ?hg (N:=55) ?hd (xs:=([0,1] : List Int)) (inner:=[.int .u32 0,.int .u32 1]) (ok:=fun _=>True) (okp:=fun _=>True) ?hr ?hp (fun _ hk=>hk) trivial (Below.refl _ _) (Nat.le_refl _) (by simp) ?_;(case hd=>rfl);(case hg=>rfl);(case hr=>first|(go_simp;done)|(go_simp;(with_reducible rfl))|(go_simp;rfl)|(go_simp;simp only [hu,Int.emod_sub_emod]));(case hp=>exact (Reps.one (show Kd.M (Kd.int .u32) _ _ _ 0 [.int .u32 0] from rfl) (Reps.one (show Kd.M (Kd.int .u32) _ _ _ 1 [.int .u32 1] from rfl) (Reps.none _ _))))
   intro v727 w59 ho60 hb hg_ hnew_
   clear hg_ hnew_
   (first|rw [← Ny726.out] at ho60|(simp only [Int.reduceToNat] at ho60;rw [← Ny726.out] at ho60))
   have n0_:=Aside0.mk (Kd.R_elder' (Ru HO669.out) (Kd.R_base ho60) hb)
   have n1_:=Aside0.mk (Kd.R_elder' (Ru HO672.out) (Kd.R_base ho60) hb)
   have n2_:=Aside0.mk (Kd.R_elder' (Ru HO678.out) (Kd.R_base ho60) hb)
   have n3_:=Aside0.mk (Kd.R_elder' (Ru HO681.out) (Kd.R_base ho60) hb)
   have n4_:=Aside0.mk (Kd.R_elder' (Ru HO687.out) (Kd.R_base ho60) hb)
   have n5_:=Aside0.mk (Kd.R_elder' (Ru HO690.out) (Kd.R_base ho60) hb)
   have n6_:=Aside0.mk (Kd.R_elder' (Ru HO696.out) (Kd.R_base ho60) hb)
   have n7_:=Aside0.mk (Kd.R_elder' (Ru HO699.out) (Kd.R_base ho60) hb)
   have n8_:=Aside0.mk (Kd.R_elder' (Ru HO705.out) (Kd.R_base ho60) hb)
   have n9_:=Aside0.mk (Kd.R_elder' (Ru HO708.out) (Kd.R_base ho60) hb)
   have n10_:=Aside0.mk (Kd.R_elder' (Ru HO713.out) (Kd.R_base ho60) hb)
   have n11_:=Aside0.mk (Kd.R_elder' (Ru HO716.out) (Kd.R_base ho60) hb)
   have n12_:=Aside0.mk (Kd.R_elder' (Ru HO721.out) (Kd.R_base ho60) hb)
   have n13_:=Aside0.mk (Kd.R_elder' (Ru HO724.out) (Kd.R_base ho60) hb)
   have n14_:=Aside0.mk (Kd.R_lower (Kd.R_new' (Kd.R_new' (Kd.R_new' (Kd.R_new' (Kd.R_new' (Kd.R_new' (Kd.R_new' (Kd.R_new' (Kd.R_new' (Kd.R_new' (Kd.R_new' (Kd.R_new' (Kd.R_new' (Kd.R_new' ho60 (Kd.R_lt (Ru HO669.out))) (Kd.R_lt (Ru HO672.out))) (Kd.R_lt (Ru HO678.out))) (Kd.R_lt (Ru HO681.out))) (Kd.R_lt (Ru HO687.out))) (Kd.R_lt (Ru HO690.out))) (Kd.R_lt (Ru HO696.out))) (Kd.R_lt (Ru HO699.out))) (Kd.R_lt (Ru HO705.out))) (Kd.R_lt (Ru HO708.out))) (Kd.R_lt (Ru HO713.out))) (Kd.R_lt (Ru HO716.out))) (Kd.R_lt (Ru HO721.out))) (Kd.R_lt (Ru HO724.out))) (below_size (by repeat (first|with_reducible exact HB.out|apply ba|apply bn|apply b1|refine below_set ?_ GE674.out|refine below_set ?_ GE683.out|refine below_set ?_ GE692.out|refine below_set ?_ GE701.out))))
   have n15_:=Aside0.mk (blk_below (g:=gb674) (o:=.cells #[.bool t666,.slice Ao22 t667.length co22,.slice Ao23 t670.length co23] 25 (0,0)) (Bu BK674.out) hb)
   have n16_:=Aside0.mk (blk_below (g:=gb683) (o:=.cells #[.bool t675,.slice Ao28 t676.length co28,.slice Ao29 t679.length co29] 25 (0,0)) (Bu BK683.out) hb)
   have n17_:=Aside0.mk (blk_below (g:=gb692) (o:=.cells #[.bool t684,.slice Ao35 t685.length co35,.slice Ao36 t688.length co36] 25 (0,0)) (Bu BK692.out) hb)
   have n18_:=Aside0.mk (blk_below (g:=gb701) (o:=.cells #[.bool t693,.slice Ao43 t694.length co43,.slice Ao44 t697.length co44] 25 (0,0)) (Bu BK701.out) hb)
   have n19_:=Aside0.mk (below_step (by repeat (first|with_reducible exact HB.out|apply ba|apply bn|apply b1|refine below_set ?_ GE674.out|refine below_set ?_ GE683.out|refine below_set ?_ GE692.out|refine below_set ?_ GE701.out)) hb)
   clear HO669
   clear HO672
   clear HO678
   clear HO681
   clear HO687
   clear HO690
   clear HO696
   clear HO699
   clear HO705
   clear HO708
   clear HO713
   clear HO716
   clear HO721
   clear HO724
   clear BK674
   clear BK683
   clear BK692
   clear BK701
   clear HB
   have HO669:=n0_
   have HO672:=n1_
   have HO678:=n2_
   have HO681:=n3_
   have HO687:=n4_
   have HO690:=n5_
   have HO696:=n6_
   have HO699:=n7_
   have HO705:=n8_
   have HO708:=n9_
   have HO713:=n10_
   have HO716:=n11_
   have HO721:=n12_
   have HO724:=n13_
   have HO728:=n14_
   have BK674:=n15_
   have BK683:=n16_
   have BK692:=n17_
   have BK701:=n18_
   have HB:=n19_
   clear n0_ n1_ n2_ n3_ n4_ n5_ n6_ n7_ n8_ n9_ n10_ n11_ n12_ n13_ n14_ n15_ n16_ n17_ n18_ n19_
   clear hb ho60
   obtain ⟨Ao61,co61,eo61⟩:=Kd.R_slice HO728.out
   (first|subst eo61|(injection eo61 with f1_ f2_ f3_;have f4_:=f1_.symm;have f5_:=f3_.symm;clear f1_ f2_ f3_;subst f4_;subst f5_))
   refine hK.out _ _ ⟨(blk_cell BK674.out 0).trans rfl,(blk_cell BK674.out 1).trans rfl,(blk_cell BK674.out 2).trans rfl,(blk_cell BK683.out 0).trans rfl,(blk_cell BK683.out 1).trans rfl,(blk_cell BK683.out 2).trans rfl⟩ (fun hHeld=>?_)
   clear hK K
   refine norm_ (a':=?_) ?_ ?_
   rotate_left
   ·show Act.put _ (some 55) _=_
    simp only [Act.put,s0,s1,s2,i64_w,i32_w]
    rfl
   refine one_ (i:=31) (N:=some 56) #[true,true,true,true,true,true,true,true,true,true,true,true,true,true,true,true,true,true,true,true,true,true,true,true,true,true,true,true,true,true,true,true,false,false,false] rfl rfl (one_of HT_.out (by kernel_rfl)) (by decide) (fun K hK=>?_)
   refine goes_ Tryd.func14 (by kernel_rfl) rfl #[.slice Ao61 y726.length co61] (by rfl) rfl rfl (by (try simp only [List.map_toArray,List.map_cons,List.map_nil]);first|done|rfl) ?_
   with_reducible refine (decimal_Natural.calls k _ _ y726 t729 _ ?side1 ?side2 A18.out).mono ?_
   (case side1=>exact Cu (Kd.R_reads' HO728.out).2.2)
   (case side2=>exact (Kd.R_reads' HO728.out).2.1)
   rintro e w62 ⟨rfl,hb⟩
   refine ⟨_,rfl,?_⟩
   have n0_:=Aside0.mk (Kd.R_below (Ru HO669.out) hb)
   have n1_:=Aside0.mk (Kd.R_below (Ru HO672.out) hb)
   have n2_:=Aside0.mk (Kd.R_below (Ru HO678.out) hb)
   have n3_:=Aside0.mk (Kd.R_below (Ru HO681.out) hb)
   have n4_:=Aside0.mk (Kd.R_below (Ru HO687.out) hb)
   have n5_:=Aside0.mk (Kd.R_below (Ru HO690.out) hb)
   have n6_:=Aside0.mk (Kd.R_below (Ru HO696.out) hb)
   have n7_:=Aside0.mk (Kd.R_below (Ru HO699.out) hb)
   have n8_:=Aside0.mk (Kd.R_below (Ru HO705.out) hb)
   have n9_:=Aside0.mk (Kd.R_below (Ru HO708.out) hb)
   have n10_:=Aside0.mk (Kd.R_below (Ru HO713.out) hb)
   have n11_:=Aside0.mk (Kd.R_below (Ru HO716.out) hb)
   have n12_:=Aside0.mk (Kd.R_below (Ru HO721.out) hb)
   have n13_:=Aside0.mk (Kd.R_below (Ru HO724.out) hb)
   have n14_:=Aside0.mk (Kd.R_below (Ru HO728.out) hb)
   have n15_:=Aside0.mk (blk_below (g:=gb674) (o:=.cells #[.bool t666,.slice Ao22 t667.length co22,.slice Ao23 t670.length co23] 25 (0,0)) (Bu BK674.out) hb)
   have n16_:=Aside0.mk (blk_below (g:=gb683) (o:=.cells #[.bool t675,.slice Ao28 t676.length co28,.slice Ao29 t679.length co29] 25 (0,0)) (Bu BK683.out) hb)
   have n17_:=Aside0.mk (blk_below (g:=gb692) (o:=.cells #[.bool t684,.slice Ao35 t685.length co35,.slice Ao36 t688.length co36] 25 (0,0)) (Bu BK692.out) hb)
   have n18_:=Aside0.mk (blk_below (g:=gb701) (o:=.cells #[.bool t693,.slice Ao43 t694.length co43,.slice Ao44 t697.length co44] 25 (0,0)) (Bu BK701.out) hb)
   have n19_:=Aside0.mk (below_step (by repeat (first|with_reducible exact HB.out|apply ba|apply bn|apply b1|refine below_set ?_ GE674.out|refine below_set ?_ GE683.out|refine below_set ?_ GE692.out|refine below_set ?_ GE701.out)) hb)
   clear HO669
   clear HO672
   clear HO678
   clear HO681
   clear HO687
   clear HO690
   clear HO696
   clear HO699
   clear HO705
   clear HO708
   clear HO713
   clear HO716
   clear HO721
   clear HO724
   clear HO728
   clear BK674
   clear BK683
   clear BK692
   clear BK701
   clear HB
   have HO669:=n0_
   have HO672:=n1_
   have HO678:=n2_
   have HO681:=n3_
   have HO687:=n4_
   have HO690:=n5_
   have HO696:=n6_
   have HO699:=n7_
   have HO705:=n8_
   have HO708:=n9_
   have HO713:=n10_
   have HO716:=n11_
   have HO721:=n12_
   have HO724:=n13_
   have HO728:=n14_
   have BK674:=n15_
   have BK683:=n16_
   have BK692:=n17_
   have BK701:=n18_
   have HB:=n19_
   clear n0_ n1_ n2_ n3_ n4_ n5_ n6_ n7_ n8_ n9_ n10_ n11_ n12_ n13_ n14_ n15_ n16_ n17_ n18_ n19_
   (try clear hb)
   (try clear hb2)
   (try clear hk)
   (try clear hi)
   refine hK.out _ _ ⟨(blk_cell BK674.out 0).trans rfl,(blk_cell BK674.out 1).trans rfl,(blk_cell BK674.out 2).trans rfl,(blk_cell BK683.out 0).trans rfl,(blk_cell BK683.out 1).trans rfl,(blk_cell BK683.out 2).trans rfl⟩ (fun hHeld=>?_)
   clear hK K
   refine norm_ (a':=?_) ?_ ?_
   rotate_left
   ·show Act.put _ (some 56) _=_
    simp only [Act.put,s0,s1,s2,i64_w,i32_w]
    rfl
   refine pv (i:=32) (N:=some 57) (v:=?_) (a':=?_) rfl rfl (any_of HT_.out (by kernel_rfl)) (Or.inl ⟨by rfl,?_⟩) ?_ ?_
   rotate_left
   ·intro w'
    go_simp
    with_reducible rfl
   rotate_left
   ·simp only [Act.put,s0,s1,s2,i64_w,i32_w]
    rfl
   refine pv (i:=33) (N:=some 58) (v:=?_) (a':=?_) rfl rfl (any_of HT_.out (by kernel_rfl)) (Or.inl ⟨by rfl,?_⟩) ?_ ?_
   rotate_left
   ·intro w'
    go_simp
    with_reducible rfl
   rotate_left
   ·simp only [Act.put,s0,s1,s2,i64_w,i32_w]
    rfl
   refine pv (i:=34) (N:=some 0) (v:=?_) (a':=?_) rfl rfl (any_of HT_.out (by kernel_rfl)) (Or.inl ⟨by rfl,?_⟩) ?_ ?_
   rotate_left
   ·intro w'
    go_simp
    with_reducible rfl
   rotate_left
   ·simp only [Act.put,s0,s1,s2,i64_w,i32_w]
    rfl
   refine done_ (done_of HT_.out (by kernel_rfl)) ?_
   try go_wp2
   go_ret
   exact ⟨by first|rfl|(simp [errW_none,errW_some] <;> rfl)|(simp [*,errW_none,errW_some] <;> rfl),by repeat (first|with_reducible exact HB.out|apply ba|apply bn|apply b1|refine below_set ?_ GE674.out|refine below_set ?_ GE683.out|refine below_set ?_ GE692.out|refine below_set ?_ GE701.out)⟩
  ·replace c12:=Bool.eq_false_iff.mpr c12
   subst c12
   rw [if_neg (show ¬ (false=true) by decide)] at H
   exact absurd H (by simp)
 ·replace c8:=Bool.eq_false_iff.mpr c8
  subst c8
  rw [if_neg (show ¬ (false=true) by decide)] at H
  exact absurd H (by simp)
end Go.Proofs.YtncdiodnbkhacaaDoor.Pq
end
section
namespace Go.Proofs.YtncdiodnbkhacaaDoor.Pq
open Go.RowKit Go.Proofs.YtncdiodnbkhacaaDoorW.PrintWords Go.Proofs.YtncdiodnbkhacaaDoorW.PrintLast Go.Proofs.YtncdiodnbkhacaaDoorW.PrintMore
attribute [local go_sem] max2_int min2_int max_two min_two max_three min_three max_four min_four
set_option linter.unusedVariables false
set_option linter.unusedSimpArgs false
set_option maxHeartbeats 8000000 in
set_option maxRecDepth 100000 in
theorem nat_Bits.calls (A0 : Option Addr) (c0 : Nat) (l0 : List Int) (r : Int) (w : World) (hr0 : Kd.C (Kd.int .u32) w A0 l0.length l0) (hc0 : l0.length≤c0) (h : nat_Bits.f l0=some r) :
  Calls Tryd.prog 95 #[.slice A0 l0.length c0] w fun e w'=>e=.returned (.int .i64 r)∧Drawn0 w w':=by
 have HR0:=Aside0.mk hr0
 have HC0:=Aside0.mk hc0
 clear hr0 hc0
 have H : ((nat_trim.f l0).bind fun t890=>(if (t890.length : Int)=0 then (some 0) else (if 0≤(wrap64 ((t890.length : Int) - 1)) then (if (wrap64 ((t890.length : Int) - 1)) < (t890.length : Int) then ((bits_LeadingZeros32.f (rd t890 (wrap64 ((t890.length : Int) - 1)))).bind fun t893=>(some (wrap64 ((wrap64 (32 * (t890.length : Int))) - t893)))) else (none)) else (none))))=some r:=h
 clear h
 replace H:=Option.bind_eq_some_iff.mp H
 obtain ⟨t890,A20,H⟩:=H
 try dsimp only at H
 have A2:=Aside0.mk A20
 clear A20
 by_cases c3 : (t890.length : Int)=0
 ·rw [if_pos c3] at H
  have c3b0 : ((t890.length : Int) == 0)=true:=beq_iff_eq.mpr c3
  have c3b1 : ((t890.length : Int) != 0)=false:=bne_eq_false_iff_eq.mpr c3
  clear c3
  obtain rfl:=Option.some.inj H
  go_enter Tryd.func95,Tryd.ntmps95
  go_wp2_with (first|((with_reducible refine gate_callee (f:=43) rfl ?_);refine goesL_ (some 4) rfl rfl Tryd.func43 (by kernel_rfl) rfl #[.slice A0 l0.length c0] rfl (by (try simp only [List.map_toArray,List.map_cons,List.map_nil]);first|done|rfl) ?_;(with_reducible refine (nat_trim.calls _ _ l0 t890 _ ?side1 ?side2 A2.out).mono ?_);(case side1=>exact Cu HR0.out);(case side2=>exact HC0.out);rintro e w' ⟨rfl,⟨nd,rfl⟩⟩;refine ⟨_,rfl,?_⟩;have HR891:=Aside0.mk (nat_trim.C HR0.out A2.out);have HC891:=Aside0.mk (Nat.le_refl t890.length)))
  go_ret
  exact ⟨by first|rfl|(simp;done)|(simp [*];done),by repeat (first|exact Drawn0.refl _|apply Drawn0.step)⟩
 ·rw [if_neg c3] at H
  have c3b0 : ((t890.length : Int) == 0)=false:=beq_eq_false_iff_ne.mpr c3
  have c3b1 : ((t890.length : Int) != 0)=true:=bne_iff_ne.mpr c3
  have c3b2 : ¬ (t890=[]):=fun h_=>c3 (by rw [h_];rfl)
  obtain ⟨ji4,hji4⟩ : ∃ j_ : Int,(wrap64 ((t890.length : Int) - 1))=j_:=⟨_,rfl⟩
  replace H : (if 0≤(ji4) then (if (ji4) < (t890.length : Int) then ((bits_LeadingZeros32.f (rd t890 (ji4))).bind fun t893=>(some (wrap64 ((wrap64 (32 * (t890.length : Int))) - t893)))) else (none)) else (none))=some r:=by first|(rw [hji4] at H;exact H)|(simp only [hji4] at H ⊢;exact H)
  (try rw [hji4] at A2)
  have hji4w : (IntKind.i64.wrap ((t890.length : Int) - 1))=ji4:=(i64_w _).trans hji4
  by_cases c5 : 0≤(ji4)
  case neg =>rw [if_neg c5] at H;exact absurd H (by simp)
  rw [if_pos c5] at H
  have c5b0 : decide (0≤(ji4))=true:=decide_eq_true c5
  clear c5
  by_cases c6 : (ji4) < (t890.length : Int)
  case neg =>rw [if_neg c6] at H;exact absurd H (by simp)
  rw [if_pos c6] at H
  have c6b0 : decide ((ji4) < (t890.length : Int))=true:=decide_eq_true c6
  clear c6
  replace H:=Option.bind_eq_some_iff.mp H
  obtain ⟨t893,A70,H⟩:=H
  try dsimp only at H
  have A7:=Aside0.mk A70
  clear A70
  obtain rfl:=Option.some.inj H
  go_enter Tryd.func95,Tryd.ntmps95
  go_wp2_with (first|((with_reducible refine gate_callee (f:=43) rfl ?_);refine goesL_ (some 4) rfl rfl Tryd.func43 (by kernel_rfl) rfl #[.slice A0 l0.length c0] rfl (by (try simp only [List.map_toArray,List.map_cons,List.map_nil]);first|done|rfl) ?_;(with_reducible refine (nat_trim.calls _ _ l0 t890 _ ?side1 ?side2 A2.out).mono ?_);(case side1=>exact Cu HR0.out);(case side2=>exact HC0.out);rintro e w' ⟨rfl,⟨nd,rfl⟩⟩;refine ⟨_,rfl,?_⟩;have HR891:=Aside0.mk (nat_trim.C HR0.out A2.out);have HC891:=Aside0.mk (Nat.le_refl t890.length);have p892 : 0≤((ji4) : Int):=of_decide_eq_true (by assumption);have q892 : (ji4) < (t890.length : Int):=of_decide_eq_true (by assumption);obtain ⟨ad892,e892,hx892_0⟩:=Kd.at_int HR891.out (ji4) p892 q892;cases e892;replace p892:=eq_true p892;replace q892:=eq_true q892)|((with_reducible refine gate_callee (f:=86) rfl ?_);refine goesL_ (some 17) rfl rfl Tryd.func86 (by kernel_rfl) rfl #[.int .u32 (rd t890 (ji4))] rfl (by (try simp only [List.map_toArray,List.map_cons,List.map_nil]);first|done|(simp only [hji4];rfl)|rfl|(simp only [List.length_drop,List.length_take];rfl)) ?_;(with_reducible refine (bits_LeadingZeros32.calls (rd t890 (ji4)) t893 _ A7.out).mono ?_);rintro e w' ⟨rfl,⟨nd,rfl⟩⟩;refine ⟨_,rfl,?_⟩))
  go_ret
  exact ⟨by first|rfl|(simp;done)|(simp only [← hji4] <;> (first|rfl|simp))|(simp [*];done),by repeat (first|exact Drawn0.refl _|apply Drawn0.step)⟩
end Go.Proofs.YtncdiodnbkhacaaDoor.Pq
end
section
namespace Go.Proofs.YtncdiodnbkhacaaDoor.Pq
open Go.RowKit Go.Proofs.YtncdiodnbkhacaaDoorW.PrintWords Go.Proofs.YtncdiodnbkhacaaDoorW.PrintLast Go.Proofs.YtncdiodnbkhacaaDoorW.PrintMore
attribute [local go_sem] max2_int min2_int max_two min_two max_three min_three max_four min_four
set_option linter.unusedVariables false
set_option linter.unusedSimpArgs false
set_option maxHeartbeats 8000000 in
set_option maxRecDepth 100000 in
theorem rat_Sign.calls (k : Nat) (a0_0 : Bool) (A0_1 : Option Addr) (c0_1 : Nat) (l0_1 : List Int) (A0_2 : Option Addr) (c0_2 : Nat) (l0_2 : List Int) (r : Int) (w : World) (hr0_1 : Kd.C (Kd.int .u32) w A0_1 l0_1.length l0_1) (hc0_1 : l0_1.length≤c0_1) (hr0_2 : Kd.C (Kd.int .u32) w A0_2 l0_2.length l0_2) (hc0_2 : l0_2.length≤c0_2) (h : rat_Sign.f k a0_0 l0_1 l0_2=some r) :
  Calls Tryd.prog 75 #[.agg #[.bool a0_0,.slice A0_1 l0_1.length c0_1,.slice A0_2 l0_2.length c0_2]] w fun e w'=>e=.returned (.int .i64 r)∧Below w.heap.size w w':=by
 have hu25:=Tryd.underlying25
 have HR0_1:=Aside0.mk hr0_1
 have HC0_1:=Aside0.mk hc0_1
 clear hr0_1 hc0_1
 have HR0_2:=Aside0.mk hr0_2
 have HC0_2:=Aside0.mk hc0_2
 clear hr0_2 hc0_2
 have HB:=Aside0.mk (Below.refl w.heap.size w)
 have H : ((nat_Bits.f l0_1).bind fun t895=>(if t895=0 then (rat_Sign.j0 k true a0_0 l0_1 l0_2) else ((nat_Bits.f l0_2).bind fun t896=>(rat_Sign.j0 k (t896 == 0) a0_0 l0_1 l0_2))))=some r:=h
 clear h
 have HC2:=Aside0.mk H
 clear H
 go_enter Tryd.func75,Tryd.ntmps75
 go_upto_region 1 with (first|((with_reducible refine gate_dst (N:=1) rfl ?_);refine box_event ?hg (N:=1) ?hd (cs:=#[.bool a0_0,.slice A0_1 l0_1.length c0_1,.slice A0_2 l0_2.length c0_2]) (t:=25) ?hr ?_;(case hd=>rfl);(case hg=>rfl);(case hr=>first|(go_simp;done)|(go_simp;(with_reducible rfl))|(go_simp;rfl)|(go_simp;simp only [hu,Int.emod_sub_emod]));intro gb894 hg w3 hbox hb;have n0_:=Aside0.mk (below_step (Hu HB.out) hb);have n1_:=Aside0.mk (hbox);have n2_:=Aside0.mk ((by rw [hg];exact (below_size (Hu HB.out)) : w.heap.size≤gb894));have n3_:=Aside0.mk ((by rw [hg];exact (below_size (Hu HB.out)) : w.heap.size≤gb894));clear HB;have HB:=n0_;have BK894:=n1_;have GW894:=n2_;have GE894:=n3_;clear n0_ n1_ n2_ n3_;clear hb hbox hg))
 (try simp only [Act.put,s0,s1,s2])
 go_cut [12] (fun v12 wc=>∃ (kq : Nat) (x12_1 : Bool),v12=.bool x12_1∧Aside0 (rat_Sign.j0 kq x12_1 a0_0 l0_1 l0_2=some r)∧Aside0 (kq≤k)∧Aside0 (wc.heap[gb894]? = some (.cells #[.bool a0_0,(.slice A0_1 l0_1.length c0_1),(.slice A0_2 l0_2.length c0_2)] 25 (0,0)))∧Aside0 (Below w.heap.size w wc))
 case first =>
  have H:=HC2.out
  clear HC2
  replace H:=Option.bind_eq_some_iff.mp H
  obtain ⟨t895,A40,H⟩:=H
  try dsimp only at H
  have A4:=Aside0.mk A40
  clear A40
  by_cases c5 : t895=0
  ·rw [if_pos c5] at H
   have c5b0 : (t895 == 0)=true:=beq_iff_eq.mpr c5
   have c5b1 : (t895 != 0)=false:=bne_eq_false_iff_eq.mpr c5
   clear c5
   (first|rw [c5b0]|(simp only [i64_w,i32_w];rw [c5b0])|skip)
   have H':=Aside0.mk H
   clear H
   have hcz6_0 : w3.cell? ⟨gb894,0,none⟩=some (.bool a0_0):=(blk_cell BK894.out 0).trans rfl
   have hcz6_1 : w3.cell? ⟨gb894,1,none⟩=some (.slice A0_1 l0_1.length c0_1):=(blk_cell BK894.out 1).trans rfl
   have hcz6_2 : w3.cell? ⟨gb894,2,none⟩=some (.slice A0_2 l0_2.length c0_2):=(blk_cell BK894.out 2).trans rfl
   have hfz6_0:=blk_frozen BK894.out 0
   have hfz6_1:=blk_frozen BK894.out 1
   have hfz6_2:=blk_frozen BK894.out 2
   go_wp2_with (first|((with_reducible refine gate_callee (f:=95) rfl ?_);refine goesL_ (some 5) rfl rfl Tryd.func95 (by kernel_rfl) rfl #[.slice A0_1 l0_1.length c0_1] rfl (by (try simp only [List.map_toArray,List.map_cons,List.map_nil]);first|done|rfl) ?_;(with_reducible refine (nat_Bits.calls _ _ l0_1 t895 _ ?side1 ?side2 A4.out).mono ?_);(case side1=>repeat (first|exact (Kd.C_below HR0_1.out HB.out)|(with_reducible refine Kd.C_alloc ?_ _)|(with_reducible refine Kd.C_drewN ?_ _)|(with_reducible refine Kd.C_drew ?_)));(case side2=>exact HC0_1.out);rintro e w' ⟨rfl,⟨nd,rfl⟩⟩;refine ⟨_,rfl,?_⟩))
   go_meet
   case rel=>exact ⟨_,(true),(by first|rfl|(simp;done)|(simp [*];done)),H',⟨by first|omega|exact Nat.le_refl _⟩,⟨Bu BK894.out⟩,⟨by repeat (first|with_reducible exact HB.out|apply ba|apply bn|apply b1|refine below_set ?_ GE894.out)⟩⟩
  ·rw [if_neg c5] at H
   have c5b0 : (t895 == 0)=false:=beq_eq_false_iff_ne.mpr c5
   have c5b1 : (t895 != 0)=true:=bne_iff_ne.mpr c5
   (first|rw [c5b0]|(simp only [i64_w,i32_w];rw [c5b0])|skip)
   replace H:=Option.bind_eq_some_iff.mp H
   obtain ⟨t896,A70,H⟩:=H
   try dsimp only at H
   have A7:=Aside0.mk A70
   clear A70
   have H':=Aside0.mk H
   clear H
   have hcz8_0 : w3.cell? ⟨gb894,0,none⟩=some (.bool a0_0):=(blk_cell BK894.out 0).trans rfl
   have hcz8_1 : w3.cell? ⟨gb894,1,none⟩=some (.slice A0_1 l0_1.length c0_1):=(blk_cell BK894.out 1).trans rfl
   have hcz8_2 : w3.cell? ⟨gb894,2,none⟩=some (.slice A0_2 l0_2.length c0_2):=(blk_cell BK894.out 2).trans rfl
   have hfz8_0:=blk_frozen BK894.out 0
   have hfz8_1:=blk_frozen BK894.out 1
   have hfz8_2:=blk_frozen BK894.out 2
   go_wp2_with (first|((with_reducible refine gate_callee (f:=95) rfl ?_);refine goesL_ (some 5) rfl rfl Tryd.func95 (by kernel_rfl) rfl #[.slice A0_1 l0_1.length c0_1] rfl (by (try simp only [List.map_toArray,List.map_cons,List.map_nil]);first|done|rfl) ?_;(with_reducible refine (nat_Bits.calls _ _ l0_1 t895 _ ?side1 ?side2 A4.out).mono ?_);(case side1=>repeat (first|exact (Kd.C_below HR0_1.out HB.out)|(with_reducible refine Kd.C_alloc ?_ _)|(with_reducible refine Kd.C_drewN ?_ _)|(with_reducible refine Kd.C_drew ?_)));(case side2=>exact HC0_1.out);rintro e w' ⟨rfl,⟨nd,rfl⟩⟩;refine ⟨_,rfl,?_⟩)|(go_at_call 95;(with_reducible refine (nat_Bits.calls _ _ l0_2 t896 _ ?side1 ?side2 A7.out).mono ?_);(case side1=>repeat (first|exact (Kd.C_below HR0_2.out (by repeat (first|with_reducible exact HB.out|apply ba|apply bn|apply b1|refine below_set ?_ GE894.out)))|(with_reducible refine Kd.C_alloc ?_ _)|(with_reducible refine Kd.C_drewN ?_ _)|(with_reducible refine Kd.C_drew ?_)));(case side2=>exact HC0_2.out);rintro e w' ⟨rfl,⟨nd,rfl⟩⟩))
   go_meet
   case rel=>exact ⟨_,((t896 == 0)),(by first|rfl|(simp;done)|(simp [*];done)),H',⟨by first|omega|exact Nat.le_refl _⟩,⟨Bu BK894.out⟩,⟨by repeat (first|with_reducible exact HB.out|apply ba|apply bn|apply b1|refine below_set ?_ GE894.out)⟩⟩
 case rest =>
  clear HC2
  obtain ⟨kq,x12_1,rfl,HA,HJ1,BK894,HB⟩:=hcut
  cases kq with
 |zero=>exact absurd HA.out (by simp [rat_Sign.j0])
 |succ kj1 =>
   have H:=HA.out
   clear HA
   simp only [rat_Sign.j0] at H
   by_cases c9 : x12_1=true
   ·subst c9
    rw [if_pos rfl] at H
    obtain rfl:=Option.some.inj H
    go_wp2
    go_ret
    exact ⟨by first|rfl|(simp [errW_none,errW_some] <;> rfl)|(simp [*,errW_none,errW_some] <;> rfl),by repeat (first|with_reducible exact HB.out|apply ba|apply bn|apply b1|refine below_set ?_ GE894.out)⟩
   ·replace c9:=Bool.eq_false_iff.mpr c9
    subst c9
    rw [if_neg (show ¬ (false=true) by decide)] at H
    by_cases c10 : a0_0=true
    ·subst c10
     rw [if_pos rfl] at H
     obtain rfl:=Option.some.inj H
     have hcz11_0 : wc.cell? ⟨gb894,0,none⟩=some (.bool true):=(blk_cell BK894.out 0).trans rfl
     have hcz11_1 : wc.cell? ⟨gb894,1,none⟩=some (.slice A0_1 l0_1.length c0_1):=(blk_cell BK894.out 1).trans rfl
     have hcz11_2 : wc.cell? ⟨gb894,2,none⟩=some (.slice A0_2 l0_2.length c0_2):=(blk_cell BK894.out 2).trans rfl
     have hfz11_0:=blk_frozen BK894.out 0
     have hfz11_1:=blk_frozen BK894.out 1
     have hfz11_2:=blk_frozen BK894.out 2
     go_wp2
     go_ret
     exact ⟨by first|rfl|(simp [errW_none,errW_some] <;> rfl)|(simp [*,errW_none,errW_some] <;> rfl),by repeat (first|with_reducible exact HB.out|apply ba|apply bn|apply b1|refine below_set ?_ GE894.out)⟩
    ·replace c10:=Bool.eq_false_iff.mpr c10
     subst c10
     rw [if_neg (show ¬ (false=true) by decide)] at H
     obtain rfl:=Option.some.inj H
     have hcz12_0 : wc.cell? ⟨gb894,0,none⟩=some (.bool false):=(blk_cell BK894.out 0).trans rfl
     have hcz12_1 : wc.cell? ⟨gb894,1,none⟩=some (.slice A0_1 l0_1.length c0_1):=(blk_cell BK894.out 1).trans rfl
     have hcz12_2 : wc.cell? ⟨gb894,2,none⟩=some (.slice A0_2 l0_2.length c0_2):=(blk_cell BK894.out 2).trans rfl
     have hfz12_0:=blk_frozen BK894.out 0
     have hfz12_1:=blk_frozen BK894.out 1
     have hfz12_2:=blk_frozen BK894.out 2
     go_wp2
     go_ret
     exact ⟨by first|rfl|(simp [errW_none,errW_some] <;> rfl)|(simp [*,errW_none,errW_some] <;> rfl),by repeat (first|with_reducible exact HB.out|apply ba|apply bn|apply b1|refine below_set ?_ GE894.out)⟩
end Go.Proofs.YtncdiodnbkhacaaDoor.Pq
end
