import Derived.Test.YtncdiodnbkhacaaDoorDPoi2
set_option linter.unusedVariables false
set_option linter.unusedSimpArgs false
section
section
namespace Go.Proofs.YtncdiodnbkhacaaDoor.Pq
open Go.RowKit Go.Proofs.YtncdiodnbkhacaaDoorW.PrintWords Go.Proofs.YtncdiodnbkhacaaDoorW.PrintLast Go.Proofs.YtncdiodnbkhacaaDoorW.PrintMore
attribute [local go_sem] max2_int min2_int max_two min_two max_three min_three max_four min_four
set_option linter.unusedVariables false
set_option linter.unusedSimpArgs false
set_option maxHeartbeats 8000000
set_option maxRecDepth 100000
theorem decimal_number.mono_l : ∀ k,(∀ y0 y1,LeO (decimal_number.l0 k y0 y1) (decimal_number.l0 (k+1) y0 y1))∧(∀ y0 y1 y2 y3 y4 y5 y6,LeO (decimal_number.l1 k y0 y1 y2 y3 y4 y5 y6) (decimal_number.l1 (k+1) y0 y1 y2 y3 y4 y5 y6))
|0=>⟨fun _ _ r h=>by simp [decimal_number.l0] at h,fun _ _ _ _ _ _ _ r h=>by simp [decimal_number.l1] at h⟩
|k+1=>by
  obtain ⟨ih0,ih1⟩:=decimal_number.mono_l k
  refine ⟨?_,?_⟩
  ·intro y0 y1
   unfold decimal_number.l0
   with_reducible repeat' first
  |exact ih0 _ _
  |exact ih1 _ _ _ _ _ _ _
  |exact nat_Add.mono _ _ _
  |exact nat_Mul.mono _ _ _
  |exact LeO.refl _
  |exact LeO.none _
  |refine LeO.ite ?_ ?_
  |refine LeO.bind ?_ (fun _=>?_)
  ·intro y0 y1 y2 y3 y4 y5 y6
   unfold decimal_number.l1
   with_reducible repeat' first
  |exact ih0 _ _
  |exact ih1 _ _ _ _ _ _ _
  |exact nat_Add.mono _ _ _
  |exact nat_Mul.mono _ _ _
  |exact LeO.refl _
  |exact LeO.none _
  |refine LeO.ite ?_ ?_
  |refine LeO.bind ?_ (fun _=>?_)
theorem decimal_number.mono : ∀ a0 k,LeO (decimal_number.f k a0) (decimal_number.f (k+1) a0):=by
 intro a0 k
 obtain ⟨ih0,ih1⟩:=decimal_number.mono_l k
 unfold decimal_number.f
 with_reducible repeat' first
  |exact ih0 _ _
  |exact ih1 _ _ _ _ _ _ _
  |exact nat_Add.mono _ _ _
  |exact nat_Mul.mono _ _ _
  |exact LeO.refl _
  |exact LeO.none _
  |refine LeO.ite ?_ ?_
  |refine LeO.bind ?_ (fun _=>?_)
theorem decimal_number.calls (k : Nat) (a0 : ByteArray) (r : List Int) (w : World) (h : decimal_number.f k a0=some r) :
  Calls Tryd.prog 28 #[.string a0] w fun e w'=>∃ v0_ : Value,e=.returned (v0_)∧Kd.R (Kd.int .u32) 35 w' w.heap.size (fun _=>True) v0_ r∧Below w.heap.size w w':=by
 have HB:=Aside0.mk (Below.refl w.heap.size w)
 have H : (decimal_number.l0 k a0 ([] : List Int))=some r:=h
 clear h
 have H':=Aside0.mk H
 clear H
 go_enter Tryd.func28,Tryd.ntmps28
 go_wp2
 go_loopg [0,3] k (fun kq v0 v3 w'=>∃ (x0_1 : ByteArray) (x3_1 : List Int),v0=.string x0_1∧Aside0 (decimal_number.l0 kq x0_1 x3_1=some r)∧Aside0 (kq≤k)∧Aside0 (Kd.R (Kd.int .u32) 35 w' w.heap.size (fun _=>True) v3 x3_1)∧Aside0 (Below w.heap.size w w'))
 case atStart=>exact ⟨(a0),(([] : List Int)),(by first|rfl|(simp;done)|(simp [*];done)),H',⟨Nat.le_refl _⟩,⟨by first|exact Kd.R_nil _ _ _ _ _|exact Kd.N_nil _ _ _ _ _|exact Kd.V_nil _ _ _ _ _|exact Kd.Q_nil _ _ _ _ _|exact Kd.S_nil _ _ _ _ _⟩,⟨Hu HB.out⟩⟩
 case round =>
  clear H'
  obtain ⟨x0_1,x3_1,rfl,HA,HK1,HO_3,HB⟩:=hrel
  cases gk with
 |zero=>exact absurd HA.out (by simp [decimal_number.l0])
 |succ k1 =>
   have H:=HA.out
   clear HA
   simp only [decimal_number.l0] at H
   by_cases c2 : (x0_1.size : Int) > 0
   ·rw [if_pos c2] at H
    have c2b0 : decide (0 < (x0_1.size : Int))=true:=decide_eq_true c2
    have c2b1 : decide (0 < x0_1.size)=true:=decide_eq_true (by omega)
    clear c2
    obtain ⟨ji3,hji3⟩ : ∃ j_ : Int,(mn 9 (x0_1.size : Int))=j_:=⟨_,rfl⟩
    replace H : (decimal_number.l1 k1 x0_1 x3_1 ji3 0 1 ji3 0)=some r:=by first|(rw [hji3] at H;exact H)|(simp only [hji3] at H ⊢;exact H)
    have hji3_ : (if (x0_1.size : Int) < 9 then (x0_1.size : Int) else 9)=ji3:=hji3
    have H':=Aside0.mk H
    clear H
    go_wp2
    go_loopg [5,6,15] k1 (fun kq v5 v6 v15 w'=>∃ (x5_2 : Int) (x6_2 : Int) (x15_2 : Int),v5=.int .u64 x5_2∧v6=.int .u64 x6_2∧v15=.int .i64 x15_2∧Aside0 (decimal_number.l1 kq x0_1 x3_1 ji3 x5_2 x6_2 ji3 x15_2=some r)∧Aside0 (kq≤k1)∧Aside0 (Kd.R (Kd.int .u32) 35 w' w.heap.size (fun _=>True) u3 x3_1)∧Aside0 (Below w.heap.size w w'))
    case atStart=>exact ⟨(0),(1),(0),(by first|rfl|(simp;done)|(simp [*];done)),(by first|rfl|(simp;done)|(simp [*];done)),(by first|rfl|(simp;done)|(simp [*];done)),H',⟨Nat.le_refl _⟩,⟨Ru HO_3.out⟩,⟨Hu HB.out⟩⟩
    case round =>
     clear H'
     obtain ⟨x5_2,x6_2,x15_2,rfl,rfl,rfl,HA,HK2,HO_3,HB⟩:=hrel
     cases gk with
    |zero=>exact absurd HA.out (by simp [decimal_number.l1])
    |succ k2 =>
      have H:=HA.out
      clear HA
      simp only [decimal_number.l1] at H
      by_cases c4 : x15_2 < ji3
      ·rw [if_pos c4] at H
       have c4b0 : decide (x15_2 < ji3)=true:=decide_eq_true c4
       clear c4
       by_cases c5 : 0≤x15_2
       case neg =>rw [if_neg c5] at H;exact absurd H (by simp)
       rw [if_pos c5] at H
       have c5b0 : decide (0≤x15_2)=true:=decide_eq_true c5
       clear c5
       by_cases c6 : x15_2 < (x0_1.size : Int)
       case neg =>rw [if_neg c6] at H;exact absurd H (by simp)
       rw [if_pos c6] at H
       have c6b0 : decide (x15_2 < (x0_1.size : Int))=true:=decide_eq_true c6
       clear c6
       have H':=Aside0.mk H
       clear H
       have p7 : 0≤(x15_2 : Int):=of_decide_eq_true (by assumption)
       have q7 : x15_2 < (x0_1.size : Int):=of_decide_eq_true (by assumption)
       have hx7:=bt_at x0_1 x15_2
       replace p7:=eq_true p7
       replace q7:=eq_true q7
       go_wp2
       go_roundg k2
       case measure=>have:=HK1.out;have:=HK2.out;omega
       case rel=>exact ⟨(IntKind.u64.wrap ((IntKind.u64.wrap (10 * x5_2))+(((bt x0_1 x15_2) - 48) % 256))),(IntKind.u64.wrap (x6_2 * 10)),(wrap64 (x15_2+1)),(by first|rfl|(simp;done)|(simp [*];done)),(by first|rfl|(simp;done)|(simp [*];done)),(by first|rfl|(simp;done)|(simp [*];done)),H',⟨by have:=HK1.out;have:=HK2.out;omega⟩,⟨Ru HO_3.out⟩,⟨Hu HB.out⟩⟩
      ·rw [if_neg c4] at H
       have c4b0 : decide (x15_2 < ji3)=false:=decide_eq_false c4
       clear c4
       replace H:=Option.bind_eq_some_iff.mp H
       obtain ⟨t362,A80,H⟩:=H
       try dsimp only at H
       have A8:=Aside0.mk A80
       clear A80
       replace H:=Option.bind_eq_some_iff.mp H
       obtain ⟨t365,A90,H⟩:=H
       try dsimp only at H
       have A9:=Aside0.mk A90
       clear A90
       replace H:=Option.bind_eq_some_iff.mp H
       obtain ⟨t368,A100,H⟩:=H
       try dsimp only at H
       have A10:=Aside0.mk A100
       clear A100
       replace H:=Option.bind_eq_some_iff.mp H
       obtain ⟨t371,A110,H⟩:=H
       try dsimp only at H
       have A11:=Aside0.mk A110
       clear A110
       by_cases c12 : 0≤ji3
       case neg =>rw [if_neg c12] at H;exact absurd H (by simp)
       rw [if_pos c12] at H
       have c12b0:=eq_true c12
       have c12b1 : decide (0≤ji3)=true:=decide_eq_true c12
       clear c12
       by_cases c13 : ji3≤(x0_1.size : Int)
       case neg =>rw [if_neg c13] at H;exact absurd H (by simp)
       rw [if_pos c13] at H
       have c13b0:=eq_true c13
       have c13b1 : decide (ji3≤(x0_1.size : Int))=true:=decide_eq_true c13
       clear c13
       have H':=Aside0.mk H
       clear H
       go_wp2_with (first|((with_reducible refine gate_callee (f:=36) rfl ?_);refine goesL_ (some 31) rfl rfl Tryd.func36 (by kernel_rfl) rfl #[.int .u64 x6_2] rfl (by (try simp only [List.map_toArray,List.map_cons,List.map_nil]);first|done|rfl) ?_;(with_reducible refine (nat_Of.calls x6_2 t362 _ A8.out).mono ?_);rintro e w14 ⟨v363,rfl,ho0,hb⟩;refine ⟨_,rfl,?_⟩;have n0_:=Aside0.mk (Kd.R_elder' (Ru HO_3.out) (Kd.R_base ho0) hb);have n1_:=Aside0.mk (Kd.R_lower (Kd.R_new' ho0 (Kd.R_lt (Ru HO_3.out))) (below_size (Hu HB.out)));have n2_:=Aside0.mk (below_step (Hu HB.out) hb);clear HO_3;clear HB;have HO_3:=n0_;have HO364:=n1_;have HB:=n2_;clear n0_ n1_ n2_;obtain ⟨Ao15,co15,eo15⟩:=Kd.R_slice HO_3.out;subst eo15;obtain ⟨Ao16,co16,eo16⟩:=Kd.R_slice HO364.out;subst eo16)|((with_reducible refine gate_callee (f:=16) rfl ?_);refine goesL_ (some 32) rfl rfl Tryd.func16 (by kernel_rfl) rfl #[.slice Ao15 x3_1.length co15,.slice Ao16 t362.length co16] rfl (by (try simp only [List.map_toArray,List.map_cons,List.map_nil]);first|done|rfl) ?_;(with_reducible refine (nat_Mul.calls k2 _ _ x3_1 _ _ t362 t365 _ ?side1 ?side2 ?side3 ?side4 A9.out).mono ?_);(case side1=>exact Cu (Kd.R_reads' HO_3.out).2.2);(case side2=>exact (Kd.R_reads' HO_3.out).2.1);(case side3=>exact Cu (Kd.R_reads' HO364.out).2.2);(case side4=>exact (Kd.R_reads' HO364.out).2.1);rintro e w17 ⟨v366,rfl,ho0,hb⟩;refine ⟨_,rfl,?_⟩;have n0_:=Aside0.mk (Kd.R_elder' (Ru HO_3.out) (Kd.R_base ho0) hb);have n1_:=Aside0.mk (Kd.R_elder' (Ru HO364.out) (Kd.R_base ho0) hb);have n2_:=Aside0.mk (Kd.R_lower (Kd.R_new' (Kd.R_new' ho0 (Kd.R_lt (Ru HO_3.out))) (Kd.R_lt (Ru HO364.out))) (below_size (Hu HB.out)));have n3_:=Aside0.mk (below_step (Hu HB.out) hb);clear HO_3;clear HO364;clear HB;have HO_3:=n0_;have HO364:=n1_;have HO367:=n2_;have HB:=n3_;clear n0_ n1_ n2_ n3_)|((with_reducible refine gate_callee (f:=36) rfl ?_);refine goesL_ (some 34) rfl rfl Tryd.func36 (by kernel_rfl) rfl #[.int .u64 x5_2] rfl (by (try simp only [List.map_toArray,List.map_cons,List.map_nil]);first|done|rfl) ?_;(with_reducible refine (nat_Of.calls x5_2 t368 _ A10.out).mono ?_);rintro e w18 ⟨v369,rfl,ho0,hb⟩;refine ⟨_,rfl,?_⟩;have n0_:=Aside0.mk (Kd.R_elder' (Ru HO_3.out) (Kd.R_base ho0) hb);have n1_:=Aside0.mk (Kd.R_elder' (Ru HO364.out) (Kd.R_base ho0) hb);have n2_:=Aside0.mk (Kd.R_elder' (Ru HO367.out) (Kd.R_base ho0) hb);have n3_:=Aside0.mk (Kd.R_lower (Kd.R_new' (Kd.R_new' (Kd.R_new' ho0 (Kd.R_lt (Ru HO_3.out))) (Kd.R_lt (Ru HO364.out))) (Kd.R_lt (Ru HO367.out))) (below_size (Hu HB.out)));have n4_:=Aside0.mk (below_step (Hu HB.out) hb);clear HO_3;clear HO364;clear HO367;clear HB;have HO_3:=n0_;have HO364:=n1_;have HO367:=n2_;have HO370:=n3_;have HB:=n4_;clear n0_ n1_ n2_ n3_ n4_;obtain ⟨Ao19,co19,eo19⟩:=Kd.R_slice HO367.out;subst eo19;obtain ⟨Ao20,co20,eo20⟩:=Kd.R_slice HO370.out;subst eo20)|((with_reducible refine gate_callee (f:=56) rfl ?_);refine goesL_ (some 35) rfl rfl Tryd.func56 (by kernel_rfl) rfl #[.slice Ao19 t365.length co19,.slice Ao20 t368.length co20] rfl (by (try simp only [List.map_toArray,List.map_cons,List.map_nil]);first|done|rfl) ?_;(with_reducible refine (nat_Add.calls k2 _ _ t365 _ _ t368 t371 _ ?side1 ?side2 ?side3 ?side4 A11.out).mono ?_);(case side1=>exact Cu (Kd.R_reads' HO367.out).2.2);(case side2=>exact (Kd.R_reads' HO367.out).2.1);(case side3=>exact Cu (Kd.R_reads' HO370.out).2.2);(case side4=>exact (Kd.R_reads' HO370.out).2.1);rintro e w21 ⟨v372,rfl,ho0,hb⟩;refine ⟨_,rfl,?_⟩;have n0_:=Aside0.mk (Kd.R_elder' (Ru HO_3.out) (Kd.R_base ho0) hb);have n1_:=Aside0.mk (Kd.R_elder' (Ru HO364.out) (Kd.R_base ho0) hb);have n2_:=Aside0.mk (Kd.R_elder' (Ru HO367.out) (Kd.R_base ho0) hb);have n3_:=Aside0.mk (Kd.R_elder' (Ru HO370.out) (Kd.R_base ho0) hb);have n4_:=Aside0.mk (Kd.R_lower (Kd.R_new' (Kd.R_new' (Kd.R_new' (Kd.R_new' ho0 (Kd.R_lt (Ru HO_3.out))) (Kd.R_lt (Ru HO364.out))) (Kd.R_lt (Ru HO367.out))) (Kd.R_lt (Ru HO370.out))) (below_size (Hu HB.out)));have n5_:=Aside0.mk (below_step (Hu HB.out) hb);clear HO_3;clear HO364;clear HO367;clear HO370;clear HB;have HO_3:=n0_;have HO364:=n1_;have HO367:=n2_;have HO370:=n3_;have HO373:=n4_;have HB:=n5_;clear n0_ n1_ n2_ n3_ n4_ n5_))
       go_roundg k2
       case measure=>have:=HK1.out;have:=HK2.out;omega
       case rel=>exact ⟨(x0_1.extract (ji3 : Int).toNat x0_1.size),(t371),(by first|rfl|(simp;done)|(simp only [← hji3] <;> (first|rfl|simp))|(simp [*];done)),H',⟨by have:=HK1.out;have:=HK2.out;omega⟩,⟨by (with_reducible repeat (first|apply Ra|apply Rn|apply Rd));exact Kd.R_mono HO373.out (fun _ hk=>trivial)⟩,⟨Hu HB.out⟩⟩
   ·rw [if_neg c2] at H
    have c2b0 : decide (0 < (x0_1.size : Int))=false:=decide_eq_false c2
    have c2b1 : decide (0 < x0_1.size)=false:=decide_eq_false (by omega)
    clear c2
    obtain rfl:=Option.some.inj H
    go_wp2
    go_ret
    exact ⟨_,by first|rfl|(simp [errW_none,errW_some] <;> rfl)|(simp [*,errW_none,errW_some] <;> rfl),by (with_reducible repeat (first|apply Ra|apply Rn|apply Rd));exact HO_3.out,Hu HB.out⟩
end Go.Proofs.YtncdiodnbkhacaaDoor.Pq
end
end
section
section
namespace Go.Proofs.YtncdiodnbkhacaaDoor.Pq
open Go.RowKit Go.Proofs.YtncdiodnbkhacaaDoorW.PrintWords Go.Proofs.YtncdiodnbkhacaaDoorW.PrintLast Go.Proofs.YtncdiodnbkhacaaDoorW.PrintMore
attribute [local go_sem] max2_int min2_int max_two min_two max_three min_three max_four min_four
set_option linter.unusedVariables false
set_option linter.unusedSimpArgs false
set_option maxHeartbeats 8000000
set_option maxRecDepth 100000
theorem rat_one.calls  (r : List Int) (w : World) (h : rat_one.f  = some r) :
  Calls Tryd.prog 47 #[] w fun e w'=>∃ v0_ : Value,e=.returned (v0_)∧Kd.R (Kd.int .u32) 35 w' w.heap.size (fun _=>True) v0_ r∧Below w.heap.size w w':=by
 have HB:=Aside0.mk (Below.refl w.heap.size w)
 have H : (some (([1] : List Int)))=some r:=h
 clear h
 obtain ⟨y215,hy215⟩ : ∃ y_ : List Int,y_=(([1] : List Int)):=⟨_,rfl⟩
 replace H : (some y215)=some r:=by first|(rw [hy215];with_reducible exact H)|(have H2_:=(Option.bind_some _ _).symm.trans H;rw [hy215];with_reducible exact H2_)|(have H2_:=(Option.bind_some _ _).symm.trans H;with_reducible exact H2_)|with_reducible exact H|(rw [hy215];exact H)|exact H
 have Ny215:=Aside0.mk hy215
 clear hy215
 obtain rfl:=Option.some.inj H
 go_enter Tryd.func47,Tryd.ntmps47
 go_wp2_with (first|((with_reducible refine gate_dst (N:=1) rfl ?_);refine Kd.R_lit (Kd.int .u32) _ 35 ?hg (N:=1) ?hd (xs:=([1] : List Int)) (inner:=[.int .u32 1]) (ok:=fun _=>True) (okp:=fun _=>True) ?hr ?hp (fun _ hk=>hk) trivial (Below.refl _ _) (Nat.le_refl _) (by simp) ?_;(case hd=>rfl);(case hg=>rfl);(case hr=>first|(go_simp;done)|(go_simp;(with_reducible rfl))|(go_simp;rfl)|(go_simp;simp only [hu,Int.emod_sub_emod]));(case hp=>exact (Reps.one (show Kd.M (Kd.int .u32) _ _ _ 1 [.int .u32 1] from rfl) (Reps.none _ _)));intro v216 w1 ho2 hb hg_ hnew_;clear hg_ hnew_;(first|rw [← Ny215.out] at ho2|(simp only [Int.reduceToNat] at ho2;rw [← Ny215.out] at ho2));have n0_:=Aside0.mk (Kd.R_lower ho2 (below_size (by repeat (first|with_reducible exact HB.out|apply ba|apply bn|apply b1))));have n1_:=Aside0.mk (below_step (by repeat (first|with_reducible exact HB.out|apply ba|apply bn|apply b1)) hb);clear HB;have HO217:=n0_;have HB:=n1_;clear n0_ n1_;clear hb ho2))
 go_ret
 exact ⟨_,by first|rfl|(simp [errW_none,errW_some] <;> rfl)|(simp [*,errW_none,errW_some] <;> rfl),by (with_reducible repeat (first|apply Ra|apply Rn|apply Rd));exact HO217.out,by repeat (first|with_reducible exact HB.out|apply ba|apply bn|apply b1)⟩
end Go.Proofs.YtncdiodnbkhacaaDoor.Pq
end
end
section
section
namespace Go.Proofs.YtncdiodnbkhacaaDoor.Pq
open Go.RowKit Go.Proofs.YtncdiodnbkhacaaDoorW.PrintWords Go.Proofs.YtncdiodnbkhacaaDoorW.PrintLast Go.Proofs.YtncdiodnbkhacaaDoorW.PrintMore
attribute [local go_sem] max2_int min2_int max_two min_two max_three min_three max_four min_four
set_option linter.unusedVariables false
set_option linter.unusedSimpArgs false
set_option maxHeartbeats 8000000
set_option maxRecDepth 100000
theorem root_Gcd.mono_l : ∀ k,(∀ y0 y1,LeO (root_Gcd.l0 k y0 y1) (root_Gcd.l0 (k+1) y0 y1))
|0=>fun _ _ r h=>by simp [root_Gcd.l0] at h
|k+1=>by
  have ih0:=root_Gcd.mono_l k
  ·intro y0 y1
   unfold root_Gcd.l0
   with_reducible repeat' first
  |exact ih0 _ _
  |exact nat_DivMod.mono _ _ _
  |exact LeO.refl _
  |exact LeO.none _
  |refine LeO.ite ?_ ?_
  |refine LeO.bind ?_ (fun _=>?_)
theorem root_Gcd.mono : ∀ a0 a1 k,LeO (root_Gcd.f k a0 a1) (root_Gcd.f (k+1) a0 a1):=by
 intro a0 a1 k
 have ih0:=root_Gcd.mono_l k
 unfold root_Gcd.f
 with_reducible repeat' first
  |exact ih0 _ _
  |exact nat_DivMod.mono _ _ _
  |exact LeO.refl _
  |exact LeO.none _
  |refine LeO.ite ?_ ?_
  |refine LeO.bind ?_ (fun _=>?_)
theorem root_Gcd.calls (k : Nat) (A0 : Option Addr) (c0 : Nat) (l0 : List Int) (A1 : Option Addr) (c1 : Nat) (l1 : List Int) (r : List Int) (w : World) (hr0 : Kd.C (Kd.int .u32) w A0 l0.length l0) (hc0 : l0.length≤c0) (hr1 : Kd.C (Kd.int .u32) w A1 l1.length l1) (hc1 : l1.length≤c1) (h : root_Gcd.f k l0 l1=some r) :
  Calls Tryd.prog 74 #[.slice A0 l0.length c0,.slice A1 l1.length c1] w fun e w'=>∃ v0_ : Value,e=.returned (v0_)∧Kd.R (Kd.int .u32) 35 w' w.heap.size (fun _=>True) v0_ r∧Below w.heap.size w w':=by
 have HR0:=Aside0.mk hr0
 have HC0:=Aside0.mk hc0
 clear hr0 hc0
 have HR1:=Aside0.mk hr1
 have HC1:=Aside0.mk hc1
 clear hr1 hc1
 have HB:=Aside0.mk (Below.refl w.heap.size w)
 have H : ((nat_Norm.f l0).bind fun t218=>((nat_Norm.f l1).bind fun t221=>(root_Gcd.l0 k t218 t221)))=some r:=h
 clear h
 replace H:=Option.bind_eq_some_iff.mp H
 obtain ⟨t218,A30,H⟩:=H
 try dsimp only at H
 have A3:=Aside0.mk A30
 clear A30
 replace H:=Option.bind_eq_some_iff.mp H
 obtain ⟨t221,A40,H⟩:=H
 try dsimp only at H
 have A4:=Aside0.mk A40
 clear A40
 have H':=Aside0.mk H
 clear H
 go_enter Tryd.func74,Tryd.ntmps74
 go_wp2_with (first|((with_reducible refine gate_callee (f:=17) rfl ?_);refine goesL_ (some 9) rfl rfl Tryd.func17 (by kernel_rfl) rfl #[.slice A0 l0.length c0] rfl (by (try simp only [List.map_toArray,List.map_cons,List.map_nil]);first|done|rfl) ?_;(with_reducible refine (nat_Norm.calls _ _ l0 t218 _ ?side1 ?side2 A3.out).mono ?_);(case side1=>exact Cu HR0.out);(case side2=>exact HC0.out);rintro e w5 ⟨v219,rfl,ho0,hb⟩;refine ⟨_,rfl,?_⟩;have n0_:=Aside0.mk (Kd.R_lower ho0 (below_size (Hu HB.out)));have n1_:=Aside0.mk (below_step (Hu HB.out) hb);clear HB;have HO220:=n0_;have HB:=n1_;clear n0_ n1_)|((with_reducible refine gate_callee (f:=17) rfl ?_);refine goesL_ (some 11) rfl rfl Tryd.func17 (by kernel_rfl) rfl #[.slice A1 l1.length c1] rfl (by (try simp only [List.map_toArray,List.map_cons,List.map_nil]);first|done|rfl) ?_;(with_reducible refine (nat_Norm.calls _ _ l1 t221 _ ?side1 ?side2 A4.out).mono ?_);(case side1=>repeat (first|exact (Kd.C_below HR1.out HB.out)|(with_reducible refine Kd.C_alloc ?_ _)|(with_reducible refine Kd.C_drewN ?_ _)|(with_reducible refine Kd.C_drew ?_)));(case side2=>exact HC1.out);rintro e w6 ⟨v222,rfl,ho0,hb⟩;refine ⟨_,rfl,?_⟩;have n0_:=Aside0.mk (Kd.R_elder' (Ru HO220.out) (Kd.R_base ho0) hb);have n1_:=Aside0.mk (Kd.R_lower (Kd.R_new' ho0 (Kd.R_lt (Ru HO220.out))) (below_size (Hu HB.out)));have n2_:=Aside0.mk (below_step (Hu HB.out) hb);clear HO220;clear HB;have HO220:=n0_;have HO223:=n1_;have HB:=n2_;clear n0_ n1_ n2_))
 go_loopg [0,1] k (fun kq v0 v1 w'=>∃ (x0_1 : List Int) (x1_1 : List Int),Aside0 (root_Gcd.l0 kq x0_1 x1_1=some r)∧Aside0 (kq≤k)∧Aside0 (Kd.R (Kd.int .u32) 35 w' w.heap.size (fun k_=>some k_≠(v1 : Value).ownBlock) v0 x0_1)∧Aside0 (Kd.R (Kd.int .u32) 35 w' w.heap.size (fun k_=>some k_≠(v0 : Value).ownBlock) v1 x1_1)∧Aside0 (Below w.heap.size w w'))
 case atStart=>exact ⟨(t218),(t221),H',⟨Nat.le_refl _⟩,⟨by (with_reducible repeat (first|apply Ra|apply Rn|apply Rd));exact Kd.R_mono HO220.out (fun _ hk=>hk.2)⟩,⟨by (with_reducible repeat (first|apply Ra|apply Rn|apply Rd));exact Kd.R_mono HO223.out (fun _ hk=>hk.2)⟩,⟨Hu HB.out⟩⟩
 case round =>
  clear H'
  obtain ⟨x0_1,x1_1,HA,HK1,HO_0,HO_1,HB⟩:=hrel
  cases gk with
 |zero=>exact absurd HA.out (by simp [root_Gcd.l0])
 |succ k1 =>
   have H:=HA.out
   clear HA
   simp only [root_Gcd.l0] at H
   by_cases c7 : (x1_1.length : Int) > 0
   ·rw [if_pos c7] at H
    have c7b0 : decide (0 < (x1_1.length : Int))=true:=decide_eq_true c7
    have c7b1 : decide (0 < x1_1.length)=true:=decide_eq_true (by omega)
    clear c7
    replace H:=Option.bind_eq_some_iff.mp H
    obtain ⟨⟨t224,t225,t226⟩,A80,H⟩:=H
    try dsimp only at H
    have A8:=Aside0.mk A80
    clear A80
    have H':=Aside0.mk H
    clear H
    obtain ⟨Ao9,co9,eo9⟩:=Kd.R_slice HO_1.out
    subst eo9
    obtain ⟨Ao10,co10,eo10⟩:=Kd.R_slice HO_0.out
    subst eo10
    go_wp2_with (first|((with_reducible refine gate_callee (f:=37) rfl ?_);refine goesL_ (some 18) rfl rfl Tryd.func37 (by kernel_rfl) rfl #[.slice Ao10 x0_1.length co10,.slice Ao9 x1_1.length co9] rfl (by (try simp only [List.map_toArray,List.map_cons,List.map_nil]);first|done|rfl) ?_;(with_reducible refine (nat_DivMod.calls k1 _ _ x0_1 _ _ x1_1 t224 t225 t226 _ ?side1 ?side2 ?side3 ?side4 A8.out).mono ?_);(case side1=>exact Cu (Kd.R_reads' HO_0.out).2.2);(case side2=>exact (Kd.R_reads' HO_0.out).2.1);(case side3=>exact Cu (Kd.R_reads' HO_1.out).2.2);(case side4=>exact (Kd.R_reads' HO_1.out).2.1);rintro e w11 ⟨v227,v229,rfl,ho0,ho1,hb⟩;refine ⟨_,rfl,?_⟩;have n0_:=Aside0.mk (Kd.R_mono (Kd.R_told (Kd.R_told (Kd.R_old (Ru HO_0.out) hb) (Kd.R_base ho0)) (Kd.R_base ho1)) (fun _ h_=>h_.1));have n1_:=Aside0.mk (Kd.R_mono (Kd.R_told (Kd.R_told (Kd.R_old (Ru HO_1.out) hb) (Kd.R_base ho0)) (Kd.R_base ho1)) (fun _ h_=>h_.1));have n2_:=Aside0.mk (Kd.R_lower (Kd.R_new' (Kd.R_new' ho0 (Kd.R_lt (Ru HO_0.out))) (Kd.R_lt (Ru HO_1.out))) (below_size (Hu HB.out)));have n3_:=Aside0.mk (Kd.R_lower (Kd.R_new' (Kd.R_new' ho1 (Kd.R_lt (Ru HO_0.out))) (Kd.R_lt (Ru HO_1.out))) (below_size (Hu HB.out)));have n4_:=Aside0.mk (below_step (Hu HB.out) hb);clear HO_0;clear HO_1;clear HB;have HO_0:=n0_;have HO_1:=n1_;have HO228:=n2_;have HO230:=n3_;have HB:=n4_;clear n0_ n1_ n2_ n3_ n4_))
    go_roundg k1
    case measure=>have:=HK1.out;omega
    case rel=>exact ⟨(x1_1),(t225),H',⟨by have:=HK1.out;omega⟩,⟨by (with_reducible repeat (first|apply Ra|apply Rn|apply Rd));exact Kd.R_mono HO_1.out (fun _ hk=>hk.2)⟩,⟨by (with_reducible repeat (first|apply Ra|apply Rn|apply Rd));exact Kd.R_mono HO230.out (fun _ hk=>hk.2)⟩,⟨Hu HB.out⟩⟩
   ·rw [if_neg c7] at H
    have c7b0 : decide (0 < (x1_1.length : Int))=false:=decide_eq_false c7
    have c7b1 : decide (0 < x1_1.length)=false:=decide_eq_false (by omega)
    clear c7
    obtain rfl:=Option.some.inj H
    obtain ⟨Ao12,co12,eo12⟩:=Kd.R_slice HO_1.out
    subst eo12
    go_wp2
    go_ret
    exact ⟨_,by first|rfl|(simp [errW_none,errW_some] <;> rfl)|(simp [*,errW_none,errW_some] <;> rfl),by (with_reducible repeat (first|apply Ra|apply Rn|apply Rd));exact Kd.R_mono HO_0.out (fun _ hk=>trivial),Hu HB.out⟩
end Go.Proofs.YtncdiodnbkhacaaDoor.Pq
end
end
section
section
namespace Go.Proofs.YtncdiodnbkhacaaDoor.Pq
open Go.RowKit Go.Proofs.YtncdiodnbkhacaaDoorW.PrintWords Go.Proofs.YtncdiodnbkhacaaDoorW.PrintLast Go.Proofs.YtncdiodnbkhacaaDoorW.PrintMore
attribute [local go_sem] max2_int min2_int max_two min_two max_three min_three max_four min_four
set_option linter.unusedVariables false
set_option linter.unusedSimpArgs false
set_option maxHeartbeats 8000000
set_option maxRecDepth 100000
theorem rat_made.mono_l : ∀ k,(∀ y0 y1 y2 y3,LeO (rat_made.j0 k y0 y1 y2 y3) (rat_made.j0 (k+1) y0 y1 y2 y3))∧(∀ y0 y1 y2 y3 y4,LeO (rat_made.j1 k y0 y1 y2 y3 y4) (rat_made.j1 (k+1) y0 y1 y2 y3 y4))
|0=>⟨fun _ _ _ _ r h=>by simp [rat_made.j0] at h,fun _ _ _ _ _ r h=>by simp [rat_made.j1] at h⟩
|k+1=>by
  obtain ⟨ih0,ih1⟩:=rat_made.mono_l k
  refine ⟨?_,?_⟩
  ·intro y0 y1 y2 y3
   unfold rat_made.j0
   with_reducible repeat' first
  |exact ih0 _ _ _ _
  |exact ih1 _ _ _ _ _
  |exact nat_DivMod.mono _ _ _
  |exact root_Gcd.mono _ _ _
  |exact LeO.refl _
  |exact LeO.none _
  |refine LeO.ite ?_ ?_
  |refine LeO.bind ?_ (fun _=>?_)
  ·intro y0 y1 y2 y3 y4
   unfold rat_made.j1
   with_reducible repeat' first
  |exact ih0 _ _ _ _
  |exact ih1 _ _ _ _ _
  |exact nat_DivMod.mono _ _ _
  |exact root_Gcd.mono _ _ _
  |exact LeO.refl _
  |exact LeO.none _
  |refine LeO.ite ?_ ?_
  |refine LeO.bind ?_ (fun _=>?_)
theorem rat_made.mono : ∀ a0 a1 a2 k,LeO (rat_made.f k a0 a1 a2) (rat_made.f (k+1) a0 a1 a2):=by
 intro a0 a1 a2 k
 obtain ⟨ih0,ih1⟩:=rat_made.mono_l k
 unfold rat_made.f
 with_reducible repeat' first
  |exact ih0 _ _ _ _
  |exact ih1 _ _ _ _ _
  |exact nat_DivMod.mono _ _ _
  |exact root_Gcd.mono _ _ _
  |exact LeO.refl _
  |exact LeO.none _
  |refine LeO.ite ?_ ?_
  |refine LeO.bind ?_ (fun _=>?_)
theorem rat_made.calls (k : Nat) (a0 : Bool) (A1 : Option Addr) (c1 : Nat) (l1 : List Int) (A2 : Option Addr) (c2 : Nat) (l2 : List Int) (r1 : Bool) (r2 : List Int) (r3 : List Int) (w : World) (hr1 : Kd.C (Kd.int .u32) w A1 l1.length l1) (hc1 : l1.length≤c1) (hr2 : Kd.C (Kd.int .u32) w A2 l2.length l2) (hc2 : l2.length≤c2) (h : rat_made.f k a0 l1 l2=some (r1,r2,r3)) :
  Calls Tryd.prog 45 #[.bool a0,.slice A1 l1.length c1,.slice A2 l2.length c2] w fun e w'=>∃ v1_ v2_ : Value,e=.returned (.agg #[.bool r1,v1_,v2_])∧Kd.R (Kd.int .u32) 35 w' w.heap.size (fun k_=>some k_≠(v2_ : Value).ownBlock) v1_ r2∧Kd.R (Kd.int .u32) 35 w' w.heap.size (fun k_=>some k_≠(v1_ : Value).ownBlock) v2_ r3∧Below w.heap.size w w':=by
 have hu25:=Tryd.underlying25
 have HR1:=Aside0.mk hr1
 have HC1:=Aside0.mk hc1
 clear hr1 hc1
 have HR2:=Aside0.mk hr2
 have HC2:=Aside0.mk hc2
 clear hr2 hc2
 have HB:=Aside0.mk (Below.refl w.heap.size w)
 have H : ((nat_Norm.f l1).bind fun t232=>((nat_Norm.f l2).bind fun t235=>(if (t232.length : Int)=0 then (rat_made.j0 k a0 t232 t235 true) else (rat_made.j0 k a0 t232 t235 ((t235.length : Int) == 0)))))=some (r1,r2,r3):=h
 clear h
 replace H:=Option.bind_eq_some_iff.mp H
 obtain ⟨t232,A40,H⟩:=H
 try dsimp only at H
 have A4:=Aside0.mk A40
 clear A40
 replace H:=Option.bind_eq_some_iff.mp H
 obtain ⟨t235,A50,H⟩:=H
 try dsimp only at H
 have A5:=Aside0.mk A50
 clear A50
 have HC6:=Aside0.mk H
 clear H
 go_enter Tryd.func45,Tryd.ntmps45
 go_upto_region 2 with (first|((with_reducible refine gate_dst (N:=6) rfl ?_);(try (refine gate_guard (by rfl) ?_;dsimp only));refine box_event ?hg (N:=6) ?hd (cs:=#[.bool false,.slice none 0 0,.slice none 0 0]) (t:=25) ?hr ?_;(case hd=>rfl);(case hg=>rfl);(case hr=>first|(go_simp;done)|(go_simp;(with_reducible rfl))|(go_simp;rfl)|(go_simp;simp only [hu,Int.emod_sub_emod]));intro gb231 hg w7 hbox hb;have n0_:=Aside0.mk (below_step (Hu HB.out) hb);have n1_:=Aside0.mk (hbox);have n2_:=Aside0.mk ((by rw [hg];exact (below_size (Hu HB.out)) : w.heap.size≤gb231));have n3_:=Aside0.mk ((by rw [hg];exact (below_size (Hu HB.out)) : w.heap.size≤gb231));clear HB;have HB:=n0_;have BK231:=n1_;have GW231:=n2_;have GE231:=n3_;clear n0_ n1_ n2_ n3_;clear hb hbox hg)|((with_reducible refine gate_callee (f:=17) rfl ?_);refine goesL_ (some 9) rfl rfl Tryd.func17 (by kernel_rfl) rfl #[.slice A1 l1.length c1] rfl (by (try simp only [List.map_toArray,List.map_cons,List.map_nil]);first|done|rfl) ?_;(with_reducible refine (nat_Norm.calls _ _ l1 t232 _ ?side1 ?side2 A4.out).mono ?_);(case side1=>repeat (first|exact (Kd.C_below HR1.out HB.out)|(with_reducible refine Kd.C_alloc ?_ _)|(with_reducible refine Kd.C_drewN ?_ _)|(with_reducible refine Kd.C_drew ?_)));(case side2=>exact HC1.out);rintro e w8 ⟨v233,rfl,ho0,hb⟩;refine ⟨_,rfl,?_⟩;have n0_:=Aside0.mk (Kd.R_lower ho0 (below_size (by repeat (first|with_reducible exact HB.out|apply ba|apply bn|apply b1|refine below_set ?_ GE231.out))));have n1_:=Aside0.mk (blk_below (g:=gb231) (o:=.cells #[.bool false,.slice none 0 0,.slice none 0 0] 25 (0,0)) (Bu BK231.out) hb);have n2_:=Aside0.mk (below_step (by repeat (first|with_reducible exact HB.out|apply ba|apply bn|apply b1|refine below_set ?_ GE231.out)) hb);clear BK231;clear HB;have HO234:=n0_;have BK231:=n1_;have HB:=n2_;clear n0_ n1_ n2_)|((with_reducible refine gate_callee (f:=17) rfl ?_);refine goesL_ (some 11) rfl rfl Tryd.func17 (by kernel_rfl) rfl #[.slice A2 l2.length c2] rfl (by (try simp only [List.map_toArray,List.map_cons,List.map_nil]);first|done|rfl) ?_;(with_reducible refine (nat_Norm.calls _ _ l2 t235 _ ?side1 ?side2 A5.out).mono ?_);(case side1=>repeat (first|exact (Kd.C_below HR2.out HB.out)|(with_reducible refine Kd.C_alloc ?_ _)|(with_reducible refine Kd.C_drewN ?_ _)|(with_reducible refine Kd.C_drew ?_)));(case side2=>exact HC2.out);rintro e w9 ⟨v236,rfl,ho0,hb⟩;refine ⟨_,rfl,?_⟩;have n0_:=Aside0.mk (Kd.R_elder' (Ru HO234.out) (Kd.R_base ho0) hb);have n1_:=Aside0.mk (Kd.R_lower (Kd.R_new' ho0 (Kd.R_lt (Ru HO234.out))) (below_size (by repeat (first|with_reducible exact HB.out|apply ba|apply bn|apply b1|refine below_set ?_ GE231.out))));have n2_:=Aside0.mk (blk_below (g:=gb231) (o:=.cells #[.bool false,.slice none 0 0,.slice none 0 0] 25 (0,0)) (Bu BK231.out) hb);have n3_:=Aside0.mk (below_step (by repeat (first|with_reducible exact HB.out|apply ba|apply bn|apply b1|refine below_set ?_ GE231.out)) hb);clear HO234;clear BK231;clear HB;have HO234:=n0_;have HO237:=n1_;have BK231:=n2_;have HB:=n3_;clear n0_ n1_ n2_ n3_))
 (try simp only [Act.put,s0,s1,s2])
 go_cut [19] (fun v19 wc=>∃ (kq : Nat) (x19_5 : Bool),v19=.bool x19_5∧Aside0 (rat_made.j0 kq a0 t232 t235 x19_5=some (r1,r2,r3))∧Aside0 (kq≤k)∧Aside0 (Kd.R (Kd.int .u32) 35 wc w.heap.size (fun k_=>some k_≠(v236 : Value).ownBlock) v233 t232)∧Aside0 (Kd.R (Kd.int .u32) 35 wc w.heap.size (fun k_=>some k_≠(v233 : Value).ownBlock) v236 t235)∧Aside0 (wc.heap[gb231]? = some (.cells #[.bool false,(.slice none 0 0),(.slice none 0 0)] 25 (0,0)))∧Aside0 (Below w.heap.size w wc))
 case first =>
  have H:=HC6.out
  clear HC6
  by_cases c10 : (t232.length : Int)=0
  ·rw [if_pos c10] at H
   have c10b0 : ((t232.length : Int) == 0)=true:=beq_iff_eq.mpr c10
   have c10b1 : ((t232.length : Int) != 0)=false:=bne_eq_false_iff_eq.mpr c10
   clear c10
   (first|rw [c10b0]|(simp only [i64_w,i32_w];rw [c10b0])|skip)
   have H':=Aside0.mk H
   clear H
   obtain ⟨Ao11,co11,eo11⟩:=Kd.R_slice HO234.out
   subst eo11
   go_wp2
   go_meet
   case rel=>exact ⟨_,(true),(by first|rfl|(simp;done)|(simp [*];done)),H',⟨by first|omega|exact Nat.le_refl _⟩,⟨by (with_reducible repeat (first|apply Ra|apply Rn|apply Rd));exact Kd.R_mono HO234.out (fun _ hk=>hk.2)⟩,⟨by (with_reducible repeat (first|apply Ra|apply Rn|apply Rd));exact Kd.R_mono HO237.out (fun _ hk=>hk.2)⟩,⟨Bu BK231.out⟩,⟨by repeat (first|with_reducible exact HB.out|apply ba|apply bn|apply b1|refine below_set ?_ GE231.out)⟩⟩
  ·rw [if_neg c10] at H
   have c10b0 : ((t232.length : Int) == 0)=false:=beq_eq_false_iff_ne.mpr c10
   have c10b1 : ((t232.length : Int) != 0)=true:=bne_iff_ne.mpr c10
   have c10b2 : ¬ (t232=[]):=fun h_=>c10 (by rw [h_];rfl)
   (first|rw [c10b0]|(simp only [i64_w,i32_w];rw [c10b0])|skip)
   have H':=Aside0.mk H
   clear H
   obtain ⟨Ao12,co12,eo12⟩:=Kd.R_slice HO234.out
   subst eo12
   obtain ⟨Ao13,co13,eo13⟩:=Kd.R_slice HO237.out
   subst eo13
   go_wp2
   go_meet
   case rel=>exact ⟨_,(((t235.length : Int) == 0)),(by first|rfl|(simp;done)|(simp [*];done)),H',⟨by first|omega|exact Nat.le_refl _⟩,⟨by (with_reducible repeat (first|apply Ra|apply Rn|apply Rd));exact Kd.R_mono HO234.out (fun _ hk=>hk.2)⟩,⟨by (with_reducible repeat (first|apply Ra|apply Rn|apply Rd));exact Kd.R_mono HO237.out (fun _ hk=>hk.2)⟩,⟨Bu BK231.out⟩,⟨by repeat (first|with_reducible exact HB.out|apply ba|apply bn|apply b1|refine below_set ?_ GE231.out)⟩⟩
 case rest =>
  clear HC6
  obtain ⟨kq,x19_5,rfl,HA,HJ5,HO_1,HO_2,BK231,HB⟩:=hcut
  cases kq with
 |zero=>exact absurd HA.out (by simp [rat_made.j0])
 |succ kj5 =>
   have H:=HA.out
   clear HA
   simp only [rat_made.j0] at H
   by_cases c14 : x19_5=true
   ·subst c14
    rw [if_pos rfl] at H
    replace H:=Option.bind_eq_some_iff.mp H
    obtain ⟨t238,A150,H⟩:=H
    try dsimp only at H
    have A15:=Aside0.mk A150
    clear A150
    simp only [Option.some.injEq,Prod.mk.injEq] at H
    obtain ⟨rfl,rfl,rfl⟩:=H
    go_wp2_with (first|((with_reducible refine gate_callee (f:=47) rfl ?_);refine goesL_ (some 20) rfl rfl Tryd.func47 (by kernel_rfl) rfl #[] rfl (by (try simp only [List.map_toArray,List.map_cons,List.map_nil]);first|done|rfl) ?_;(with_reducible refine (rat_one.calls  t238 _ A15.out).mono ?_);rintro e w16 ⟨v239,rfl,ho0,hb⟩;refine ⟨_,rfl,?_⟩;have n0_:=Aside0.mk (Kd.R_elder' (Ru HO_1.out) (Kd.R_base ho0) hb);have n1_:=Aside0.mk (Kd.R_elder' (Ru HO_2.out) (Kd.R_base ho0) hb);have n2_:=Aside0.mk (Kd.R_lower (Kd.R_new' (Kd.R_new' ho0 (Kd.R_lt (Ru HO_1.out))) (Kd.R_lt (Ru HO_2.out))) (below_size (by repeat (first|with_reducible exact HB.out|apply ba|apply bn|apply b1|refine below_set ?_ GE231.out))));have n3_:=Aside0.mk (blk_below (g:=gb231) (o:=.cells #[.bool false,.slice none 0 0,.slice none 0 0] 25 (0,0)) (Bu BK231.out) hb);have n4_:=Aside0.mk (below_step (by repeat (first|with_reducible exact HB.out|apply ba|apply bn|apply b1|refine below_set ?_ GE231.out)) hb);clear HO_1;clear HO_2;clear BK231;clear HB;have HO_1:=n0_;have HO_2:=n1_;have HO240:=n2_;have BK231:=n3_;have HB:=n4_;clear n0_ n1_ n2_ n3_ n4_;obtain ⟨Ao17,co17,eo17⟩:=Kd.R_slice HO240.out;subst eo17;have hcz18_0 : w16.cell? ⟨gb231,0,none⟩=some (.bool false):=(blk_cell BK231.out 0).trans rfl;have hcz18_1 : w16.cell? ⟨gb231,1,none⟩=some (.slice none 0 0):=(blk_cell BK231.out 1).trans rfl;have hcz18_2 : w16.cell? ⟨gb231,2,none⟩=some (.slice none 0 0):=(blk_cell BK231.out 2).trans rfl;have hfz18_0:=blk_frozen BK231.out 0;have hfz18_1:=blk_frozen BK231.out 1;have hfz18_2:=blk_frozen BK231.out 2))
    refine bodyPost_ret (results_cell_row rfl _ _ gb231 25 #[.bool false,.slice none 0 0,.slice Ao17 t238.length co17] (0,0) _ rfl (by (with_reducible repeat (first|refine blk_drewN ?_ _|refine blk_drew ?_|refine blk_alloc ?_ _));refine blk_put (cs:=#[.bool false,.slice none 0 0,.slice none 0 0]) ?_ 2 _ rfl;(with_reducible repeat (first|refine blk_drewN ?_ _|refine blk_drew ?_|refine blk_alloc ?_ _));refine blk_put (cs:=#[.bool false,.slice none 0 0,.slice none 0 0]) ?_ 1 _ rfl;(with_reducible repeat (first|refine blk_drewN ?_ _|refine blk_drew ?_|refine blk_alloc ?_ _));refine blk_put (cs:=#[.bool false,.slice none 0 0,.slice none 0 0]) ?_ 0 _ rfl;(with_reducible repeat (first|refine blk_drewN ?_ _|refine blk_drew ?_|refine blk_alloc ?_ _));exact BK231.out) Tryd.underlying25 rfl (by kernel_rfl)) rfl ?_
    exact ⟨_,_,by first|rfl|(simp [errW_none,errW_some] <;> rfl)|(simp [*,errW_none,errW_some] <;> rfl),by first|exact Kd.R_nil _ _ _ _ _|exact Kd.N_nil _ _ _ _ _|exact Kd.V_nil _ _ _ _ _|exact Kd.Q_nil _ _ _ _ _|exact Kd.S_nil _ _ _ _ _,by (with_reducible repeat (first|apply Ra|apply Rn|apply Rd));exact Kd.R_mono (Kd.R_far (p:=⟨gb231,2,none⟩) (Kd.R_far (p:=⟨gb231,1,none⟩) (Kd.R_far (p:=⟨gb231,0,none⟩) (Kd.R_types HO240.out BK231.out (by decide)) (fun _ hk=>hk.2) (.bool false)) (fun _ hk=>hk.2) (.slice none 0 0)) (fun _ hk=>hk.2) (.slice Ao17 t238.length co17)) (fun _ hk=>(by simp [Value.ownBlock])),by repeat (first|with_reducible exact HB.out|apply ba|apply bn|apply b1|refine below_set ?_ GE231.out)⟩
   ·replace c14:=Bool.eq_false_iff.mpr c14
    subst c14
    rw [if_neg (show ¬ (false=true) by decide)] at H
    replace H:=Option.bind_eq_some_iff.mp H
    obtain ⟨t241,A190,H⟩:=H
    try dsimp only at H
    have A19:=Aside0.mk A190
    clear A190
    have HC20:=Aside0.mk H
    clear H
    obtain ⟨Ao21,co21,eo21⟩:=Kd.R_slice HO_1.out
    subst eo21
    obtain ⟨Ao22,co22,eo22⟩:=Kd.R_slice HO_2.out
    subst eo22
    go_upto_region 5 with (first|((with_reducible refine gate_callee (f:=74) rfl ?_);refine goesL_ (some 24) rfl rfl Tryd.func74 (by kernel_rfl) rfl #[.slice Ao21 t232.length co21,.slice Ao22 t235.length co22] rfl (by (try simp only [List.map_toArray,List.map_cons,List.map_nil]);first|done|rfl) ?_;(with_reducible refine (root_Gcd.calls kj5 _ _ t232 _ _ t235 t241 _ ?side1 ?side2 ?side3 ?side4 A19.out).mono ?_);(case side1=>exact Cu (Kd.R_reads' HO_1.out).2.2);(case side2=>exact (Kd.R_reads' HO_1.out).2.1);(case side3=>exact Cu (Kd.R_reads' HO_2.out).2.2);(case side4=>exact (Kd.R_reads' HO_2.out).2.1);rintro e w23 ⟨v242,rfl,ho0,hb⟩;refine ⟨_,rfl,?_⟩;have n0_:=Aside0.mk (Kd.R_elder' (Ru HO_1.out) (Kd.R_base ho0) hb);have n1_:=Aside0.mk (Kd.R_elder' (Ru HO_2.out) (Kd.R_base ho0) hb);have n2_:=Aside0.mk (Kd.R_lower (Kd.R_new' (Kd.R_new' ho0 (Kd.R_lt (Ru HO_1.out))) (Kd.R_lt (Ru HO_2.out))) (below_size (by repeat (first|with_reducible exact HB.out|apply ba|apply bn|apply b1|refine below_set ?_ GE231.out))));have n3_:=Aside0.mk (blk_below (g:=gb231) (o:=.cells #[.bool false,.slice none 0 0,.slice none 0 0] 25 (0,0)) (Bu BK231.out) hb);have n4_:=Aside0.mk (below_step (by repeat (first|with_reducible exact HB.out|apply ba|apply bn|apply b1|refine below_set ?_ GE231.out)) hb);clear HO_1;clear HO_2;clear BK231;clear HB;have HO_1:=n0_;have HO_2:=n1_;have HO243:=n2_;have BK231:=n3_;have HB:=n4_;clear n0_ n1_ n2_ n3_ n4_))
    (try simp only [Act.put,s0,s1,s2])
    go_cut [33] (fun v33 wc=>∃ (kq : Nat) (x33_19 : Bool),v33=.bool x33_19∧Aside0 (rat_made.j1 kq a0 t232 t235 t241 x33_19=some (r1,r2,r3))∧Aside0 (kq≤kj5)∧Aside0 (Kd.R (Kd.int .u32) 35 wc w.heap.size (fun k_=>some k_≠((.slice Ao22 t235.length co22) : Value).ownBlock∧some k_≠(v242 : Value).ownBlock) (.slice Ao21 t232.length co21) t232)∧Aside0 (Kd.R (Kd.int .u32) 35 wc w.heap.size (fun k_=>some k_≠((.slice Ao21 t232.length co21) : Value).ownBlock∧some k_≠(v242 : Value).ownBlock) (.slice Ao22 t235.length co22) t235)∧Aside0 (Kd.R (Kd.int .u32) 35 wc w.heap.size (fun k_=>some k_≠((.slice Ao21 t232.length co21) : Value).ownBlock∧some k_≠((.slice Ao22 t235.length co22) : Value).ownBlock) v242 t241)∧Aside0 (wc.heap[gb231]? = some (.cells #[.bool false,(.slice none 0 0),(.slice none 0 0)] 25 (0,0)))∧Aside0 (Below w.heap.size w wc))
    case first =>
     have H:=HC20.out
     clear HC20
     by_cases c24 : (t241.length : Int) > 1
     ·rw [if_pos c24] at H
      have c24b0 : decide (1 < (t241.length : Int))=true:=decide_eq_true c24
      have c24b1 : decide (1 < t241.length)=true:=decide_eq_true (by omega)
      clear c24
      (first|rw [c24b0]|(simp only [i64_w,i32_w];rw [c24b0])|skip)
      have H':=Aside0.mk H
      clear H
      obtain ⟨Ao25,co25,eo25⟩:=Kd.R_slice HO243.out
      subst eo25
      go_wp2
      go_meet
      case rel=>exact ⟨_,(true),(by first|rfl|(simp;done)|(simp [*];done)),H',⟨by have:=HJ5.out;first|omega|exact Nat.le_refl _⟩,⟨Ru HO_1.out⟩,⟨Ru HO_2.out⟩,⟨by (with_reducible repeat (first|apply Ra|apply Rn|apply Rd));exact Kd.R_mono HO243.out (fun _ hk=>⟨hk.1.2,hk.2⟩)⟩,⟨Bu BK231.out⟩,⟨by repeat (first|with_reducible exact HB.out|apply ba|apply bn|apply b1|refine below_set ?_ GE231.out)⟩⟩
     ·rw [if_neg c24] at H
      have c24b0 : decide (1 < (t241.length : Int))=false:=decide_eq_false c24
      have c24b1 : decide (1 < t241.length)=false:=decide_eq_false (by omega)
      clear c24
      (first|rw [c24b0]|(simp only [i64_w,i32_w];rw [c24b0])|skip)
      by_cases c26 : 0 < (t241.length : Int)
      case neg =>rw [if_neg c26] at H;exact absurd H (by simp)
      rw [if_pos c26] at H
      have c26b0 : decide (0 < (t241.length : Int))=true:=decide_eq_true c26
      have c26b1 : decide (0 < t241.length)=true:=decide_eq_true (by omega)
      clear c26
      have H':=Aside0.mk H
      clear H
      obtain ⟨Ao27,co27,eo27⟩:=Kd.R_slice HO243.out
      subst eo27
      have p244 : 0≤(0 : Int):=(by omega)
      have q244 : 0 < (t241.length : Int):=of_decide_eq_true (by assumption)
      obtain ⟨ad244,e244,hx244_0⟩:=Kd.at_int (Kd.R_reads' HO243.out).2.2 0 p244 q244
      cases e244
      have qi244 : (0 < t241.length)=True:=eq_true (by omega)
      (try rw [show ((0 : Int)).toNat=0 from rfl] at hx244_0)
      (try rw [Addr.add_zero'] at hx244_0)
      replace p244:=eq_true p244
      replace q244:=eq_true q244
      go_wp2
      go_meet
      case rel=>exact ⟨_,(decide ((rd t241 0) > 1)),(by first|rfl|(simp;done)|(simp [*];done)),H',⟨by have:=HJ5.out;first|omega|exact Nat.le_refl _⟩,⟨Ru HO_1.out⟩,⟨Ru HO_2.out⟩,⟨by (with_reducible repeat (first|apply Ra|apply Rn|apply Rd));exact Kd.R_mono HO243.out (fun _ hk=>⟨hk.1.2,hk.2⟩)⟩,⟨Bu BK231.out⟩,⟨by repeat (first|with_reducible exact HB.out|apply ba|apply bn|apply b1|refine below_set ?_ GE231.out)⟩⟩
    case rest =>
     clear HC20
     obtain ⟨kq,x33_19,rfl,HA,HJ19,HO_1,HO_2,HO_7,BK231,HB⟩:=hcut
     cases kq with
    |zero=>exact absurd HA.out (by simp [rat_made.j1])
    |succ kj19 =>
      have H:=HA.out
      clear HA
      simp only [rat_made.j1] at H
      by_cases c28 : x33_19=true
      ·subst c28
       rw [if_pos rfl] at H
       replace H:=Option.bind_eq_some_iff.mp H
       obtain ⟨⟨t245,t246,t247⟩,A290,H⟩:=H
       try dsimp only at H
       have A29:=Aside0.mk A290
       clear A290
       replace H:=Option.bind_eq_some_iff.mp H
       obtain ⟨⟨t252,t253,t254⟩,A300,H⟩:=H
       try dsimp only at H
       have A30:=Aside0.mk A300
       clear A300
       simp only [Option.some.injEq,Prod.mk.injEq] at H
       obtain ⟨rfl,rfl,rfl⟩:=H
       obtain ⟨Ao31,co31,eo31⟩:=Kd.R_slice HO_7.out
       subst eo31
       go_wp2_with (first|((with_reducible refine gate_callee (f:=37) rfl ?_);refine goesL_ (some 37) rfl rfl Tryd.func37 (by kernel_rfl) rfl #[.slice Ao21 t232.length co21,.slice Ao31 t241.length co31] rfl (by (try simp only [List.map_toArray,List.map_cons,List.map_nil]);first|done|rfl) ?_;(with_reducible refine (nat_DivMod.calls kj19 _ _ t232 _ _ t241 t245 t246 t247 _ ?side1 ?side2 ?side3 ?side4 A29.out).mono ?_);(case side1=>exact Cu (Kd.R_reads' HO_1.out).2.2);(case side2=>exact (Kd.R_reads' HO_1.out).2.1);(case side3=>exact Cu (Kd.R_reads' HO_7.out).2.2);(case side4=>exact (Kd.R_reads' HO_7.out).2.1);rintro e w32 ⟨v248,v250,rfl,ho0,ho1,hb⟩;refine ⟨_,rfl,?_⟩;have n0_:=Aside0.mk (Kd.R_mono (Kd.R_told (Kd.R_told (Kd.R_old (Ru HO_1.out) hb) (Kd.R_base ho0)) (Kd.R_base ho1)) (fun _ h_=>h_.1));have n1_:=Aside0.mk (Kd.R_mono (Kd.R_told (Kd.R_told (Kd.R_old (Ru HO_2.out) hb) (Kd.R_base ho0)) (Kd.R_base ho1)) (fun _ h_=>h_.1));have n2_:=Aside0.mk (Kd.R_mono (Kd.R_told (Kd.R_told (Kd.R_old (Ru HO_7.out) hb) (Kd.R_base ho0)) (Kd.R_base ho1)) (fun _ h_=>h_.1));have n3_:=Aside0.mk (Kd.R_lower (Kd.R_new' (Kd.R_new' (Kd.R_new' ho0 (Kd.R_lt (Ru HO_1.out))) (Kd.R_lt (Ru HO_2.out))) (Kd.R_lt (Ru HO_7.out))) (below_size (by repeat (first|with_reducible exact HB.out|apply ba|apply bn|apply b1|refine below_set ?_ GE231.out))));have n4_:=Aside0.mk (Kd.R_lower (Kd.R_new' (Kd.R_new' (Kd.R_new' ho1 (Kd.R_lt (Ru HO_1.out))) (Kd.R_lt (Ru HO_2.out))) (Kd.R_lt (Ru HO_7.out))) (below_size (by repeat (first|with_reducible exact HB.out|apply ba|apply bn|apply b1|refine below_set ?_ GE231.out))));have n5_:=Aside0.mk (blk_below (g:=gb231) (o:=.cells #[.bool false,.slice none 0 0,.slice none 0 0] 25 (0,0)) (Bu BK231.out) hb);have n6_:=Aside0.mk (below_step (by repeat (first|with_reducible exact HB.out|apply ba|apply bn|apply b1|refine below_set ?_ GE231.out)) hb);clear HO_1;clear HO_2;clear HO_7;clear BK231;clear HB;have HO_1:=n0_;have HO_2:=n1_;have HO_7:=n2_;have HO249:=n3_;have HO251:=n4_;have BK231:=n5_;have HB:=n6_;clear n0_ n1_ n2_ n3_ n4_ n5_ n6_)|((with_reducible refine gate_callee (f:=37) rfl ?_);refine goesL_ (some 44) rfl rfl Tryd.func37 (by kernel_rfl) rfl #[.slice Ao22 t235.length co22,.slice Ao31 t241.length co31] rfl (by (try simp only [List.map_toArray,List.map_cons,List.map_nil]);first|done|rfl) ?_;(with_reducible refine (nat_DivMod.calls kj19 _ _ t235 _ _ t241 t252 t253 t254 _ ?side1 ?side2 ?side3 ?side4 A30.out).mono ?_);(case side1=>exact Cu (Kd.R_reads' HO_2.out).2.2);(case side2=>exact (Kd.R_reads' HO_2.out).2.1);(case side3=>exact Cu (Kd.R_reads' HO_7.out).2.2);(case side4=>exact (Kd.R_reads' HO_7.out).2.1);rintro e w33 ⟨v255,v257,rfl,ho0,ho1,hb⟩;refine ⟨_,rfl,?_⟩;have n0_:=Aside0.mk (Kd.R_mono (Kd.R_told (Kd.R_told (Kd.R_old (Ru HO_1.out) hb) (Kd.R_base ho0)) (Kd.R_base ho1)) (fun _ h_=>h_.1));have n1_:=Aside0.mk (Kd.R_mono (Kd.R_told (Kd.R_told (Kd.R_old (Ru HO_2.out) hb) (Kd.R_base ho0)) (Kd.R_base ho1)) (fun _ h_=>h_.1));have n2_:=Aside0.mk (Kd.R_mono (Kd.R_told (Kd.R_told (Kd.R_old (Ru HO_7.out) hb) (Kd.R_base ho0)) (Kd.R_base ho1)) (fun _ h_=>h_.1));have n3_:=Aside0.mk (Kd.R_mono (Kd.R_told (Kd.R_told (Kd.R_old (Ru HO249.out) hb) (Kd.R_base ho0)) (Kd.R_base ho1)) (fun _ h_=>h_.1));have n4_:=Aside0.mk (Kd.R_mono (Kd.R_told (Kd.R_told (Kd.R_old (Ru HO251.out) hb) (Kd.R_base ho0)) (Kd.R_base ho1)) (fun _ h_=>h_.1));have n5_:=Aside0.mk (Kd.R_lower (Kd.R_new' (Kd.R_new' (Kd.R_new' (Kd.R_new' (Kd.R_new' ho0 (Kd.R_lt (Ru HO_1.out))) (Kd.R_lt (Ru HO_2.out))) (Kd.R_lt (Ru HO_7.out))) (Kd.R_lt (Ru HO249.out))) (Kd.R_lt (Ru HO251.out))) (below_size (by repeat (first|with_reducible exact HB.out|apply ba|apply bn|apply b1|refine below_set ?_ GE231.out))));have n6_:=Aside0.mk (Kd.R_lower (Kd.R_new' (Kd.R_new' (Kd.R_new' (Kd.R_new' (Kd.R_new' ho1 (Kd.R_lt (Ru HO_1.out))) (Kd.R_lt (Ru HO_2.out))) (Kd.R_lt (Ru HO_7.out))) (Kd.R_lt (Ru HO249.out))) (Kd.R_lt (Ru HO251.out))) (below_size (by repeat (first|with_reducible exact HB.out|apply ba|apply bn|apply b1|refine below_set ?_ GE231.out))));have n7_:=Aside0.mk (blk_below (g:=gb231) (o:=.cells #[.bool false,.slice none 0 0,.slice none 0 0] 25 (0,0)) (Bu BK231.out) hb);have n8_:=Aside0.mk (below_step (by repeat (first|with_reducible exact HB.out|apply ba|apply bn|apply b1|refine below_set ?_ GE231.out)) hb);clear HO_1;clear HO_2;clear HO_7;clear HO249;clear HO251;clear BK231;clear HB;have HO_1:=n0_;have HO_2:=n1_;have HO_7:=n2_;have HO249:=n3_;have HO251:=n4_;have HO256:=n5_;have HO258:=n6_;have BK231:=n7_;have HB:=n8_;clear n0_ n1_ n2_ n3_ n4_ n5_ n6_ n7_ n8_;obtain ⟨Ao34,co34,eo34⟩:=Kd.R_slice HO256.out;subst eo34;obtain ⟨Ao35,co35,eo35⟩:=Kd.R_slice HO249.out;subst eo35;have hcz36_0 : w33.cell? ⟨gb231,0,none⟩=some (.bool false):=(blk_cell BK231.out 0).trans rfl;have hcz36_1 : w33.cell? ⟨gb231,1,none⟩=some (.slice none 0 0):=(blk_cell BK231.out 1).trans rfl;have hcz36_2 : w33.cell? ⟨gb231,2,none⟩=some (.slice none 0 0):=(blk_cell BK231.out 2).trans rfl;have hfz36_0:=blk_frozen BK231.out 0;have hfz36_1:=blk_frozen BK231.out 1;have hfz36_2:=blk_frozen BK231.out 2))
       refine bodyPost_ret (results_cell_row rfl _ _ gb231 25 #[.bool a0,.slice Ao35 t245.length co35,.slice Ao34 t252.length co34] (0,0) _ rfl (by (with_reducible repeat (first|refine blk_drewN ?_ _|refine blk_drew ?_|refine blk_alloc ?_ _));refine blk_put (cs:=#[.bool a0,.slice Ao35 t245.length co35,.slice none 0 0]) ?_ 2 _ rfl;(with_reducible repeat (first|refine blk_drewN ?_ _|refine blk_drew ?_|refine blk_alloc ?_ _));refine blk_put (cs:=#[.bool a0,.slice none 0 0,.slice none 0 0]) ?_ 1 _ rfl;(with_reducible repeat (first|refine blk_drewN ?_ _|refine blk_drew ?_|refine blk_alloc ?_ _));refine blk_put (cs:=#[.bool false,.slice none 0 0,.slice none 0 0]) ?_ 0 _ rfl;(with_reducible repeat (first|refine blk_drewN ?_ _|refine blk_drew ?_|refine blk_alloc ?_ _));exact BK231.out) Tryd.underlying25 rfl (by kernel_rfl)) rfl ?_
       exact ⟨_,_,by first|rfl|(simp [errW_none,errW_some] <;> rfl)|(simp [*,errW_none,errW_some] <;> rfl),by (with_reducible repeat (first|apply Ra|apply Rn|apply Rd));exact Kd.R_mono (Kd.R_far (p:=⟨gb231,2,none⟩) (Kd.R_far (p:=⟨gb231,1,none⟩) (Kd.R_far (p:=⟨gb231,0,none⟩) (Kd.R_types HO249.out BK231.out (by decide)) (fun _ hk=>hk.2) (.bool a0)) (fun _ hk=>hk.2) (.slice Ao35 t245.length co35)) (fun _ hk=>hk.2) (.slice Ao34 t252.length co34)) (fun _ hk=>hk.1.1.2),by (with_reducible repeat (first|apply Ra|apply Rn|apply Rd));exact Kd.R_mono (Kd.R_far (p:=⟨gb231,2,none⟩) (Kd.R_far (p:=⟨gb231,1,none⟩) (Kd.R_far (p:=⟨gb231,0,none⟩) (Kd.R_types HO256.out BK231.out (by decide)) (fun _ hk=>hk.2) (.bool a0)) (fun _ hk=>hk.2) (.slice Ao35 t245.length co35)) (fun _ hk=>hk.2) (.slice Ao34 t252.length co34)) (fun _ hk=>hk.1.1.2),by repeat (first|with_reducible exact HB.out|apply ba|apply bn|apply b1|refine below_set ?_ GE231.out)⟩
      ·replace c28:=Bool.eq_false_iff.mpr c28
       subst c28
       rw [if_neg (show ¬ (false=true) by decide)] at H
       simp only [Option.some.injEq,Prod.mk.injEq] at H
       obtain ⟨rfl,rfl,rfl⟩:=H
       have hcz37_0 : wc.cell? ⟨gb231,0,none⟩=some (.bool false):=(blk_cell BK231.out 0).trans rfl
       have hcz37_1 : wc.cell? ⟨gb231,1,none⟩=some (.slice none 0 0):=(blk_cell BK231.out 1).trans rfl
       have hcz37_2 : wc.cell? ⟨gb231,2,none⟩=some (.slice none 0 0):=(blk_cell BK231.out 2).trans rfl
       have hfz37_0:=blk_frozen BK231.out 0
       have hfz37_1:=blk_frozen BK231.out 1
       have hfz37_2:=blk_frozen BK231.out 2
       go_wp2
       refine bodyPost_ret (results_cell_row rfl _ _ gb231 25 #[.bool a0,.slice Ao21 t232.length co21,.slice Ao22 t235.length co22] (0,0) _ rfl (by (with_reducible repeat (first|refine blk_drewN ?_ _|refine blk_drew ?_|refine blk_alloc ?_ _));refine blk_put (cs:=#[.bool a0,.slice Ao21 t232.length co21,.slice none 0 0]) ?_ 2 _ rfl;(with_reducible repeat (first|refine blk_drewN ?_ _|refine blk_drew ?_|refine blk_alloc ?_ _));refine blk_put (cs:=#[.bool a0,.slice none 0 0,.slice none 0 0]) ?_ 1 _ rfl;(with_reducible repeat (first|refine blk_drewN ?_ _|refine blk_drew ?_|refine blk_alloc ?_ _));refine blk_put (cs:=#[.bool false,.slice none 0 0,.slice none 0 0]) ?_ 0 _ rfl;(with_reducible repeat (first|refine blk_drewN ?_ _|refine blk_drew ?_|refine blk_alloc ?_ _));exact BK231.out) Tryd.underlying25 rfl (by kernel_rfl)) rfl ?_
       exact ⟨_,_,by first|rfl|(simp [errW_none,errW_some] <;> rfl)|(simp [*,errW_none,errW_some] <;> rfl),by (with_reducible repeat (first|apply Ra|apply Rn|apply Rd));exact Kd.R_mono (Kd.R_far (p:=⟨gb231,2,none⟩) (Kd.R_far (p:=⟨gb231,1,none⟩) (Kd.R_far (p:=⟨gb231,0,none⟩) (Kd.R_types HO_1.out BK231.out (by decide)) (fun _ hk=>hk.2) (.bool a0)) (fun _ hk=>hk.2) (.slice Ao21 t232.length co21)) (fun _ hk=>hk.2) (.slice Ao22 t235.length co22)) (fun _ hk=>hk.1.1),by (with_reducible repeat (first|apply Ra|apply Rn|apply Rd));exact Kd.R_mono (Kd.R_far (p:=⟨gb231,2,none⟩) (Kd.R_far (p:=⟨gb231,1,none⟩) (Kd.R_far (p:=⟨gb231,0,none⟩) (Kd.R_types HO_2.out BK231.out (by decide)) (fun _ hk=>hk.2) (.bool a0)) (fun _ hk=>hk.2) (.slice Ao21 t232.length co21)) (fun _ hk=>hk.2) (.slice Ao22 t235.length co22)) (fun _ hk=>hk.1.1),by repeat (first|with_reducible exact HB.out|apply ba|apply bn|apply b1|refine below_set ?_ GE231.out)⟩
end Go.Proofs.YtncdiodnbkhacaaDoor.Pq
end
end
section
section
namespace Go.Proofs.YtncdiodnbkhacaaDoor.Pq
open Go.RowKit Go.Proofs.YtncdiodnbkhacaaDoorW.PrintWords Go.Proofs.YtncdiodnbkhacaaDoorW.PrintLast Go.Proofs.YtncdiodnbkhacaaDoorW.PrintMore
attribute [local go_sem] max2_int min2_int max_two min_two max_three min_three max_four min_four
set_option linter.unusedVariables false
set_option linter.unusedSimpArgs false
set_option maxHeartbeats 8000000
set_option maxRecDepth 100000
theorem rat_size.calls (a0 : Int) (r : List Int) (w : World) (h : rat_size.f a0=some r) :
  Calls Tryd.prog 50 #[.int .i64 a0] w fun e w'=>∃ v0_ : Value,e=.returned (v0_)∧Kd.R (Kd.int .u32) 35 w' w.heap.size (fun _=>True) v0_ r∧Below w.heap.size w w':=by
 have HB:=Aside0.mk (Below.refl w.heap.size w)
 have H : (if a0 < 0 then ((nat_Of.f (IntKind.u64.wrap (-(IntKind.u64.wrap (a0))))).bind fun t274=>(some t274)) else ((nat_Of.f (IntKind.u64.wrap (a0))).bind fun t277=>(some t277)))=some r:=h
 clear h
 by_cases c2 : a0 < 0
 ·rw [if_pos c2] at H
  have c2b0 : decide (a0 < 0)=true:=decide_eq_true c2
  clear c2
  replace H:=Option.bind_eq_some_iff.mp H
  obtain ⟨t274,A30,H⟩:=H
  try dsimp only at H
  have A3:=Aside0.mk A30
  clear A30
  obtain rfl:=Option.some.inj H
  go_enter Tryd.func50,Tryd.ntmps50
  go_wp2_with (first|((with_reducible refine gate_callee (f:=36) rfl ?_);refine goesL_ (some 8) rfl rfl Tryd.func36 (by kernel_rfl) rfl #[.int .u64 (IntKind.u64.wrap (-(IntKind.u64.wrap (a0))))] rfl (by (try simp only [List.map_toArray,List.map_cons,List.map_nil]);first|done|rfl) ?_;(with_reducible refine (nat_Of.calls (IntKind.u64.wrap (-(IntKind.u64.wrap (a0)))) t274 _ A3.out).mono ?_);rintro e w4 ⟨v275,rfl,ho0,hb⟩;refine ⟨_,rfl,?_⟩;have n0_:=Aside0.mk (Kd.R_lower ho0 (below_size (by repeat (first|with_reducible exact HB.out|apply ba|apply bn|apply b1))));have n1_:=Aside0.mk (below_step (by repeat (first|with_reducible exact HB.out|apply ba|apply bn|apply b1)) hb);clear HB;have HO276:=n0_;have HB:=n1_;clear n0_ n1_))
  go_ret
  exact ⟨_,by first|rfl|(simp [errW_none,errW_some] <;> rfl)|(simp [*,errW_none,errW_some] <;> rfl),by (with_reducible repeat (first|apply Ra|apply Rn|apply Rd));exact HO276.out,by repeat (first|with_reducible exact HB.out|apply ba|apply bn|apply b1)⟩
 ·rw [if_neg c2] at H
  have c2b0 : decide (a0 < 0)=false:=decide_eq_false c2
  clear c2
  replace H:=Option.bind_eq_some_iff.mp H
  obtain ⟨t277,A50,H⟩:=H
  try dsimp only at H
  have A5:=Aside0.mk A50
  clear A50
  obtain rfl:=Option.some.inj H
  go_enter Tryd.func50,Tryd.ntmps50
  go_wp2_with (first|((with_reducible refine gate_callee (f:=36) rfl ?_);refine goesL_ (some 11) rfl rfl Tryd.func36 (by kernel_rfl) rfl #[.int .u64 (IntKind.u64.wrap (a0))] rfl (by (try simp only [List.map_toArray,List.map_cons,List.map_nil]);first|done|rfl) ?_;(with_reducible refine (nat_Of.calls (IntKind.u64.wrap (a0)) t277 _ A5.out).mono ?_);rintro e w6 ⟨v278,rfl,ho0,hb⟩;refine ⟨_,rfl,?_⟩;have n0_:=Aside0.mk (Kd.R_lower ho0 (below_size (by repeat (first|with_reducible exact HB.out|apply ba|apply bn|apply b1))));have n1_:=Aside0.mk (below_step (by repeat (first|with_reducible exact HB.out|apply ba|apply bn|apply b1)) hb);clear HB;have HO279:=n0_;have HB:=n1_;clear n0_ n1_))
  go_ret
  exact ⟨_,by first|rfl|(simp [errW_none,errW_some] <;> rfl)|(simp [*,errW_none,errW_some] <;> rfl),by (with_reducible repeat (first|apply Ra|apply Rn|apply Rd));exact HO279.out,by repeat (first|with_reducible exact HB.out|apply ba|apply bn|apply b1)⟩
end Go.Proofs.YtncdiodnbkhacaaDoor.Pq
end
end
section
section
namespace Go.Proofs.YtncdiodnbkhacaaDoor.Pq
open Go.RowKit Go.Proofs.YtncdiodnbkhacaaDoorW.PrintWords Go.Proofs.YtncdiodnbkhacaaDoorW.PrintLast Go.Proofs.YtncdiodnbkhacaaDoorW.PrintMore
attribute [local go_sem] max2_int min2_int max_two min_two max_three min_three max_four min_four
set_option linter.unusedVariables false
set_option linter.unusedSimpArgs false
set_option maxHeartbeats 8000000
set_option maxRecDepth 100000
theorem rat_Of.mono : ∀ a0 a1 k,LeO (rat_Of.f k a0 a1) (rat_Of.f (k+1) a0 a1):=by
 intro a0 a1 k
 unfold rat_Of.f
 with_reducible repeat' first
  |exact rat_made.mono _ _ _ _
  |exact LeO.refl _
  |exact LeO.none _
  |refine LeO.ite ?_ ?_
  |refine LeO.bind ?_ (fun _=>?_)
theorem rat_Of.calls (k : Nat) (a0 : Int) (a1 : Int) (r1 : Bool) (r2 : List Int) (r3 : List Int) (w : World) (h : rat_Of.f k a0 a1=some (r1,r2,r3)) :
  Calls Tryd.prog 24 #[.int .i64 a0,.int .i64 a1] w fun e w'=>∃ v1_ v2_ : Value,e=.returned (.agg #[.bool r1,v1_,v2_])∧Kd.R (Kd.int .u32) 35 w' w.heap.size (fun k_=>some k_≠(v2_ : Value).ownBlock) v1_ r2∧Kd.R (Kd.int .u32) 35 w' w.heap.size (fun k_=>some k_≠(v1_ : Value).ownBlock) v2_ r3∧Below w.heap.size w w':=by
 have hu25:=Tryd.underlying25
 have HB:=Aside0.mk (Below.refl w.heap.size w)
 have H : ((rat_size.f a0).bind fun t281=>((rat_size.f a1).bind fun t284=>((rat_made.f k ((decide (a0 < 0)) != (decide (a1 < 0))) t281 t284).bind fun bt287=>(some (bt287.1,bt287.2.1,bt287.2.2)))))=some (r1,r2,r3):=h
 clear h
 replace H:=Option.bind_eq_some_iff.mp H
 obtain ⟨t281,A30,H⟩:=H
 try dsimp only at H
 have A3:=Aside0.mk A30
 clear A30
 replace H:=Option.bind_eq_some_iff.mp H
 obtain ⟨t284,A40,H⟩:=H
 try dsimp only at H
 have A4:=Aside0.mk A40
 clear A40
 replace H:=Option.bind_eq_some_iff.mp H
 obtain ⟨⟨t287,t288,t291⟩,A50,H⟩:=H
 try dsimp only at H
 have A5:=Aside0.mk A50
 clear A50
 simp only [Option.some.injEq,Prod.mk.injEq] at H
 obtain ⟨rfl,rfl,rfl⟩:=H
 go_enter Tryd.func24,Tryd.ntmps24
 go_wp2_with (first|((with_reducible refine gate_dst (N:=4) rfl ?_);refine box_event ?hg (N:=4) ?hd (cs:=#[.bool false,.slice none 0 0,.slice none 0 0]) (t:=25) ?hr ?_;(case hd=>rfl);(case hg=>rfl);(case hr=>first|(go_simp;done)|(go_simp;(with_reducible rfl))|(go_simp;rfl)|(go_simp;simp only [hu,Int.emod_sub_emod]));intro gb280 hg w6 hbox hb;have n0_:=Aside0.mk (below_step (Hu HB.out) hb);have n1_:=Aside0.mk (hbox);have n2_:=Aside0.mk ((by rw [hg];exact (below_size (Hu HB.out)) : w.heap.size≤gb280));have n3_:=Aside0.mk ((by rw [hg];exact (below_size (Hu HB.out)) : w.heap.size≤gb280));clear HB;have HB:=n0_;have BK280:=n1_;have GW280:=n2_;have GE280:=n3_;clear n0_ n1_ n2_ n3_;clear hb hbox hg)|((with_reducible refine gate_callee (f:=50) rfl ?_);refine goesL_ (some 11) rfl rfl Tryd.func50 (by kernel_rfl) rfl #[.int .i64 a0] rfl (by (try simp only [List.map_toArray,List.map_cons,List.map_nil]);first|done|rfl) ?_;(with_reducible refine (rat_size.calls a0 t281 _ A3.out).mono ?_);rintro e w7 ⟨v282,rfl,ho0,hb⟩;refine ⟨_,rfl,?_⟩;have n0_:=Aside0.mk (Kd.R_lower ho0 (below_size (by repeat (first|with_reducible exact HB.out|apply ba|apply bn|apply b1|refine below_set ?_ GE280.out))));have n1_:=Aside0.mk (blk_below (g:=gb280) (o:=.cells #[.bool false,.slice none 0 0,.slice none 0 0] 25 (0,0)) (Bu BK280.out) hb);have n2_:=Aside0.mk (below_step (by repeat (first|with_reducible exact HB.out|apply ba|apply bn|apply b1|refine below_set ?_ GE280.out)) hb);clear BK280;clear HB;have HO283:=n0_;have BK280:=n1_;have HB:=n2_;clear n0_ n1_ n2_)|((with_reducible refine gate_callee (f:=50) rfl ?_);refine goesL_ (some 13) rfl rfl Tryd.func50 (by kernel_rfl) rfl #[.int .i64 a1] rfl (by (try simp only [List.map_toArray,List.map_cons,List.map_nil]);first|done|rfl) ?_;(with_reducible refine (rat_size.calls a1 t284 _ A4.out).mono ?_);rintro e w8 ⟨v285,rfl,ho0,hb⟩;refine ⟨_,rfl,?_⟩;have n0_:=Aside0.mk (Kd.R_elder' (Ru HO283.out) (Kd.R_base ho0) hb);have n1_:=Aside0.mk (Kd.R_lower (Kd.R_new' ho0 (Kd.R_lt (Ru HO283.out))) (below_size (by repeat (first|with_reducible exact HB.out|apply ba|apply bn|apply b1|refine below_set ?_ GE280.out))));have n2_:=Aside0.mk (blk_below (g:=gb280) (o:=.cells #[.bool false,.slice none 0 0,.slice none 0 0] 25 (0,0)) (Bu BK280.out) hb);have n3_:=Aside0.mk (below_step (by repeat (first|with_reducible exact HB.out|apply ba|apply bn|apply b1|refine below_set ?_ GE280.out)) hb);clear HO283;clear BK280;clear HB;have HO283:=n0_;have HO286:=n1_;have BK280:=n2_;have HB:=n3_;clear n0_ n1_ n2_ n3_;obtain ⟨Ao9,co9,eo9⟩:=Kd.R_slice HO283.out;subst eo9;obtain ⟨Ao10,co10,eo10⟩:=Kd.R_slice HO286.out;subst eo10)|((with_reducible refine gate_callee (f:=45) rfl ?_);refine goesL_ (some 14) rfl rfl Tryd.func45 (by kernel_rfl) rfl #[.bool ((decide (a0 < 0)) != (decide (a1 < 0))),.slice Ao9 t281.length co9,.slice Ao10 t284.length co10] rfl (by (try simp only [List.map_toArray,List.map_cons,List.map_nil]);first|done|rfl) ?_;(with_reducible refine (rat_made.calls k ((decide (a0 < 0)) != (decide (a1 < 0))) _ _ t281 _ _ t284 t287 t288 t291 _ ?side1 ?side2 ?side3 ?side4 A5.out).mono ?_);(case side1=>exact Cu (Kd.R_reads' HO283.out).2.2);(case side2=>exact (Kd.R_reads' HO283.out).2.1);(case side3=>exact Cu (Kd.R_reads' HO286.out).2.2);(case side4=>exact (Kd.R_reads' HO286.out).2.1);rintro e w11 ⟨v289,v292,rfl,ho0,ho1,hb⟩;refine ⟨_,rfl,?_⟩;have n0_:=Aside0.mk (Kd.R_mono (Kd.R_told (Kd.R_told (Kd.R_old (Ru HO283.out) hb) (Kd.R_base ho0)) (Kd.R_base ho1)) (fun _ h_=>h_.1));have n1_:=Aside0.mk (Kd.R_mono (Kd.R_told (Kd.R_told (Kd.R_old (Ru HO286.out) hb) (Kd.R_base ho0)) (Kd.R_base ho1)) (fun _ h_=>h_.1));have n2_:=Aside0.mk (Kd.R_lower (Kd.R_new' (Kd.R_new' ho0 (Kd.R_lt (Ru HO283.out))) (Kd.R_lt (Ru HO286.out))) (below_size (by repeat (first|with_reducible exact HB.out|apply ba|apply bn|apply b1|refine below_set ?_ GE280.out))));have n3_:=Aside0.mk (Kd.R_lower (Kd.R_new' (Kd.R_new' ho1 (Kd.R_lt (Ru HO283.out))) (Kd.R_lt (Ru HO286.out))) (below_size (by repeat (first|with_reducible exact HB.out|apply ba|apply bn|apply b1|refine below_set ?_ GE280.out))));have n4_:=Aside0.mk (blk_below (g:=gb280) (o:=.cells #[.bool false,.slice none 0 0,.slice none 0 0] 25 (0,0)) (Bu BK280.out) hb);have n5_:=Aside0.mk (below_step (by repeat (first|with_reducible exact HB.out|apply ba|apply bn|apply b1|refine below_set ?_ GE280.out)) hb);clear HO283;clear HO286;clear BK280;clear HB;have HO283:=n0_;have HO286:=n1_;have HO290:=n2_;have HO293:=n3_;have BK280:=n4_;have HB:=n5_;clear n0_ n1_ n2_ n3_ n4_ n5_;have hcz12_0 : w11.cell? ⟨gb280,0,none⟩=some (.bool false):=(blk_cell BK280.out 0).trans rfl;have hcz12_1 : w11.cell? ⟨gb280,1,none⟩=some (.slice none 0 0):=(blk_cell BK280.out 1).trans rfl;have hcz12_2 : w11.cell? ⟨gb280,2,none⟩=some (.slice none 0 0):=(blk_cell BK280.out 2).trans rfl;have hfz12_0:=blk_frozen BK280.out 0;have hfz12_1:=blk_frozen BK280.out 1;have hfz12_2:=blk_frozen BK280.out 2;obtain ⟨Ao13,co13,eo13⟩:=Kd.R_slice HO290.out;subst eo13;obtain ⟨Ao14,co14,eo14⟩:=Kd.R_slice HO293.out;subst eo14))
 refine bodyPost_ret (results_cell_row rfl _ _ gb280 25 #[.bool t287,.slice Ao13 t288.length co13,.slice Ao14 t291.length co14] (0,0) _ rfl (by (with_reducible repeat (first|refine blk_drewN ?_ _|refine blk_drew ?_|refine blk_alloc ?_ _));refine blk_put (cs:=#[.bool t287,.slice Ao13 t288.length co13,.slice none 0 0]) ?_ 2 _ rfl;(with_reducible repeat (first|refine blk_drewN ?_ _|refine blk_drew ?_|refine blk_alloc ?_ _));refine blk_put (cs:=#[.bool t287,.slice none 0 0,.slice none 0 0]) ?_ 1 _ rfl;(with_reducible repeat (first|refine blk_drewN ?_ _|refine blk_drew ?_|refine blk_alloc ?_ _));refine blk_put (cs:=#[.bool false,.slice none 0 0,.slice none 0 0]) ?_ 0 _ rfl;(with_reducible repeat (first|refine blk_drewN ?_ _|refine blk_drew ?_|refine blk_alloc ?_ _));exact BK280.out) Tryd.underlying25 rfl (by kernel_rfl)) rfl ?_
 exact ⟨_,_,by first|rfl|(simp [errW_none,errW_some] <;> rfl)|(simp [*,errW_none,errW_some] <;> rfl),by (with_reducible repeat (first|apply Ra|apply Rn|apply Rd));exact Kd.R_mono (Kd.R_far (p:=⟨gb280,2,none⟩) (Kd.R_far (p:=⟨gb280,1,none⟩) (Kd.R_far (p:=⟨gb280,0,none⟩) (Kd.R_types HO290.out BK280.out (by decide)) (fun _ hk=>hk.2) (.bool t287)) (fun _ hk=>hk.2) (.slice Ao13 t288.length co13)) (fun _ hk=>hk.2) (.slice Ao14 t291.length co14)) (fun _ hk=>hk.1.1.1),by (with_reducible repeat (first|apply Ra|apply Rn|apply Rd));exact Kd.R_mono (Kd.R_far (p:=⟨gb280,2,none⟩) (Kd.R_far (p:=⟨gb280,1,none⟩) (Kd.R_far (p:=⟨gb280,0,none⟩) (Kd.R_types HO293.out BK280.out (by decide)) (fun _ hk=>hk.2) (.bool t287)) (fun _ hk=>hk.2) (.slice Ao13 t288.length co13)) (fun _ hk=>hk.2) (.slice Ao14 t291.length co14)) (fun _ hk=>hk.1.1.1),by repeat (first|with_reducible exact HB.out|apply ba|apply bn|apply b1|refine below_set ?_ GE280.out)⟩
end Go.Proofs.YtncdiodnbkhacaaDoor.Pq
end
end
section
section
namespace Go.Proofs.YtncdiodnbkhacaaDoor.Pq
open Go.RowKit Go.Proofs.YtncdiodnbkhacaaDoorW.PrintWords Go.Proofs.YtncdiodnbkhacaaDoorW.PrintLast Go.Proofs.YtncdiodnbkhacaaDoorW.PrintMore
attribute [local go_sem] max2_int min2_int max_two min_two max_three min_three max_four min_four
set_option linter.unusedVariables false
set_option linter.unusedSimpArgs false
set_option maxHeartbeats 8000000
set_option maxRecDepth 100000
theorem rat_Read.mono : ∀ a0 a1 a2 k,LeO (rat_Read.f k a0 a1 a2) (rat_Read.f (k+1) a0 a1 a2):=by
 intro a0 a1 a2 k
 unfold rat_Read.f
 with_reducible repeat' first
  |exact rat_made.mono _ _ _ _
  |exact LeO.refl _
  |exact LeO.none _
  |refine LeO.ite ?_ ?_
  |refine LeO.bind ?_ (fun _=>?_)
theorem rat_Read.calls (k : Nat) (a0_0 : Bool) (A0_1 : Option Addr) (c0_1 : Nat) (l0_1 : List Int) (A0_2 : Option Addr) (c0_2 : Nat) (l0_2 : List Int) (r1 : Bool) (r2 : List Int) (r3 : List Int) (w : World) (hr0_1 : Kd.C (Kd.int .u32) w A0_1 l0_1.length l0_1) (hc0_1 : l0_1.length≤c0_1) (hr0_2 : Kd.C (Kd.int .u32) w A0_2 l0_2.length l0_2) (hc0_2 : l0_2.length≤c0_2) (h : rat_Read.f k a0_0 l0_1 l0_2=some (r1,r2,r3)) :
  Calls Tryd.prog 18 #[.agg #[.bool a0_0,.slice A0_1 l0_1.length c0_1,.slice A0_2 l0_2.length c0_2]] w fun e w'=>∃ v1_ v2_ : Value,e=.returned (.agg #[.bool r1,v1_,v2_])∧Kd.R (Kd.int .u32) 35 w' w.heap.size (fun k_=>some k_≠(v2_ : Value).ownBlock) v1_ r2∧Kd.R (Kd.int .u32) 35 w' w.heap.size (fun k_=>some k_≠(v1_ : Value).ownBlock) v2_ r3∧Below w.heap.size w w':=by
 have hu25:=Tryd.underlying25
 have HR0_1:=Aside0.mk hr0_1
 have HC0_1:=Aside0.mk hc0_1
 clear hr0_1 hc0_1
 have HR0_2:=Aside0.mk hr0_2
 have HC0_2:=Aside0.mk hc0_2
 clear hr0_2 hc0_2
 have HB:=Aside0.mk (Below.refl w.heap.size w)
 have H : ((rat_made.f k a0_0 l0_1 l0_2).bind fun bt261=>(some (bt261.1,bt261.2.1,bt261.2.2)))=some (r1,r2,r3):=h
 clear h
 replace H:=Option.bind_eq_some_iff.mp H
 obtain ⟨⟨t261,t262,t265⟩,A20,H⟩:=H
 try dsimp only at H
 have A2:=Aside0.mk A20
 clear A20
 simp only [Option.some.injEq,Prod.mk.injEq] at H
 obtain ⟨rfl,rfl,rfl⟩:=H
 go_enter Tryd.func18,Tryd.ntmps18
 go_wp2_with (first|((with_reducible refine gate_dst (N:=1) rfl ?_);refine box_event ?hg (N:=1) ?hd (cs:=#[.bool a0_0,.slice A0_1 l0_1.length c0_1,.slice A0_2 l0_2.length c0_2]) (t:=25) ?hr ?_;(case hd=>rfl);(case hg=>rfl);(case hr=>first|(go_simp;done)|(go_simp;(with_reducible rfl))|(go_simp;rfl)|(go_simp;simp only [hu,Int.emod_sub_emod]));intro gb259 hg w3 hbox hb;have n0_:=Aside0.mk (below_step (Hu HB.out) hb);have n1_:=Aside0.mk (hbox);have n2_:=Aside0.mk ((by rw [hg];exact (below_size (Hu HB.out)) : w.heap.size≤gb259));have n3_:=Aside0.mk ((by rw [hg];exact (below_size (Hu HB.out)) : w.heap.size≤gb259));clear HB;have HB:=n0_;have BK259:=n1_;have GW259:=n2_;have GE259:=n3_;clear n0_ n1_ n2_ n3_;clear hb hbox hg)|((with_reducible refine gate_dst (N:=2) rfl ?_);refine box_event ?hg (N:=2) ?hd (cs:=#[.bool false,.slice none 0 0,.slice none 0 0]) (t:=25) ?hr ?_;(case hd=>rfl);(case hg=>rfl);(case hr=>first|(go_simp;done)|(go_simp;(with_reducible rfl))|(go_simp;rfl)|(go_simp;simp only [hu,Int.emod_sub_emod]));intro gb260 hg w4 hbox hb;have n0_:=Aside0.mk (blk_below (g:=gb259) (o:=.cells #[.bool a0_0,.slice A0_1 l0_1.length c0_1,.slice A0_2 l0_2.length c0_2] 25 (0,0)) (Bu BK259.out) hb);have n1_:=Aside0.mk (below_step (by repeat (first|with_reducible exact HB.out|apply ba|apply bn|apply b1|refine below_set ?_ GE259.out)) hb);have n2_:=Aside0.mk (hbox);have n3_:=Aside0.mk ((by rw [hg];exact (below_size (by repeat (first|with_reducible exact HB.out|apply ba|apply bn|apply b1|refine below_set ?_ GE259.out))) : w.heap.size≤gb260));have n4_:=Aside0.mk ((by rw [hg];exact (below_size (by repeat (first|with_reducible exact HB.out|apply ba|apply bn|apply b1|refine below_set ?_ GE259.out))) : w.heap.size≤gb260));have n5_:=Aside0.mk ((by rw [hg];exact Nat.ne_of_lt (blk_lt (g:=gb259) (o:=.cells #[.bool a0_0,.slice A0_1 l0_1.length c0_1,.slice A0_2 l0_2.length c0_2] 25 (0,0)) (Bu BK259.out)) : gb259≠gb260));have n6_:=Aside0.mk ((by rw [hg];exact Nat.ne_of_gt (blk_lt (g:=gb259) (o:=.cells #[.bool a0_0,.slice A0_1 l0_1.length c0_1,.slice A0_2 l0_2.length c0_2] 25 (0,0)) (Bu BK259.out)) : gb260≠gb259));clear BK259;clear HB;have BK259:=n0_;have HB:=n1_;have BK260:=n2_;have GW260:=n3_;have GE260:=n4_;have NB259_260:=n5_;have NB260_259:=n6_;clear n0_ n1_ n2_ n3_ n4_ n5_ n6_;clear hb hbox hg;have hnb5:=NB259_260.out;have hnc5:=NB260_259.out;have hcz6_0 : w4.cell? ⟨gb259,0,none⟩=some (.bool a0_0):=(blk_cell BK259.out 0).trans rfl;have hcz6_1 : w4.cell? ⟨gb259,1,none⟩=some (.slice A0_1 l0_1.length c0_1):=(blk_cell BK259.out 1).trans rfl;have hcz6_2 : w4.cell? ⟨gb259,2,none⟩=some (.slice A0_2 l0_2.length c0_2):=(blk_cell BK259.out 2).trans rfl;have hfz6_0:=blk_frozen BK259.out 0;have hfz6_1:=blk_frozen BK259.out 1;have hfz6_2:=blk_frozen BK259.out 2)|((with_reducible refine gate_callee (f:=45) rfl ?_);refine goesL_ (some 9) rfl rfl Tryd.func45 (by kernel_rfl) rfl #[.bool a0_0,.slice A0_1 l0_1.length c0_1,.slice A0_2 l0_2.length c0_2] rfl (by (try simp only [List.map_toArray,List.map_cons,List.map_nil]);first|done|rfl) ?_;(with_reducible refine (rat_made.calls k a0_0 _ _ l0_1 _ _ l0_2 t261 t262 t265 _ ?side1 ?side2 ?side3 ?side4 A2.out).mono ?_);(case side1=>repeat (first|exact (Kd.C_below HR0_1.out HB.out)|(with_reducible refine Kd.C_alloc ?_ _)|(with_reducible refine Kd.C_drewN ?_ _)|(with_reducible refine Kd.C_drew ?_)));(case side2=>exact HC0_1.out);(case side3=>repeat (first|exact (Kd.C_below HR0_2.out HB.out)|(with_reducible refine Kd.C_alloc ?_ _)|(with_reducible refine Kd.C_drewN ?_ _)|(with_reducible refine Kd.C_drew ?_)));(case side4=>exact HC0_2.out);rintro e w7 ⟨v263,v266,rfl,ho0,ho1,hb⟩;refine ⟨_,rfl,?_⟩;have n0_:=Aside0.mk (Kd.R_lower ho0 (below_size (by repeat (first|with_reducible exact HB.out|apply ba|apply bn|apply b1|refine below_set ?_ GE259.out|refine below_set ?_ GE260.out))));have n1_:=Aside0.mk (Kd.R_lower ho1 (below_size (by repeat (first|with_reducible exact HB.out|apply ba|apply bn|apply b1|refine below_set ?_ GE259.out|refine below_set ?_ GE260.out))));have n2_:=Aside0.mk (blk_below (g:=gb259) (o:=.cells #[.bool a0_0,.slice A0_1 l0_1.length c0_1,.slice A0_2 l0_2.length c0_2] 25 (0,0)) (Bu BK259.out) hb);have n3_:=Aside0.mk (blk_below (g:=gb260) (o:=.cells #[.bool false,.slice none 0 0,.slice none 0 0] 25 (0,0)) (Bu BK260.out) hb);have n4_:=Aside0.mk (below_step (by repeat (first|with_reducible exact HB.out|apply ba|apply bn|apply b1|refine below_set ?_ GE259.out|refine below_set ?_ GE260.out)) hb);clear BK259;clear BK260;clear HB;have HO264:=n0_;have HO267:=n1_;have BK259:=n2_;have BK260:=n3_;have HB:=n4_;clear n0_ n1_ n2_ n3_ n4_;have hcz8_0 : w7.cell? ⟨gb260,0,none⟩=some (.bool false):=(blk_cell BK260.out 0).trans rfl;have hcz8_1 : w7.cell? ⟨gb260,1,none⟩=some (.slice none 0 0):=(blk_cell BK260.out 1).trans rfl;have hcz8_2 : w7.cell? ⟨gb260,2,none⟩=some (.slice none 0 0):=(blk_cell BK260.out 2).trans rfl;have hfz8_0:=blk_frozen BK260.out 0;have hfz8_1:=blk_frozen BK260.out 1;have hfz8_2:=blk_frozen BK260.out 2;obtain ⟨Ao9,co9,eo9⟩:=Kd.R_slice HO264.out;subst eo9;obtain ⟨Ao10,co10,eo10⟩:=Kd.R_slice HO267.out;subst eo10))
 refine bodyPost_ret (results_cell_row rfl _ _ gb260 25 #[.bool t261,.slice Ao9 t262.length co9,.slice Ao10 t265.length co10] (0,0) _ rfl (by (with_reducible repeat (first|refine blk_drewN ?_ _|refine blk_drew ?_|refine blk_alloc ?_ _));refine blk_put (cs:=#[.bool t261,.slice Ao9 t262.length co9,.slice none 0 0]) ?_ 2 _ rfl;(with_reducible repeat (first|refine blk_drewN ?_ _|refine blk_drew ?_|refine blk_alloc ?_ _));refine blk_put (cs:=#[.bool t261,.slice none 0 0,.slice none 0 0]) ?_ 1 _ rfl;(with_reducible repeat (first|refine blk_drewN ?_ _|refine blk_drew ?_|refine blk_alloc ?_ _));refine blk_put (cs:=#[.bool false,.slice none 0 0,.slice none 0 0]) ?_ 0 _ rfl;(with_reducible repeat (first|refine blk_drewN ?_ _|refine blk_drew ?_|refine blk_alloc ?_ _));exact BK260.out) Tryd.underlying25 rfl (by kernel_rfl)) rfl ?_
 exact ⟨_,_,by first|rfl|(simp [errW_none,errW_some] <;> rfl)|(simp [*,errW_none,errW_some] <;> rfl),by (with_reducible repeat (first|apply Ra|apply Rn|apply Rd));exact Kd.R_mono (Kd.R_far (p:=⟨gb260,2,none⟩) (Kd.R_far (p:=⟨gb260,1,none⟩) (Kd.R_far (p:=⟨gb260,0,none⟩) (Kd.R_types HO264.out BK260.out (by decide)) (fun _ hk=>hk.2) (.bool t261)) (fun _ hk=>hk.2) (.slice Ao9 t262.length co9)) (fun _ hk=>hk.2) (.slice Ao10 t265.length co10)) (fun _ hk=>hk.1),by (with_reducible repeat (first|apply Ra|apply Rn|apply Rd));exact Kd.R_mono (Kd.R_far (p:=⟨gb260,2,none⟩) (Kd.R_far (p:=⟨gb260,1,none⟩) (Kd.R_far (p:=⟨gb260,0,none⟩) (Kd.R_types HO267.out BK260.out (by decide)) (fun _ hk=>hk.2) (.bool t261)) (fun _ hk=>hk.2) (.slice Ao9 t262.length co9)) (fun _ hk=>hk.2) (.slice Ao10 t265.length co10)) (fun _ hk=>hk.1),by repeat (first|with_reducible exact HB.out|apply ba|apply bn|apply b1|refine below_set ?_ GE259.out|refine below_set ?_ GE260.out)⟩
end Go.Proofs.YtncdiodnbkhacaaDoor.Pq
end
end
section
section
namespace Go.Proofs.YtncdiodnbkhacaaDoor.Pq
open Go.RowKit Go.Proofs.YtncdiodnbkhacaaDoorW.PrintWords Go.Proofs.YtncdiodnbkhacaaDoorW.PrintLast Go.Proofs.YtncdiodnbkhacaaDoorW.PrintMore
attribute [local go_sem] max2_int min2_int max_two min_two max_three min_three max_four min_four
set_option linter.unusedVariables false
set_option linter.unusedSimpArgs false
set_option maxHeartbeats 8000000
set_option maxRecDepth 100000
theorem stringslite_HasPrefix.calls (a0 : ByteArray) (a1 : ByteArray) (r : Bool) (w : World) (h : stringslite_HasPrefix.f a0 a1=some r) :
  Calls Tryd.prog 79 #[.string a0,.string a1] w fun e w'=>e=.returned (.bool r)∧Drawn0 w w':=by
 have H : (if (a0.size : Int) ≥ (a1.size : Int) then (if 0≤(a1.size : Int) then (if (a1.size : Int)≤(a0.size : Int) then (some ((a0.extract 0 ((a1.size : Int) : Int).toNat).toList == a1.toList)) else (none)) else (none)) else (some false))=some r:=h
 clear h
 by_cases c3 : (a0.size : Int) ≥ (a1.size : Int)
 ·rw [if_pos c3] at H
  have c3b0 : decide ((a1.size : Int)≤(a0.size : Int))=true:=decide_eq_true c3
  have c3b1 : decide (a1.size≤a0.size)=true:=decide_eq_true (Int.ofNat_le.mp c3)
  clear c3
  by_cases c4 : 0≤(a1.size : Int)
  case neg =>rw [if_neg c4] at H;exact absurd H (by simp)
  rw [if_pos c4] at H
  have c4b0:=eq_true c4
  have c4b1 : decide (0≤(a1.size : Int))=true:=decide_eq_true c4
  clear c4
  by_cases c5 : (a1.size : Int)≤(a0.size : Int)
  case neg =>rw [if_neg c5] at H;exact absurd H (by simp)
  rw [if_pos c5] at H
  have c5b0:=eq_true c5
  have c5b1 : decide ((a1.size : Int)≤(a0.size : Int))=true:=decide_eq_true c5
  clear c5
  obtain rfl:=Option.some.inj H
  go_enter Tryd.func79,Tryd.ntmps79
  go_wp2
  go_ret
  exact ⟨by first|rfl|(simp;done)|(simp [*];done),by repeat (first|exact Drawn0.refl _|apply Drawn0.step)⟩
 ·rw [if_neg c3] at H
  have c3b0 : decide ((a1.size : Int)≤(a0.size : Int))=false:=decide_eq_false c3
  have c3b1 : decide (a1.size≤a0.size)=false:=decide_eq_false (fun h=>c3 (Int.ofNat_le.mpr h))
  clear c3
  obtain rfl:=Option.some.inj H
  go_enter Tryd.func79,Tryd.ntmps79
  go_wp2
  go_ret
  exact ⟨by first|rfl|(simp;done)|(simp [*];done),by repeat (first|exact Drawn0.refl _|apply Drawn0.step)⟩
end Go.Proofs.YtncdiodnbkhacaaDoor.Pq
end
end
section
section
namespace Go.Proofs.YtncdiodnbkhacaaDoor.Pq
open Go.RowKit Go.Proofs.YtncdiodnbkhacaaDoorW.PrintWords Go.Proofs.YtncdiodnbkhacaaDoorW.PrintLast Go.Proofs.YtncdiodnbkhacaaDoorW.PrintMore
attribute [local go_sem] max2_int min2_int max_two min_two max_three min_three max_four min_four
set_option linter.unusedVariables false
set_option linter.unusedSimpArgs false
set_option maxHeartbeats 8000000
set_option maxRecDepth 100000
theorem stringslite_CutPrefix.calls (a0 : ByteArray) (a1 : ByteArray) (r1 : ByteArray) (r2 : Bool) (w : World) (h : stringslite_CutPrefix.f a0 a1=some (r1,r2)) :
  Calls Tryd.prog 51 #[.string a0,.string a1] w fun e w'=>e=.returned (.tuple #[.string r1,.bool r2])∧Drawn0 w w':=by
 have H : ((stringslite_HasPrefix.f a0 a1).bind fun t294=>(if t294=true then (if 0≤(a1.size : Int) then (if (a1.size : Int)≤(a0.size : Int) then (some (a0.extract ((a1.size : Int) : Int).toNat a0.size,true)) else (none)) else (none)) else (some (a0,false))))=some (r1,r2):=h
 clear h
 replace H:=Option.bind_eq_some_iff.mp H
 obtain ⟨t294,A30,H⟩:=H
 try dsimp only at H
 have A3:=Aside0.mk A30
 clear A30
 by_cases c4 : t294=true
 ·subst c4
  rw [if_pos rfl] at H
  by_cases c5 : 0≤(a1.size : Int)
  case neg =>rw [if_neg c5] at H;exact absurd H (by simp)
  rw [if_pos c5] at H
  have c5b0:=eq_true c5
  have c5b1 : decide (0≤(a1.size : Int))=true:=decide_eq_true c5
  clear c5
  by_cases c6 : (a1.size : Int)≤(a0.size : Int)
  case neg =>rw [if_neg c6] at H;exact absurd H (by simp)
  rw [if_pos c6] at H
  have c6b0:=eq_true c6
  have c6b1 : decide ((a1.size : Int)≤(a0.size : Int))=true:=decide_eq_true c6
  clear c6
  simp only [Option.some.injEq,Prod.mk.injEq] at H
  obtain ⟨rfl,rfl⟩:=H
  go_enter Tryd.func51,Tryd.ntmps51
  go_wp2_with (first|((with_reducible refine gate_callee (f:=79) rfl ?_);refine goesL_ (some 8) rfl rfl Tryd.func79 (by kernel_rfl) rfl #[.string a0,.string a1] rfl (by (try simp only [List.map_toArray,List.map_cons,List.map_nil]);first|done|rfl) ?_;(with_reducible refine (stringslite_HasPrefix.calls a0 a1 true _ A3.out).mono ?_);rintro e w' ⟨rfl,⟨nd,rfl⟩⟩;refine ⟨_,rfl,?_⟩))
  go_ret2
  exact ⟨by first|rfl|(simp;done)|(simp [*];done),by repeat (first|exact Drawn0.refl _|apply Drawn0.step)⟩
 ·replace c4:=Bool.eq_false_iff.mpr c4
  subst c4
  rw [if_neg (show ¬ (false=true) by decide)] at H
  simp only [Option.some.injEq,Prod.mk.injEq] at H
  obtain ⟨rfl,rfl⟩:=H
  go_enter Tryd.func51,Tryd.ntmps51
  go_wp2_with (first|((with_reducible refine gate_callee (f:=79) rfl ?_);refine goesL_ (some 8) rfl rfl Tryd.func79 (by kernel_rfl) rfl #[.string a0,.string a1] rfl (by (try simp only [List.map_toArray,List.map_cons,List.map_nil]);first|done|rfl) ?_;(with_reducible refine (stringslite_HasPrefix.calls a0 a1 false _ A3.out).mono ?_);rintro e w' ⟨rfl,⟨nd,rfl⟩⟩;refine ⟨_,rfl,?_⟩))
  go_ret2
  exact ⟨by first|rfl|(simp;done)|(simp [*];done),by repeat (first|exact Drawn0.refl _|apply Drawn0.step)⟩
end Go.Proofs.YtncdiodnbkhacaaDoor.Pq
end
end
section
section
namespace Go.Proofs.YtncdiodnbkhacaaDoor.Pq
open Go.RowKit Go.Proofs.YtncdiodnbkhacaaDoorW.PrintWords Go.Proofs.YtncdiodnbkhacaaDoorW.PrintLast Go.Proofs.YtncdiodnbkhacaaDoorW.PrintMore
attribute [local go_sem] max2_int min2_int max_two min_two max_three min_three max_four min_four
set_option linter.unusedVariables false
set_option linter.unusedSimpArgs false
set_option maxHeartbeats 8000000
set_option maxRecDepth 100000
theorem strings_CutPrefix.calls (a0 : ByteArray) (a1 : ByteArray) (r1 : ByteArray) (r2 : Bool) (w : World) (h : strings_CutPrefix.f a0 a1=some (r1,r2)) :
  Calls Tryd.prog 25 #[.string a0,.string a1] w fun e w'=>e=.returned (.tuple #[.string r1,.bool r2])∧Drawn0 w w':=by
 have H : ((stringslite_CutPrefix.f a0 a1).bind fun bt295=>(some (bt295.1,bt295.2)))=some (r1,r2):=h
 clear h
 replace H:=Option.bind_eq_some_iff.mp H
 obtain ⟨⟨t295,t296⟩,A30,H⟩:=H
 try dsimp only at H
 have A3:=Aside0.mk A30
 clear A30
 simp only [Option.some.injEq,Prod.mk.injEq] at H
 obtain ⟨rfl,rfl⟩:=H
 go_enter Tryd.func25,Tryd.ntmps25
 go_wp2_with (first|((with_reducible refine gate_callee (f:=51) rfl ?_);refine goesL_ (some 8) rfl rfl Tryd.func51 (by kernel_rfl) rfl #[.string a0,.string a1] rfl (by (try simp only [List.map_toArray,List.map_cons,List.map_nil]);first|done|rfl) ?_;(with_reducible refine (stringslite_CutPrefix.calls a0 a1 t295 t296 _ A3.out).mono ?_);rintro e w' ⟨rfl,⟨nd,rfl⟩⟩;refine ⟨_,rfl,?_⟩))
 go_ret2
 exact ⟨by first|rfl|(simp;done)|(simp [*];done),by repeat (first|exact Drawn0.refl _|apply Drawn0.step)⟩
end Go.Proofs.YtncdiodnbkhacaaDoor.Pq
end
end
section
section
namespace Go.Proofs.YtncdiodnbkhacaaDoor.Pq
open Go.RowKit Go.Proofs.YtncdiodnbkhacaaDoorW.PrintWords Go.Proofs.YtncdiodnbkhacaaDoorW.PrintLast Go.Proofs.YtncdiodnbkhacaaDoorW.PrintMore
attribute [local go_sem] max2_int min2_int max_two min_two max_three min_three max_four min_four
set_option linter.unusedVariables false
set_option linter.unusedSimpArgs false
set_option maxHeartbeats 8000000
set_option maxRecDepth 100000
theorem strings_Repeat.n_eq (l : List UInt8) : ∀ n,strings_Repeat.n l n=Go.Lib.repeatL l n
|0=>rfl
|n+1=>by
  show l++strings_Repeat.n l n=_
  rw [strings_Repeat.n_eq l n]
  rfl
theorem strings_Repeat.calls (a0 : ByteArray) (a1 : Int) (r : ByteArray) (w : World) (h : strings_Repeat.f a0 a1=some r) :
  Calls Tryd.prog 27 #[.string a0,.int .i64 a1] w fun e w'=>e=.returned (.string r)∧Below w.heap.size w w':=by
 unfold strings_Repeat.f at h
 by_cases hc : 0≤a1∧a1≤9223372036854775807∧a0.size * a1.toNat≤140737488355328
 ·rw [if_pos hc] at h
  obtain rfl:=Option.some.inj h
  obtain ⟨n,rfl⟩:=Int.eq_ofNat_of_zero_le hc.1
  rw [Int.toNat_natCast] at hc ⊢
  rw [strings_Repeat.n_eq]
  exact Go.Proofs.Any.strings_Repeat Go.Proofs.Tryd.lays105 Go.Proofs.Tryd.Builder_Extra_105 a0 n w (by omega) hc.2.2
 ·rw [if_neg hc] at h
  cases h
end Go.Proofs.YtncdiodnbkhacaaDoor.Pq
end
end
section
section
namespace Go.Proofs.YtncdiodnbkhacaaDoor.Pq
open Go.RowKit Go.Proofs.YtncdiodnbkhacaaDoorW.PrintWords Go.Proofs.YtncdiodnbkhacaaDoorW.PrintLast Go.Proofs.YtncdiodnbkhacaaDoorW.PrintMore
attribute [local go_sem] max2_int min2_int max_two min_two max_three min_three max_four min_four
set_option linter.unusedVariables false
set_option linter.unusedSimpArgs false
set_option maxHeartbeats 8000000
set_option maxRecDepth 100000
theorem decimal_Parse.mono_l : ∀ k,(∀ y0 y1 y2 y3 y4 y5 y6,LeO (decimal_Parse.j1 k y0 y1 y2 y3 y4 y5 y6) (decimal_Parse.j1 (k+1) y0 y1 y2 y3 y4 y5 y6))∧(∀ y0 y1 y2 y3 y4 y5 y6 y7 y8,LeO (decimal_Parse.j0 k y0 y1 y2 y3 y4 y5 y6 y7 y8) (decimal_Parse.j0 (k+1) y0 y1 y2 y3 y4 y5 y6 y7 y8))
|0=>⟨fun _ _ _ _ _ _ _ r h=>by simp [decimal_Parse.j1] at h,fun _ _ _ _ _ _ _ _ _ r h=>by simp [decimal_Parse.j0] at h⟩
|k+1=>by
  obtain ⟨ih0,ih1⟩:=decimal_Parse.mono_l k
  refine ⟨?_,?_⟩
  ·intro y0 y1 y2 y3 y4 y5 y6
   unfold decimal_Parse.j1
   with_reducible repeat' first
  |exact ih0 _ _ _ _ _ _ _
  |exact ih1 _ _ _ _ _ _ _ _ _
  |exact decimal_number.mono _ _
  |exact rat_Of.mono _ _ _
  |exact rat_Read.mono _ _ _ _
  |exact LeO.refl _
  |exact LeO.none _
  |refine LeO.ite ?_ ?_
  |refine LeO.bind ?_ (fun _=>?_)
  ·intro y0 y1 y2 y3 y4 y5 y6 y7 y8
   unfold decimal_Parse.j0
   with_reducible repeat' first
  |exact ih0 _ _ _ _ _ _ _
  |exact ih1 _ _ _ _ _ _ _ _ _
  |exact decimal_number.mono _ _
  |exact rat_Of.mono _ _ _
  |exact rat_Read.mono _ _ _ _
  |exact LeO.refl _
  |exact LeO.none _
  |refine LeO.ite ?_ ?_
  |refine LeO.bind ?_ (fun _=>?_)
theorem decimal_Parse.mono : ∀ a0 k,LeO (decimal_Parse.f k a0) (decimal_Parse.f (k+1) a0):=by
 intro a0 k
 obtain ⟨ih0,ih1⟩:=decimal_Parse.mono_l k
 unfold decimal_Parse.f
 with_reducible repeat' first
  |exact ih0 _ _ _ _ _ _ _
  |exact ih1 _ _ _ _ _ _ _ _ _
  |exact decimal_number.mono _ _
  |exact rat_Of.mono _ _ _
  |exact rat_Read.mono _ _ _ _
  |exact LeO.refl _
  |exact LeO.none _
  |refine LeO.ite ?_ ?_
  |refine LeO.bind ?_ (fun _=>?_)
theorem decimal_Parse.calls (k : Nat) (a0 : ByteArray) (r1 : Bool) (r2 : List Int) (r3 : List Int) (r4 : Int) (w : World) (h : decimal_Parse.f k a0=some (r1,r2,r3,r4)) :
  Calls Tryd.prog 9 #[.string a0] w fun e w'=>∃ v1_ v2_ : Value,e=.returned (.tuple #[.agg #[.bool r1,v1_,v2_],.int .i64 r4])∧Kd.R (Kd.int .u32) 35 w' w.heap.size (fun k_=>some k_≠(v2_ : Value).ownBlock) v1_ r2∧Kd.R (Kd.int .u32) 35 w' w.heap.size (fun k_=>some k_≠(v1_ : Value).ownBlock) v2_ r3∧Below w.heap.size w w':=by
 have hu25:=Tryd.underlying25
 have HB:=Aside0.mk (Below.refl w.heap.size w)
 have H : ((rat_Of.f k 0 1).bind fun bt375=>(if (a0.size : Int) > 20000 then (some (bt375.1,bt375.2.1,bt375.2.2,41)) else ((strings_CutPrefix.f a0 (⟨#[45]⟩ : ByteArray)).bind fun bt383=>((decimal_digits.f bt383.1).bind fun t385=>(if 0≤t385 then (if t385≤(bt383.1.size : Int) then (if (bt383.1.extract (t385 : Int).toNat bt383.1.size).toList=([] : List UInt8) then (decimal_Parse.j1 k bt383.2 t385 (bt383.1.extract 0 (t385 : Int).toNat) (⟨#[49]⟩ : ByteArray) bt375.1 bt375.2.1 bt375.2.2) else (if 1≤((bt383.1.extract (t385 : Int).toNat bt383.1.size).size : Int) then ((decimal_digits.f ((bt383.1.extract (t385 : Int).toNat bt383.1.size).extract 1 (bt383.1.extract (t385 : Int).toNat bt383.1.size).size)).bind fun t386=>(if t386=0 then (decimal_Parse.j0 k bt383.2 t385 (bt383.1.extract 0 (t385 : Int).toNat) (bt383.1.extract (t385 : Int).toNat bt383.1.size) ((bt383.1.extract (t385 : Int).toNat bt383.1.size).extract 1 (bt383.1.extract (t385 : Int).toNat bt383.1.size).size) true bt375.1 bt375.2.1 bt375.2.2) else (if t386 < (((bt383.1.extract (t385 : Int).toNat bt383.1.size).extract 1 (bt383.1.extract (t385 : Int).toNat bt383.1.size).size).size : Int) then (decimal_Parse.j0 k bt383.2 t385 (bt383.1.extract 0 (t385 : Int).toNat) (bt383.1.extract (t385 : Int).toNat bt383.1.size) ((bt383.1.extract (t385 : Int).toNat bt383.1.size).extract 1 (bt383.1.extract (t385 : Int).toNat bt383.1.size).size) true bt375.1 bt375.2.1 bt375.2.2) else (if 0 < ((bt383.1.extract (t385 : Int).toNat bt383.1.size).size : Int) then (if (bt (bt383.1.extract (t385 : Int).toNat bt383.1.size) 0)=46 then (decimal_Parse.j0 k bt383.2 t385 (bt383.1.extract 0 (t385 : Int).toNat) (bt383.1.extract (t385 : Int).toNat bt383.1.size) ((bt383.1.extract (t385 : Int).toNat bt383.1.size).extract 1 (bt383.1.extract (t385 : Int).toNat bt383.1.size).size) false bt375.1 bt375.2.1 bt375.2.2) else (decimal_Parse.j0 k bt383.2 t385 (bt383.1.extract 0 (t385 : Int).toNat) (bt383.1.extract (t385 : Int).toNat bt383.1.size) ((bt383.1.extract (t385 : Int).toNat bt383.1.size).extract 1 (bt383.1.extract (t385 : Int).toNat bt383.1.size).size) ((bt (bt383.1.extract (t385 : Int).toNat bt383.1.size) 0) != 47) bt375.1 bt375.2.1 bt375.2.2)) else (none))))) else (none))) else (none)) else (none))))))=some (r1,r2,r3,r4):=h
 clear h
 replace H:=Option.bind_eq_some_iff.mp H
 obtain ⟨⟨t375,t376,t379⟩,A20,H⟩:=H
 try dsimp only at H
 have A2:=Aside0.mk A20
 clear A20
 by_cases c3 : (a0.size : Int) > 20000
 ·rw [if_pos c3] at H
  have c3b0 : decide (20000 < (a0.size : Int))=true:=decide_eq_true c3
  have c3b1 : decide (20000 < a0.size)=true:=decide_eq_true (by omega)
  clear c3
  simp only [Option.some.injEq,Prod.mk.injEq] at H
  obtain ⟨rfl,rfl,rfl,rfl⟩:=H
  go_enter Tryd.func9,Tryd.ntmps9
  go_wp2_with (first|((with_reducible refine gate_dst (N:=2) rfl ?_);(try (refine gate_guard (by rfl) ?_;dsimp only));refine box_event ?hg (N:=2) ?hd (cs:=#[.bool false,.slice none 0 0,.slice none 0 0]) (t:=25) ?hr ?_;(case hd=>rfl);(case hg=>rfl);(case hr=>first|(go_simp;done)|(go_simp;(with_reducible rfl))|(go_simp;rfl)|(go_simp;simp only [hu,Int.emod_sub_emod]));intro gb374 hg w4 hbox hb;have n0_:=Aside0.mk (below_step (Hu HB.out) hb);have n1_:=Aside0.mk (hbox);have n2_:=Aside0.mk ((by rw [hg];exact (below_size (Hu HB.out)) : w.heap.size≤gb374));have n3_:=Aside0.mk ((by rw [hg];exact (below_size (Hu HB.out)) : w.heap.size≤gb374));clear HB;have HB:=n0_;have BK374:=n1_;have GW374:=n2_;have GE374:=n3_;clear n0_ n1_ n2_ n3_;clear hb hbox hg)|(go_at_call 24;(with_reducible refine (rat_Of.calls k 0 1 t375 t376 t379 _ A2.out).mono ?_);rintro e w5 ⟨v377,v380,rfl,ho0,ho1,hb⟩;have n0_:=Aside0.mk (Kd.R_lower ho0 (below_size (by repeat (with_reducible first|exact HB.out|apply ba|apply bn|apply b1|refine below_set ?_ GE374.out))));have n1_:=Aside0.mk (Kd.R_lower ho1 (below_size (by repeat (with_reducible first|exact HB.out|apply ba|apply bn|apply b1|refine below_set ?_ GE374.out))));have n2_:=Aside0.mk (blk_below (g:=gb374) (o:=.cells #[.bool false,.slice none 0 0,.slice none 0 0] 25 (0,0)) (Bu BK374.out) hb);have n3_:=Aside0.mk (below_step (by repeat (with_reducible first|exact HB.out|apply ba|apply bn|apply b1|refine below_set ?_ GE374.out)) hb);clear BK374;clear HB;have HO378:=n0_;have HO381:=n1_;have BK374:=n2_;have HB:=n3_;clear n0_ n1_ n2_ n3_)|((with_reducible refine gate_dst (N:=4) rfl ?_);(try (refine gate_guard (by rfl) ?_;dsimp only));refine box_event ?hg (N:=4) ?hd (cs:=#[.bool false,.slice none 0 0,.slice none 0 0]) (t:=25) ?hr ?_;(case hd=>rfl);(case hg=>rfl);(case hr=>first|(go_simp;done)|(go_simp;(with_reducible rfl))|(go_simp;rfl)|(go_simp;simp only [hu,Int.emod_sub_emod]));intro gb382 hg w6 hbox hb;have n0_:=Aside0.mk (Kd.R_below (Ru HO378.out) hb);have n1_:=Aside0.mk (Kd.R_below (Ru HO381.out) hb);have n2_:=Aside0.mk (blk_below (g:=gb374) (o:=.cells #[.bool false,.slice none 0 0,.slice none 0 0] 25 (0,0)) (Bu BK374.out) hb);have n3_:=Aside0.mk (below_step (by repeat (with_reducible first|exact HB.out|apply ba|apply bn|apply b1|refine below_set ?_ GE374.out)) hb);have n4_:=Aside0.mk (hbox);have n5_:=Aside0.mk ((by rw [hg];exact (below_size (by repeat (with_reducible first|exact HB.out|apply ba|apply bn|apply b1|refine below_set ?_ GE374.out))) : w.heap.size≤gb382));have n6_:=Aside0.mk ((by rw [hg];exact (below_size (by repeat (with_reducible first|exact HB.out|apply ba|apply bn|apply b1|refine below_set ?_ GE374.out))) : w.heap.size≤gb382));have n7_:=Aside0.mk ((by rw [hg];exact Nat.ne_of_lt (blk_lt (g:=gb374) (o:=.cells #[.bool false,.slice none 0 0,.slice none 0 0] 25 (0,0)) (Bu BK374.out)) : gb374≠gb382));have n8_:=Aside0.mk ((by rw [hg];exact Nat.ne_of_gt (blk_lt (g:=gb374) (o:=.cells #[.bool false,.slice none 0 0,.slice none 0 0] 25 (0,0)) (Bu BK374.out)) : gb382≠gb374));clear HO378;clear HO381;clear BK374;clear HB;have HO378:=n0_;have HO381:=n1_;have BK374:=n2_;have HB:=n3_;have BK382:=n4_;have GW382:=n5_;have GE382:=n6_;have NB374_382:=n7_;have NB382_374:=n8_;clear n0_ n1_ n2_ n3_ n4_ n5_ n6_ n7_ n8_;clear hb hbox hg;have hnb7:=NB382_374.out;have hnc7:=NB374_382.out;have hcz8_0 : w6.cell? ⟨gb382,0,none⟩=some (.bool false):=(blk_cell BK382.out 0).trans rfl;have hcz8_1 : w6.cell? ⟨gb382,1,none⟩=some (.slice none 0 0):=(blk_cell BK382.out 1).trans rfl;have hcz8_2 : w6.cell? ⟨gb382,2,none⟩=some (.slice none 0 0):=(blk_cell BK382.out 2).trans rfl;have hfz8_0:=blk_frozen BK382.out 0;have hfz8_1:=blk_frozen BK382.out 1;have hfz8_2:=blk_frozen BK382.out 2;obtain ⟨Ao9,co9,eo9⟩:=Kd.R_slice HO378.out;subst eo9;obtain ⟨Ao10,co10,eo10⟩:=Kd.R_slice HO381.out;subst eo10;have hcz11_0 : w6.cell? ⟨gb374,0,none⟩=some (.bool false):=(blk_cell BK374.out 0).trans rfl;have hcz11_1 : w6.cell? ⟨gb374,1,none⟩=some (.slice none 0 0):=(blk_cell BK374.out 1).trans rfl;have hcz11_2 : w6.cell? ⟨gb374,2,none⟩=some (.slice none 0 0):=(blk_cell BK374.out 2).trans rfl;have hfz11_0:=blk_frozen BK374.out 0;have hfz11_1:=blk_frozen BK374.out 1;have hfz11_2:=blk_frozen BK374.out 2))
  refine bodyPost_ret (results_ct rfl _ _ gb374 25 #[.bool t375,.slice Ao9 t376.length co9,.slice Ao10 t379.length co10] (0,0) _ rfl (by (with_reducible repeat (first|refine blk_drewN ?_ _|refine blk_drew ?_|refine blk_alloc ?_ _));refine blk_put (cs:=#[.bool t375,.slice Ao9 t376.length co9,.slice none 0 0]) ?_ 2 _ rfl;(with_reducible repeat (first|refine blk_drewN ?_ _|refine blk_drew ?_|refine blk_alloc ?_ _));refine blk_put (cs:=#[.bool t375,.slice none 0 0,.slice none 0 0]) ?_ 1 _ rfl;(with_reducible repeat (first|refine blk_drewN ?_ _|refine blk_drew ?_|refine blk_alloc ?_ _));refine blk_put (cs:=#[.bool false,.slice none 0 0,.slice none 0 0]) ?_ 0 _ rfl;(with_reducible repeat (first|refine blk_drewN ?_ _|refine blk_drew ?_|refine blk_alloc ?_ _));refine blk_far ?_ NB374_382.out _;(with_reducible repeat (first|refine blk_drewN ?_ _|refine blk_drew ?_|refine blk_alloc ?_ _));refine blk_far ?_ NB374_382.out _;(with_reducible repeat (first|refine blk_drewN ?_ _|refine blk_drew ?_|refine blk_alloc ?_ _));refine blk_far ?_ NB374_382.out _;(with_reducible repeat (first|refine blk_drewN ?_ _|refine blk_drew ?_|refine blk_alloc ?_ _));exact BK374.out) Tryd.underlying25 rfl (by kernel_rfl)) rfl ?_
  exact ⟨_,_,by first|rfl|(simp [errW_none,errW_some] <;> rfl)|(simp [*,errW_none,errW_some] <;> rfl),by (with_reducible repeat (first|apply Ra|apply Rn|apply Rd));exact Kd.R_mono (Kd.R_far (p:=⟨gb374,2,none⟩) (Kd.R_far (p:=⟨gb374,1,none⟩) (Kd.R_far (p:=⟨gb374,0,none⟩) (Kd.R_far (p:=⟨gb382,2,none⟩) (Kd.R_far (p:=⟨gb382,1,none⟩) (Kd.R_far (p:=⟨gb382,0,none⟩) (Kd.R_types (Kd.R_types HO378.out BK382.out (by decide)) BK374.out (by decide)) (fun _ hk=>hk.1.2) (.bool t375)) (fun _ hk=>hk.1.2) (.slice Ao9 t376.length co9)) (fun _ hk=>hk.1.2) (.slice Ao10 t379.length co10)) (fun _ hk=>hk.2) (.bool t375)) (fun _ hk=>hk.2) (.slice Ao9 t376.length co9)) (fun _ hk=>hk.2) (.slice Ao10 t379.length co10)) (fun _ hk=>hk.1.1),by (with_reducible repeat (first|apply Ra|apply Rn|apply Rd));exact Kd.R_mono (Kd.R_far (p:=⟨gb374,2,none⟩) (Kd.R_far (p:=⟨gb374,1,none⟩) (Kd.R_far (p:=⟨gb374,0,none⟩) (Kd.R_far (p:=⟨gb382,2,none⟩) (Kd.R_far (p:=⟨gb382,1,none⟩) (Kd.R_far (p:=⟨gb382,0,none⟩) (Kd.R_types (Kd.R_types HO381.out BK382.out (by decide)) BK374.out (by decide)) (fun _ hk=>hk.1.2) (.bool t375)) (fun _ hk=>hk.1.2) (.slice Ao9 t376.length co9)) (fun _ hk=>hk.1.2) (.slice Ao10 t379.length co10)) (fun _ hk=>hk.2) (.bool t375)) (fun _ hk=>hk.2) (.slice Ao9 t376.length co9)) (fun _ hk=>hk.2) (.slice Ao10 t379.length co10)) (fun _ hk=>hk.1.1),by repeat (with_reducible first|exact HB.out|apply ba|apply bn|apply b1|refine below_set ?_ GE374.out|refine below_set ?_ GE382.out)⟩
 ·rw [if_neg c3] at H
  have c3b0 : decide (20000 < (a0.size : Int))=false:=decide_eq_false c3
  have c3b1 : decide (20000 < a0.size)=false:=decide_eq_false (by omega)
  clear c3
  replace H:=Option.bind_eq_some_iff.mp H
  obtain ⟨⟨t383,t384⟩,A120,H⟩:=H
  try dsimp only at H
  have A12:=Aside0.mk A120
  clear A120
  replace H:=Option.bind_eq_some_iff.mp H
  obtain ⟨t385,A130,H⟩:=H
  try dsimp only at H
  have A13:=Aside0.mk A130
  clear A130
  by_cases c14 : 0≤t385
  case neg =>rw [if_neg c14] at H;exact absurd H (by simp)
  rw [if_pos c14] at H
  have c14b0:=eq_true c14
  have c14b1 : decide (0≤t385)=true:=decide_eq_true c14
  clear c14
  by_cases c15 : t385≤(t383.size : Int)
  case neg =>rw [if_neg c15] at H;exact absurd H (by simp)
  rw [if_pos c15] at H
  have c15b0:=eq_true c15
  have c15b1 : decide (t385≤(t383.size : Int))=true:=decide_eq_true c15
  clear c15
  have c16b0:=eq_true (of_decide_eq_true (by assumption) : 0≤t385)
  have c17b0:=eq_true (of_decide_eq_true (by assumption) : t385≤(t383.size : Int))
  have HC18:=Aside0.mk H
  clear H
  go_enter Tryd.func9,Tryd.ntmps9
  go_upto_if 33 with (first|((with_reducible refine gate_dst (N:=2) rfl ?_);(try (refine gate_guard (by rfl) ?_;dsimp only));refine box_event ?hg (N:=2) ?hd (cs:=#[.bool false,.slice none 0 0,.slice none 0 0]) (t:=25) ?hr ?_;(case hd=>rfl);(case hg=>rfl);(case hr=>first|(go_simp;done)|(go_simp;(with_reducible rfl))|(go_simp;rfl)|(go_simp;simp only [hu,Int.emod_sub_emod]));intro gb374 hg w19 hbox hb;have n0_:=Aside0.mk (below_step (Hu HB.out) hb);have n1_:=Aside0.mk (hbox);have n2_:=Aside0.mk ((by rw [hg];exact (below_size (Hu HB.out)) : w.heap.size≤gb374));have n3_:=Aside0.mk ((by rw [hg];exact (below_size (Hu HB.out)) : w.heap.size≤gb374));clear HB;have HB:=n0_;have BK374:=n1_;have GW374:=n2_;have GE374:=n3_;clear n0_ n1_ n2_ n3_;clear hb hbox hg)|(go_at_call 24;(with_reducible refine (rat_Of.calls k 0 1 t375 t376 t379 _ A2.out).mono ?_);rintro e w20 ⟨v377,v380,rfl,ho0,ho1,hb⟩;have n0_:=Aside0.mk (Kd.R_lower ho0 (below_size (by repeat (with_reducible first|exact HB.out|apply ba|apply bn|apply b1|refine below_set ?_ GE374.out))));have n1_:=Aside0.mk (Kd.R_lower ho1 (below_size (by repeat (with_reducible first|exact HB.out|apply ba|apply bn|apply b1|refine below_set ?_ GE374.out))));have n2_:=Aside0.mk (blk_below (g:=gb374) (o:=.cells #[.bool false,.slice none 0 0,.slice none 0 0] 25 (0,0)) (Bu BK374.out) hb);have n3_:=Aside0.mk (below_step (by repeat (with_reducible first|exact HB.out|apply ba|apply bn|apply b1|refine below_set ?_ GE374.out)) hb);clear BK374;clear HB;have HO378:=n0_;have HO381:=n1_;have BK374:=n2_;have HB:=n3_;clear n0_ n1_ n2_ n3_)|((with_reducible refine gate_dst (N:=4) rfl ?_);(try (refine gate_guard (by rfl) ?_;dsimp only));refine box_event ?hg (N:=4) ?hd (cs:=#[.bool false,.slice none 0 0,.slice none 0 0]) (t:=25) ?hr ?_;(case hd=>rfl);(case hg=>rfl);(case hr=>first|(go_simp;done)|(go_simp;(with_reducible rfl))|(go_simp;rfl)|(go_simp;simp only [hu,Int.emod_sub_emod]));intro gb382 hg w21 hbox hb;have n0_:=Aside0.mk (Kd.R_below (Ru HO378.out) hb);have n1_:=Aside0.mk (Kd.R_below (Ru HO381.out) hb);have n2_:=Aside0.mk (blk_below (g:=gb374) (o:=.cells #[.bool false,.slice none 0 0,.slice none 0 0] 25 (0,0)) (Bu BK374.out) hb);have n3_:=Aside0.mk (below_step (by repeat (with_reducible first|exact HB.out|apply ba|apply bn|apply b1|refine below_set ?_ GE374.out)) hb);have n4_:=Aside0.mk (hbox);have n5_:=Aside0.mk ((by rw [hg];exact (below_size (by repeat (with_reducible first|exact HB.out|apply ba|apply bn|apply b1|refine below_set ?_ GE374.out))) : w.heap.size≤gb382));have n6_:=Aside0.mk ((by rw [hg];exact (below_size (by repeat (with_reducible first|exact HB.out|apply ba|apply bn|apply b1|refine below_set ?_ GE374.out))) : w.heap.size≤gb382));have n7_:=Aside0.mk ((by rw [hg];exact Nat.ne_of_lt (blk_lt (g:=gb374) (o:=.cells #[.bool false,.slice none 0 0,.slice none 0 0] 25 (0,0)) (Bu BK374.out)) : gb374≠gb382));have n8_:=Aside0.mk ((by rw [hg];exact Nat.ne_of_gt (blk_lt (g:=gb374) (o:=.cells #[.bool false,.slice none 0 0,.slice none 0 0] 25 (0,0)) (Bu BK374.out)) : gb382≠gb374));clear HO378;clear HO381;clear BK374;clear HB;have HO378:=n0_;have HO381:=n1_;have BK374:=n2_;have HB:=n3_;have BK382:=n4_;have GW382:=n5_;have GE382:=n6_;have NB374_382:=n7_;have NB382_374:=n8_;clear n0_ n1_ n2_ n3_ n4_ n5_ n6_ n7_ n8_;clear hb hbox hg;have hnb22:=NB382_374.out;have hnc22:=NB374_382.out;have hcz23_0 : w21.cell? ⟨gb382,0,none⟩=some (.bool false):=(blk_cell BK382.out 0).trans rfl;have hcz23_1 : w21.cell? ⟨gb382,1,none⟩=some (.slice none 0 0):=(blk_cell BK382.out 1).trans rfl;have hcz23_2 : w21.cell? ⟨gb382,2,none⟩=some (.slice none 0 0):=(blk_cell BK382.out 2).trans rfl;have hfz23_0:=blk_frozen BK382.out 0;have hfz23_1:=blk_frozen BK382.out 1;have hfz23_2:=blk_frozen BK382.out 2;obtain ⟨Ao24,co24,eo24⟩:=Kd.R_slice HO378.out;subst eo24;obtain ⟨Ao25,co25,eo25⟩:=Kd.R_slice HO381.out;subst eo25)|(go_at_call 25;(with_reducible refine (strings_CutPrefix.calls a0 (⟨#[45]⟩ : ByteArray) t383 t384 _ A12.out).mono ?_);rintro e w' ⟨rfl,⟨nd,rfl⟩⟩;(try first|exact ⟨rfl,_,World.drewN_drewN _ _ _⟩|exact ⟨rfl,_,Eq.trans (World.drewN_drewN _ _ _) (congrArg (World.drewN _) (Nat.add_assoc _ _ _))⟩))|(go_at_call 26;(with_reducible refine (decimal_digits.calls t383 t385 _ A13.out).mono ?_);rintro e w26 ⟨rfl,hb⟩;have n0_:=Aside0.mk (Kd.R_below (by (with_reducible repeat (first|apply Ra|apply Rn|apply Rd));exact (Kd.R_mono (Kd.R_far (p:=⟨gb382,2,none⟩) (Kd.R_far (p:=⟨gb382,1,none⟩) (Kd.R_far (p:=⟨gb382,0,none⟩) (Kd.R_types HO378.out BK382.out (by decide)) (fun _ hk=>hk.2) (.bool t375)) (fun _ hk=>hk.2) (.slice Ao24 t376.length co24)) (fun _ hk=>hk.2) (.slice Ao25 t379.length co25)) (fun _ h_=>h_.1))) hb);have n1_:=Aside0.mk (Kd.R_below (by (with_reducible repeat (first|apply Ra|apply Rn|apply Rd));exact (Kd.R_mono (Kd.R_far (p:=⟨gb382,2,none⟩) (Kd.R_far (p:=⟨gb382,1,none⟩) (Kd.R_far (p:=⟨gb382,0,none⟩) (Kd.R_types HO381.out BK382.out (by decide)) (fun _ hk=>hk.2) (.bool t375)) (fun _ hk=>hk.2) (.slice Ao24 t376.length co24)) (fun _ hk=>hk.2) (.slice Ao25 t379.length co25)) (fun _ h_=>h_.1))) hb);have n2_:=Aside0.mk (blk_below (g:=gb374) (o:=.cells #[.bool false,.slice none 0 0,.slice none 0 0] 25 (0,0)) (by (with_reducible repeat (first|refine blk_drewN ?_ _|refine blk_drew ?_|refine blk_alloc ?_ _));refine blk_far ?_ NB374_382.out _;(with_reducible repeat (first|refine blk_drewN ?_ _|refine blk_drew ?_|refine blk_alloc ?_ _));refine blk_far ?_ NB374_382.out _;(with_reducible repeat (first|refine blk_drewN ?_ _|refine blk_drew ?_|refine blk_alloc ?_ _));refine blk_far ?_ NB374_382.out _;(with_reducible repeat (first|refine blk_drewN ?_ _|refine blk_drew ?_|refine blk_alloc ?_ _));exact BK374.out) hb);have n3_:=Aside0.mk (blk_below (g:=gb382) (o:=.cells #[.bool t375,.slice Ao24 t376.length co24,.slice Ao25 t379.length co25] 25 (0,0)) (by (with_reducible repeat (first|refine blk_drewN ?_ _|refine blk_drew ?_|refine blk_alloc ?_ _));refine blk_put (cs:=#[.bool t375,.slice Ao24 t376.length co24,.slice none 0 0]) ?_ 2 _ rfl;(with_reducible repeat (first|refine blk_drewN ?_ _|refine blk_drew ?_|refine blk_alloc ?_ _));refine blk_put (cs:=#[.bool t375,.slice none 0 0,.slice none 0 0]) ?_ 1 _ rfl;(with_reducible repeat (first|refine blk_drewN ?_ _|refine blk_drew ?_|refine blk_alloc ?_ _));refine blk_put (cs:=#[.bool false,.slice none 0 0,.slice none 0 0]) ?_ 0 _ rfl;(with_reducible repeat (first|refine blk_drewN ?_ _|refine blk_drew ?_|refine blk_alloc ?_ _));exact BK382.out) hb);have n4_:=Aside0.mk (below_step (by repeat (with_reducible first|exact HB.out|apply ba|apply bn|apply b1|refine below_set ?_ GE374.out|refine below_set ?_ GE382.out)) hb);clear HO378;clear HO381;clear BK374;clear BK382;clear HB;have HO378:=n0_;have HO381:=n1_;have BK374:=n2_;have BK382:=n3_;have HB:=n4_;clear n0_ n1_ n2_ n3_ n4_))
  repeat (go_quiet (first|((with_reducible refine gate_dst (N:=2) rfl ?_);(try (refine gate_guard (by rfl) ?_;dsimp only));refine box_event ?hg (N:=2) ?hd (cs:=#[.bool false,.slice none 0 0,.slice none 0 0]) (t:=25) ?hr ?_;(case hd=>rfl);(case hg=>rfl);(case hr=>first|(go_simp;done)|(go_simp;(with_reducible rfl))|(go_simp;rfl)|(go_simp;have hu_ : ∀ x : Int,IntKind.u32.wrap x=HMod.hMod x (4294967296 : Int):=(fun x=>by simp only [IntKind.wrap,IntKind.bits,IntKind.signed];simp);simp only [hu_,Int.emod_sub_emod]));intro gb374 hg w19 hbox hb;have n0_:=Aside0.mk (below_step (by repeat (with_reducible first|exact HB.out|apply ba|apply bn|apply b1)) hb);have n1_:=Aside0.mk (hbox);have n2_:=Aside0.mk ((by rw [hg];exact (below_size (by repeat (with_reducible first|exact HB.out|apply ba|apply bn|apply b1))) : w.heap.size≤gb374));have n3_:=Aside0.mk ((by rw [hg];exact (below_size (by repeat (with_reducible first|exact HB.out|apply ba|apply bn|apply b1))) : w.heap.size≤gb374));clear HB;have HB:=n0_;have BK374:=n1_;have GW374:=n2_;have GE374:=n3_;clear n0_ n1_ n2_ n3_;clear hb hbox hg)|(go_at_call 24;(with_reducible refine (rat_Of.calls k 0 1 t375 t376 t379 _ A2.out).mono ?_);rintro e w20 ⟨v377,v380,rfl,ho0,ho1,hb⟩;have n0_:=Aside0.mk (Kd.R_lower ho0 (below_size (by repeat (with_reducible first|exact HB.out|apply ba|apply bn|apply b1|refine below_set ?_ GE374.out))));have n1_:=Aside0.mk (Kd.R_lower ho1 (below_size (by repeat (with_reducible first|exact HB.out|apply ba|apply bn|apply b1|refine below_set ?_ GE374.out))));have n2_:=Aside0.mk (blk_below (g:=gb374) (o:=.cells #[.bool false,.slice none 0 0,.slice none 0 0] 25 (0,0)) (by (with_reducible repeat (first|refine blk_drewN ?_ _|refine blk_drew ?_|refine blk_alloc ?_ _));exact BK374.out) hb);have n3_:=Aside0.mk (below_step (by repeat (with_reducible first|exact HB.out|apply ba|apply bn|apply b1|refine below_set ?_ GE374.out)) hb);clear BK374;clear HB;have HO378:=n0_;have HO381:=n1_;have BK374:=n2_;have HB:=n3_;clear n0_ n1_ n2_ n3_)|((with_reducible refine gate_dst (N:=4) rfl ?_);(try (refine gate_guard (by rfl) ?_;dsimp only));refine box_event ?hg (N:=4) ?hd (cs:=#[.bool false,.slice none 0 0,.slice none 0 0]) (t:=25) ?hr ?_;(case hd=>rfl);(case hg=>rfl);(case hr=>first|(go_simp;done)|(go_simp;(with_reducible rfl))|(go_simp;rfl)|(go_simp;have hu_ : ∀ x : Int,IntKind.u32.wrap x=HMod.hMod x (4294967296 : Int):=(fun x=>by simp only [IntKind.wrap,IntKind.bits,IntKind.signed];simp);simp only [hu_,Int.emod_sub_emod]));intro gb382 hg w21 hbox hb;have n0_:=Aside0.mk (Kd.R_below (by (with_reducible repeat (first|apply Ra|apply Rn|apply Rd));exact HO378.out) hb);have n1_:=Aside0.mk (Kd.R_below (by (with_reducible repeat (first|apply Ra|apply Rn|apply Rd));exact HO381.out) hb);have n2_:=Aside0.mk (blk_below (g:=gb374) (o:=.cells #[.bool false,.slice none 0 0,.slice none 0 0] 25 (0,0)) (by (with_reducible repeat (first|refine blk_drewN ?_ _|refine blk_drew ?_|refine blk_alloc ?_ _));exact BK374.out) hb);have n3_:=Aside0.mk (below_step (by repeat (with_reducible first|exact HB.out|apply ba|apply bn|apply b1|refine below_set ?_ GE374.out)) hb);have n4_:=Aside0.mk (hbox);have n5_:=Aside0.mk ((by rw [hg];exact (below_size (by repeat (with_reducible first|exact HB.out|apply ba|apply bn|apply b1|refine below_set ?_ GE374.out))) : w.heap.size≤gb382));have n6_:=Aside0.mk ((by rw [hg];exact (below_size (by repeat (with_reducible first|exact HB.out|apply ba|apply bn|apply b1|refine below_set ?_ GE374.out))) : w.heap.size≤gb382));have n7_:=Aside0.mk ((by rw [hg];exact Nat.ne_of_lt (blk_lt (g:=gb374) (o:=.cells #[.bool false,.slice none 0 0,.slice none 0 0] 25 (0,0)) (by (with_reducible repeat (first|refine blk_drewN ?_ _|refine blk_drew ?_|refine blk_alloc ?_ _));exact BK374.out)) : gb374≠gb382));have n8_:=Aside0.mk ((by rw [hg];exact Nat.ne_of_gt (blk_lt (g:=gb374) (o:=.cells #[.bool false,.slice none 0 0,.slice none 0 0] 25 (0,0)) (by (with_reducible repeat (first|refine blk_drewN ?_ _|refine blk_drew ?_|refine blk_alloc ?_ _));exact BK374.out)) : gb382≠gb374));clear HO378;clear HO381;clear BK374;clear HB;have HO378:=n0_;have HO381:=n1_;have BK374:=n2_;have HB:=n3_;have BK382:=n4_;have GW382:=n5_;have GE382:=n6_;have NB374_382:=n7_;have NB382_374:=n8_;clear n0_ n1_ n2_ n3_ n4_ n5_ n6_ n7_ n8_;clear hb hbox hg;have hnb22:=NB382_374.out;have hnc22:=NB374_382.out;have hcz23_0 : w21.cell? ⟨gb382,0,none⟩=some (.bool false):=(blk_cell BK382.out 0).trans rfl;have hcz23_1 : w21.cell? ⟨gb382,1,none⟩=some (.slice none 0 0):=(blk_cell BK382.out 1).trans rfl;have hcz23_2 : w21.cell? ⟨gb382,2,none⟩=some (.slice none 0 0):=(blk_cell BK382.out 2).trans rfl;have hfz23_0:=blk_frozen BK382.out 0;have hfz23_1:=blk_frozen BK382.out 1;have hfz23_2:=blk_frozen BK382.out 2;obtain ⟨Ao24,co24,eo24⟩:=Kd.R_slice HO378.out;subst eo24;obtain ⟨Ao25,co25,eo25⟩:=Kd.R_slice HO381.out;subst eo25)|(go_at_call 25;(with_reducible refine (strings_CutPrefix.calls a0 (⟨#[45]⟩ : ByteArray) t383 t384 _ A12.out).mono ?_);rintro e w' ⟨rfl,⟨nd,rfl⟩⟩;(try first|exact ⟨rfl,_,World.drewN_drewN _ _ _⟩|exact ⟨rfl,_,Eq.trans (World.drewN_drewN _ _ _) (congrArg (World.drewN _) (Nat.add_assoc _ _ _))⟩))|(go_at_call 26;(with_reducible refine (decimal_digits.calls t383 t385 _ A13.out).mono ?_);rintro e w26 ⟨rfl,hb⟩;have n0_:=Aside0.mk (Kd.R_below (by (with_reducible repeat (first|apply Ra|apply Rn|apply Rd));exact (Kd.R_mono (Kd.R_far (p:=⟨gb382,2,none⟩) (Kd.R_far (p:=⟨gb382,1,none⟩) (Kd.R_far (p:=⟨gb382,0,none⟩) (Kd.R_types HO378.out BK382.out (by decide)) (fun _ hk=>hk.2) (.bool t375)) (fun _ hk=>hk.2) (.slice Ao24 t376.length co24)) (fun _ hk=>hk.2) (.slice Ao25 t379.length co25)) (fun _ h_=>h_.1))) hb);have n1_:=Aside0.mk (Kd.R_below (by (with_reducible repeat (first|apply Ra|apply Rn|apply Rd));exact (Kd.R_mono (Kd.R_far (p:=⟨gb382,2,none⟩) (Kd.R_far (p:=⟨gb382,1,none⟩) (Kd.R_far (p:=⟨gb382,0,none⟩) (Kd.R_types HO381.out BK382.out (by decide)) (fun _ hk=>hk.2) (.bool t375)) (fun _ hk=>hk.2) (.slice Ao24 t376.length co24)) (fun _ hk=>hk.2) (.slice Ao25 t379.length co25)) (fun _ h_=>h_.1))) hb);have n2_:=Aside0.mk (blk_below (g:=gb374) (o:=.cells #[.bool false,.slice none 0 0,.slice none 0 0] 25 (0,0)) (by (with_reducible repeat (first|refine blk_drewN ?_ _|refine blk_drew ?_|refine blk_alloc ?_ _));refine blk_far ?_ NB374_382.out _;(with_reducible repeat (first|refine blk_drewN ?_ _|refine blk_drew ?_|refine blk_alloc ?_ _));refine blk_far ?_ NB374_382.out _;(with_reducible repeat (first|refine blk_drewN ?_ _|refine blk_drew ?_|refine blk_alloc ?_ _));refine blk_far ?_ NB374_382.out _;(with_reducible repeat (first|refine blk_drewN ?_ _|refine blk_drew ?_|refine blk_alloc ?_ _));exact BK374.out) hb);have n3_:=Aside0.mk (blk_below (g:=gb382) (o:=.cells #[.bool t375,.slice Ao24 t376.length co24,.slice Ao25 t379.length co25] 25 (0,0)) (by (with_reducible repeat (first|refine blk_drewN ?_ _|refine blk_drew ?_|refine blk_alloc ?_ _));refine blk_put (cs:=#[.bool t375,.slice Ao24 t376.length co24,.slice none 0 0]) ?_ 2 _ rfl;(with_reducible repeat (first|refine blk_drewN ?_ _|refine blk_drew ?_|refine blk_alloc ?_ _));refine blk_put (cs:=#[.bool t375,.slice none 0 0,.slice none 0 0]) ?_ 1 _ rfl;(with_reducible repeat (first|refine blk_drewN ?_ _|refine blk_drew ?_|refine blk_alloc ?_ _));refine blk_put (cs:=#[.bool false,.slice none 0 0,.slice none 0 0]) ?_ 0 _ rfl;(with_reducible repeat (first|refine blk_drewN ?_ _|refine blk_drew ?_|refine blk_alloc ?_ _));exact BK382.out) hb);have n4_:=Aside0.mk (below_step (by repeat (with_reducible first|exact HB.out|apply ba|apply bn|apply b1|refine below_set ?_ GE374.out|refine below_set ?_ GE382.out)) hb);clear HO378;clear HO381;clear BK374;clear BK382;clear HB;have HO378:=n0_;have HO381:=n1_;have BK374:=n2_;have BK382:=n3_;have HB:=n4_;clear n0_ n1_ n2_ n3_ n4_));go_upto_if 33 with (first|((with_reducible refine gate_dst (N:=2) rfl ?_);(try (refine gate_guard (by rfl) ?_;dsimp only));refine box_event ?hg (N:=2) ?hd (cs:=#[.bool false,.slice none 0 0,.slice none 0 0]) (t:=25) ?hr ?_;(case hd=>rfl);(case hg=>rfl);(case hr=>first|(go_simp;done)|(go_simp;(with_reducible rfl))|(go_simp;rfl)|(go_simp;have hu_ : ∀ x : Int,IntKind.u32.wrap x=HMod.hMod x (4294967296 : Int):=(fun x=>by simp only [IntKind.wrap,IntKind.bits,IntKind.signed];simp);simp only [hu_,Int.emod_sub_emod]));intro gb374 hg w19 hbox hb;have n0_:=Aside0.mk (below_step (by repeat (with_reducible first|exact HB.out|apply ba|apply bn|apply b1)) hb);have n1_:=Aside0.mk (hbox);have n2_:=Aside0.mk ((by rw [hg];exact (below_size (by repeat (with_reducible first|exact HB.out|apply ba|apply bn|apply b1))) : w.heap.size≤gb374));have n3_:=Aside0.mk ((by rw [hg];exact (below_size (by repeat (with_reducible first|exact HB.out|apply ba|apply bn|apply b1))) : w.heap.size≤gb374));clear HB;have HB:=n0_;have BK374:=n1_;have GW374:=n2_;have GE374:=n3_;clear n0_ n1_ n2_ n3_;clear hb hbox hg)|(go_at_call 24;(with_reducible refine (rat_Of.calls k 0 1 t375 t376 t379 _ A2.out).mono ?_);rintro e w20 ⟨v377,v380,rfl,ho0,ho1,hb⟩;have n0_:=Aside0.mk (Kd.R_lower ho0 (below_size (by repeat (with_reducible first|exact HB.out|apply ba|apply bn|apply b1|refine below_set ?_ GE374.out))));have n1_:=Aside0.mk (Kd.R_lower ho1 (below_size (by repeat (with_reducible first|exact HB.out|apply ba|apply bn|apply b1|refine below_set ?_ GE374.out))));have n2_:=Aside0.mk (blk_below (g:=gb374) (o:=.cells #[.bool false,.slice none 0 0,.slice none 0 0] 25 (0,0)) (by (with_reducible repeat (first|refine blk_drewN ?_ _|refine blk_drew ?_|refine blk_alloc ?_ _));exact BK374.out) hb);have n3_:=Aside0.mk (below_step (by repeat (with_reducible first|exact HB.out|apply ba|apply bn|apply b1|refine below_set ?_ GE374.out)) hb);clear BK374;clear HB;have HO378:=n0_;have HO381:=n1_;have BK374:=n2_;have HB:=n3_;clear n0_ n1_ n2_ n3_)|((with_reducible refine gate_dst (N:=4) rfl ?_);(try (refine gate_guard (by rfl) ?_;dsimp only));refine box_event ?hg (N:=4) ?hd (cs:=#[.bool false,.slice none 0 0,.slice none 0 0]) (t:=25) ?hr ?_;(case hd=>rfl);(case hg=>rfl);(case hr=>first|(go_simp;done)|(go_simp;(with_reducible rfl))|(go_simp;rfl)|(go_simp;have hu_ : ∀ x : Int,IntKind.u32.wrap x=HMod.hMod x (4294967296 : Int):=(fun x=>by simp only [IntKind.wrap,IntKind.bits,IntKind.signed];simp);simp only [hu_,Int.emod_sub_emod]));intro gb382 hg w21 hbox hb;have n0_:=Aside0.mk (Kd.R_below (by (with_reducible repeat (first|apply Ra|apply Rn|apply Rd));exact HO378.out) hb);have n1_:=Aside0.mk (Kd.R_below (by (with_reducible repeat (first|apply Ra|apply Rn|apply Rd));exact HO381.out) hb);have n2_:=Aside0.mk (blk_below (g:=gb374) (o:=.cells #[.bool false,.slice none 0 0,.slice none 0 0] 25 (0,0)) (by (with_reducible repeat (first|refine blk_drewN ?_ _|refine blk_drew ?_|refine blk_alloc ?_ _));exact BK374.out) hb);have n3_:=Aside0.mk (below_step (by repeat (with_reducible first|exact HB.out|apply ba|apply bn|apply b1|refine below_set ?_ GE374.out)) hb);have n4_:=Aside0.mk (hbox);have n5_:=Aside0.mk ((by rw [hg];exact (below_size (by repeat (with_reducible first|exact HB.out|apply ba|apply bn|apply b1|refine below_set ?_ GE374.out))) : w.heap.size≤gb382));have n6_:=Aside0.mk ((by rw [hg];exact (below_size (by repeat (with_reducible first|exact HB.out|apply ba|apply bn|apply b1|refine below_set ?_ GE374.out))) : w.heap.size≤gb382));have n7_:=Aside0.mk ((by rw [hg];exact Nat.ne_of_lt (blk_lt (g:=gb374) (o:=.cells #[.bool false,.slice none 0 0,.slice none 0 0] 25 (0,0)) (by (with_reducible repeat (first|refine blk_drewN ?_ _|refine blk_drew ?_|refine blk_alloc ?_ _));exact BK374.out)) : gb374≠gb382));have n8_:=Aside0.mk ((by rw [hg];exact Nat.ne_of_gt (blk_lt (g:=gb374) (o:=.cells #[.bool false,.slice none 0 0,.slice none 0 0] 25 (0,0)) (by (with_reducible repeat (first|refine blk_drewN ?_ _|refine blk_drew ?_|refine blk_alloc ?_ _));exact BK374.out)) : gb382≠gb374));clear HO378;clear HO381;clear BK374;clear HB;have HO378:=n0_;have HO381:=n1_;have BK374:=n2_;have HB:=n3_;have BK382:=n4_;have GW382:=n5_;have GE382:=n6_;have NB374_382:=n7_;have NB382_374:=n8_;clear n0_ n1_ n2_ n3_ n4_ n5_ n6_ n7_ n8_;clear hb hbox hg;have hnb22:=NB382_374.out;have hnc22:=NB374_382.out;have hcz23_0 : w21.cell? ⟨gb382,0,none⟩=some (.bool false):=(blk_cell BK382.out 0).trans rfl;have hcz23_1 : w21.cell? ⟨gb382,1,none⟩=some (.slice none 0 0):=(blk_cell BK382.out 1).trans rfl;have hcz23_2 : w21.cell? ⟨gb382,2,none⟩=some (.slice none 0 0):=(blk_cell BK382.out 2).trans rfl;have hfz23_0:=blk_frozen BK382.out 0;have hfz23_1:=blk_frozen BK382.out 1;have hfz23_2:=blk_frozen BK382.out 2;obtain ⟨Ao24,co24,eo24⟩:=Kd.R_slice HO378.out;subst eo24;obtain ⟨Ao25,co25,eo25⟩:=Kd.R_slice HO381.out;subst eo25)|(go_at_call 25;(with_reducible refine (strings_CutPrefix.calls a0 (⟨#[45]⟩ : ByteArray) t383 t384 _ A12.out).mono ?_);rintro e w' ⟨rfl,⟨nd,rfl⟩⟩;(try first|exact ⟨rfl,_,World.drewN_drewN _ _ _⟩|exact ⟨rfl,_,Eq.trans (World.drewN_drewN _ _ _) (congrArg (World.drewN _) (Nat.add_assoc _ _ _))⟩))|(go_at_call 26;(with_reducible refine (decimal_digits.calls t383 t385 _ A13.out).mono ?_);rintro e w26 ⟨rfl,hb⟩;have n0_:=Aside0.mk (Kd.R_below (by (with_reducible repeat (first|apply Ra|apply Rn|apply Rd));exact (Kd.R_mono (Kd.R_far (p:=⟨gb382,2,none⟩) (Kd.R_far (p:=⟨gb382,1,none⟩) (Kd.R_far (p:=⟨gb382,0,none⟩) (Kd.R_types HO378.out BK382.out (by decide)) (fun _ hk=>hk.2) (.bool t375)) (fun _ hk=>hk.2) (.slice Ao24 t376.length co24)) (fun _ hk=>hk.2) (.slice Ao25 t379.length co25)) (fun _ h_=>h_.1))) hb);have n1_:=Aside0.mk (Kd.R_below (by (with_reducible repeat (first|apply Ra|apply Rn|apply Rd));exact (Kd.R_mono (Kd.R_far (p:=⟨gb382,2,none⟩) (Kd.R_far (p:=⟨gb382,1,none⟩) (Kd.R_far (p:=⟨gb382,0,none⟩) (Kd.R_types HO381.out BK382.out (by decide)) (fun _ hk=>hk.2) (.bool t375)) (fun _ hk=>hk.2) (.slice Ao24 t376.length co24)) (fun _ hk=>hk.2) (.slice Ao25 t379.length co25)) (fun _ h_=>h_.1))) hb);have n2_:=Aside0.mk (blk_below (g:=gb374) (o:=.cells #[.bool false,.slice none 0 0,.slice none 0 0] 25 (0,0)) (by (with_reducible repeat (first|refine blk_drewN ?_ _|refine blk_drew ?_|refine blk_alloc ?_ _));refine blk_far ?_ NB374_382.out _;(with_reducible repeat (first|refine blk_drewN ?_ _|refine blk_drew ?_|refine blk_alloc ?_ _));refine blk_far ?_ NB374_382.out _;(with_reducible repeat (first|refine blk_drewN ?_ _|refine blk_drew ?_|refine blk_alloc ?_ _));refine blk_far ?_ NB374_382.out _;(with_reducible repeat (first|refine blk_drewN ?_ _|refine blk_drew ?_|refine blk_alloc ?_ _));exact BK374.out) hb);have n3_:=Aside0.mk (blk_below (g:=gb382) (o:=.cells #[.bool t375,.slice Ao24 t376.length co24,.slice Ao25 t379.length co25] 25 (0,0)) (by (with_reducible repeat (first|refine blk_drewN ?_ _|refine blk_drew ?_|refine blk_alloc ?_ _));refine blk_put (cs:=#[.bool t375,.slice Ao24 t376.length co24,.slice none 0 0]) ?_ 2 _ rfl;(with_reducible repeat (first|refine blk_drewN ?_ _|refine blk_drew ?_|refine blk_alloc ?_ _));refine blk_put (cs:=#[.bool t375,.slice none 0 0,.slice none 0 0]) ?_ 1 _ rfl;(with_reducible repeat (first|refine blk_drewN ?_ _|refine blk_drew ?_|refine blk_alloc ?_ _));refine blk_put (cs:=#[.bool false,.slice none 0 0,.slice none 0 0]) ?_ 0 _ rfl;(with_reducible repeat (first|refine blk_drewN ?_ _|refine blk_drew ?_|refine blk_alloc ?_ _));exact BK382.out) hb);have n4_:=Aside0.mk (below_step (by repeat (with_reducible first|exact HB.out|apply ba|apply bn|apply b1|refine below_set ?_ GE374.out|refine below_set ?_ GE382.out)) hb);clear HO378;clear HO381;clear BK374;clear BK382;clear HB;have HO378:=n0_;have HO381:=n1_;have BK374:=n2_;have BK382:=n3_;have HB:=n4_;clear n0_ n1_ n2_ n3_ n4_)))
  (try simp only [Act.put,s0,s1,s2])
  generalize hrest33 : t383.extract (t385 : Int).toNat t383.size=rest33 at HC18 ⊢
  generalize hfirst33 : t383.extract 0 (t385 : Int).toNat=first33 at HC18 ⊢
  go_cut [8,10] (fun v8 v10 wc=>∃ (kq : Nat) (x8_17 : ByteArray) (x10_17 : ByteArray) (x375000_17 : Bool),v8=.string x8_17∧v10=.string x10_17∧Aside0 (decimal_Parse.j1 kq t384 t385 x8_17 x10_17 t375 t376 t379=some (r1,r2,r3,r4))∧Aside0 (kq≤k)∧Aside0 (Kd.R (Kd.int .u32) 35 wc w.heap.size (fun k_=>some k_≠((.slice Ao25 t379.length co25) : Value).ownBlock) (.slice Ao24 t376.length co24) t376)∧Aside0 (Kd.R (Kd.int .u32) 35 wc w.heap.size (fun k_=>some k_≠((.slice Ao24 t376.length co24) : Value).ownBlock) (.slice Ao25 t379.length co25) t379)∧Aside0 (wc.heap[gb374]? = some (.cells #[.bool x375000_17,(.slice none 0 0),(.slice none 0 0)] 25 (0,0)))∧Aside0 (wc.heap[gb382]? = some (.cells #[.bool t375,(.slice Ao24 t376.length co24),(.slice Ao25 t379.length co25)] 25 (0,0)))∧Aside0 (Below w.heap.size w wc))
  case first =>
   have H:=HC18.out
   clear HC18
   by_cases c27 : rest33.toList=([] : List UInt8)
   ·rw [if_pos c27] at H
    have c27b0 : (rest33.toList == ([] : List UInt8))=true:=beq_iff_eq.mpr c27
    have c27b1 : (rest33.toList != ([] : List UInt8))=false:=bne_eq_false_iff_eq.mpr c27
    clear c27
    have c27b2 : rest33.toList.isEmpty=true:=by have h_:=c27b0;revert h_;cases rest33.toList <;> simp
    (first|rw [c27b0]|rw [c27b2]|(simp only [i64_w,i32_w];rw [c27b0])|skip)
    have H':=Aside0.mk H
    clear H
    go_wp2
    go_meet
    case rel=>exact ⟨_,first33,((⟨#[49]⟩ : ByteArray)),(false),(by first|rfl|(simp;done)|(simp [*];done)),(by first|rfl|(simp;done)|(simp [*];done)),H',⟨by first|omega|exact Nat.le_refl _⟩,⟨Ru HO378.out⟩,⟨Ru HO381.out⟩,⟨Bu BK374.out⟩,⟨Bu BK382.out⟩,⟨by repeat (with_reducible first|exact HB.out|apply ba|apply bn|apply b1|refine below_set ?_ GE374.out|refine below_set ?_ GE382.out)⟩⟩
   ·rw [if_neg c27] at H
    have c27b0 : (rest33.toList == ([] : List UInt8))=false:=beq_eq_false_iff_ne.mpr c27
    have c27b1 : (rest33.toList != ([] : List UInt8))=true:=bne_iff_ne.mpr c27
    have c27b2 : rest33.toList.isEmpty=false:=by have h_:=c27b0;revert h_;cases rest33.toList <;> simp
    (first|rw [c27b0]|rw [c27b2]|(simp only [i64_w,i32_w];rw [c27b0])|skip)
    by_cases c28 : 1≤(rest33.size : Int)
    case neg =>rw [if_neg c28] at H;exact absurd H (by simp)
    rw [if_pos c28] at H
    have c28b0:=eq_true c28
    have c28b1 : decide (1≤(rest33.size : Int))=true:=decide_eq_true c28
    clear c28
    replace H:=Option.bind_eq_some_iff.mp H
    obtain ⟨t386,A290,H⟩:=H
    try dsimp only at H
    have A29:=Aside0.mk A290
    clear A290
    have HC30:=Aside0.mk H
    clear H
    go_upto_region 11 with (first|(go_at_call 26;(with_reducible refine (decimal_digits.calls (rest33.extract 1 rest33.size) t386 _ A29.out).mono ?_);rintro e w31 ⟨rfl,hb⟩;have n0_:=Aside0.mk (Kd.R_below (Ru HO378.out) hb);have n1_:=Aside0.mk (Kd.R_below (Ru HO381.out) hb);have n2_:=Aside0.mk (blk_below (g:=gb374) (o:=.cells #[.bool false,.slice none 0 0,.slice none 0 0] 25 (0,0)) (Bu BK374.out) hb);have n3_:=Aside0.mk (blk_below (g:=gb382) (o:=.cells #[.bool t375,.slice Ao24 t376.length co24,.slice Ao25 t379.length co25] 25 (0,0)) (Bu BK382.out) hb);have n4_:=Aside0.mk (below_step (by repeat (with_reducible first|exact HB.out|apply ba|apply bn|apply b1|refine below_set ?_ GE374.out|refine below_set ?_ GE382.out)) hb);clear HO378;clear HO381;clear BK374;clear BK382;clear HB;have HO378:=n0_;have HO381:=n1_;have BK374:=n2_;have BK382:=n3_;have HB:=n4_;clear n0_ n1_ n2_ n3_ n4_))
    (try simp only [Act.put,s0,s1,s2])
    generalize hsec33 : rest33.extract 1 rest33.size=sec33 at HC30 ⊢
    go_cut [55] (fun v55 wc=>∃ (kq : Nat) (x55_29 : Bool),v55=.bool x55_29∧Aside0 (decimal_Parse.j0 kq t384 t385 first33 rest33 sec33 x55_29 t375 t376 t379=some (r1,r2,r3,r4))∧Aside0 (kq≤k)∧Aside0 (Kd.R (Kd.int .u32) 35 wc w.heap.size (fun k_=>some k_≠((.slice Ao25 t379.length co25) : Value).ownBlock) (.slice Ao24 t376.length co24) t376)∧Aside0 (Kd.R (Kd.int .u32) 35 wc w.heap.size (fun k_=>some k_≠((.slice Ao24 t376.length co24) : Value).ownBlock) (.slice Ao25 t379.length co25) t379)∧Aside0 (wc.heap[gb374]? = some (.cells #[.bool false,(.slice none 0 0),(.slice none 0 0)] 25 (0,0)))∧Aside0 (wc.heap[gb382]? = some (.cells #[.bool t375,(.slice Ao24 t376.length co24),(.slice Ao25 t379.length co25)] 25 (0,0)))∧Aside0 (Below w.heap.size w wc))
    case first =>
     have H:=HC30.out
     clear HC30
     by_cases c32 : t386=0
     ·rw [if_pos c32] at H
      have c32b0 : (t386 == 0)=true:=beq_iff_eq.mpr c32
      have c32b1 : (t386 != 0)=false:=bne_eq_false_iff_eq.mpr c32
      clear c32
      (first|rw [c32b0]|(simp only [i64_w,i32_w];rw [c32b0])|skip)
      have H':=Aside0.mk H
      clear H
      go_wp2
      go_meet
      case rel=>exact ⟨_,(true),(by first|rfl|(simp;done)|(simp [*];done)),H',⟨by first|omega|exact Nat.le_refl _⟩,⟨Ru HO378.out⟩,⟨Ru HO381.out⟩,⟨Bu BK374.out⟩,⟨Bu BK382.out⟩,⟨by repeat (with_reducible first|exact HB.out|apply ba|apply bn|apply b1|refine below_set ?_ GE374.out|refine below_set ?_ GE382.out)⟩⟩
     ·rw [if_neg c32] at H
      have c32b0 : (t386 == 0)=false:=beq_eq_false_iff_ne.mpr c32
      have c32b1 : (t386 != 0)=true:=bne_iff_ne.mpr c32
      (first|rw [c32b0]|(simp only [i64_w,i32_w];rw [c32b0])|skip)
      by_cases c33 : t386 < (sec33.size : Int)
      ·rw [if_pos c33] at H
       have c33b0 : decide (t386 < (sec33.size : Int))=true:=decide_eq_true c33
       clear c33
       have H':=Aside0.mk H
       clear H
       go_wp2
       go_meet
       case rel=>exact ⟨_,(true),(by first|rfl|(simp;done)|(simp [*];done)),H',⟨by first|omega|exact Nat.le_refl _⟩,⟨Ru HO378.out⟩,⟨Ru HO381.out⟩,⟨Bu BK374.out⟩,⟨Bu BK382.out⟩,⟨by repeat (with_reducible first|exact HB.out|apply ba|apply bn|apply b1|refine below_set ?_ GE374.out|refine below_set ?_ GE382.out)⟩⟩
      ·rw [if_neg c33] at H
       have c33b0 : decide (t386 < (sec33.size : Int))=false:=decide_eq_false c33
       clear c33
       by_cases c34 : 0 < (rest33.size : Int)
       case neg =>rw [if_neg c34] at H;exact absurd H (by simp)
       rw [if_pos c34] at H
       have c34b0 : decide (0 < (rest33.size : Int))=true:=decide_eq_true c34
       have c34b1 : decide (0 < rest33.size)=true:=decide_eq_true (by omega)
       clear c34
       by_cases c36 : (bt rest33 0)=46
       ·rw [if_pos c36] at H
        have c36b0 : ((bt rest33 0) == 46)=true:=beq_iff_eq.mpr c36
        have c36b1 : ((bt rest33 0) != 46)=false:=bne_eq_false_iff_eq.mpr c36
        clear c36
        have H':=Aside0.mk H
        clear H
        have p35 : 0≤(0 : Int):=(by omega)
        have q35 : 0 < rest33.size:=(by have : (0 : Int) < (rest33.size : Int):=of_decide_eq_true (by assumption);omega)
        have hx35 : ∀ h : 0 < rest33.size,((rest33[0]'h).toNat : Int)=bt rest33 0:=bt_at rest33 0
        clear p35
        have qi35 : (0 < (rest33.size : Int))=True:=eq_true (of_decide_eq_true (by assumption))
        replace q35:=eq_true q35
        go_wp2
        go_meet
        case rel=>exact ⟨_,(false),(by first|rfl|(simp;done)|(simp [*];done)),H',⟨by first|omega|exact Nat.le_refl _⟩,⟨Ru HO378.out⟩,⟨Ru HO381.out⟩,⟨Bu BK374.out⟩,⟨Bu BK382.out⟩,⟨by repeat (with_reducible first|exact HB.out|apply ba|apply bn|apply b1|refine below_set ?_ GE374.out|refine below_set ?_ GE382.out)⟩⟩
       ·rw [if_neg c36] at H
        have c36b0 : ((bt rest33 0) == 46)=false:=beq_eq_false_iff_ne.mpr c36
        have c36b1 : ((bt rest33 0) != 46)=true:=bne_iff_ne.mpr c36
        have H':=Aside0.mk H
        clear H
        have p35 : 0≤(0 : Int):=(by omega)
        have q35 : 0 < rest33.size:=(by have : (0 : Int) < (rest33.size : Int):=of_decide_eq_true (by assumption);omega)
        have hx35 : ∀ h : 0 < rest33.size,((rest33[0]'h).toNat : Int)=bt rest33 0:=bt_at rest33 0
        clear p35
        have qi35 : (0 < (rest33.size : Int))=True:=eq_true (of_decide_eq_true (by assumption))
        replace q35:=eq_true q35
        have p37 : 0≤(0 : Int):=(by omega)
        have q37 : 0 < rest33.size:=(by have : (0 : Int) < (rest33.size : Int):=of_decide_eq_true (by assumption);omega)
        have hx37 : ∀ h : 0 < rest33.size,((rest33[0]'h).toNat : Int)=bt rest33 0:=bt_at rest33 0
        clear p37
        have qi37 : (0 < (rest33.size : Int))=True:=eq_true (of_decide_eq_true (by assumption))
        replace q37:=eq_true q37
        go_wp2
        go_meet
        case rel=>exact ⟨_,(((bt rest33 0) != 47)),(by first|rfl|(simp;done)|(simp [*];done)),H',⟨by first|omega|exact Nat.le_refl _⟩,⟨Ru HO378.out⟩,⟨Ru HO381.out⟩,⟨Bu BK374.out⟩,⟨Bu BK382.out⟩,⟨by repeat (with_reducible first|exact HB.out|apply ba|apply bn|apply b1|refine below_set ?_ GE374.out|refine below_set ?_ GE382.out)⟩⟩
    case rest =>
     clear HC30
     obtain ⟨kq,x55_29,rfl,HA,HJ29,HO_383001,HO_383002,BK374,BK382,HB⟩:=hcut
     cases kq with
    |zero=>exact absurd HA.out (by simp [decimal_Parse.j0])
    |succ kj29 =>
      have H:=HA.out
      clear HA
      simp only [decimal_Parse.j0] at H
      by_cases c38 : x55_29=true
      ·subst c38
       rw [if_pos rfl] at H
       simp only [Option.some.injEq,Prod.mk.injEq] at H
       obtain ⟨rfl,rfl,rfl,rfl⟩:=H
       have hnb39:=NB382_374.out
       have hnc39:=NB374_382.out
       have hcz40_0 : wc.cell? ⟨gb382,0,none⟩=some (.bool t375):=(blk_cell BK382.out 0).trans rfl
       have hcz40_1 : wc.cell? ⟨gb382,1,none⟩=some (.slice Ao24 t376.length co24):=(blk_cell BK382.out 1).trans rfl
       have hcz40_2 : wc.cell? ⟨gb382,2,none⟩=some (.slice Ao25 t379.length co25):=(blk_cell BK382.out 2).trans rfl
       have hfz40_0:=blk_frozen BK382.out 0
       have hfz40_1:=blk_frozen BK382.out 1
       have hfz40_2:=blk_frozen BK382.out 2
       have hcz41_0 : wc.cell? ⟨gb374,0,none⟩=some (.bool false):=(blk_cell BK374.out 0).trans rfl
       have hcz41_1 : wc.cell? ⟨gb374,1,none⟩=some (.slice none 0 0):=(blk_cell BK374.out 1).trans rfl
       have hcz41_2 : wc.cell? ⟨gb374,2,none⟩=some (.slice none 0 0):=(blk_cell BK374.out 2).trans rfl
       have hfz41_0:=blk_frozen BK374.out 0
       have hfz41_1:=blk_frozen BK374.out 1
       have hfz41_2:=blk_frozen BK374.out 2
       go_wp2
       refine bodyPost_ret (results_ct rfl _ _ gb374 25 #[.bool t375,.slice Ao24 t376.length co24,.slice Ao25 t379.length co25] (0,0) _ rfl (by (with_reducible repeat (first|refine blk_drewN ?_ _|refine blk_drew ?_|refine blk_alloc ?_ _));refine blk_put (cs:=#[.bool t375,.slice Ao24 t376.length co24,.slice none 0 0]) ?_ 2 _ rfl;(with_reducible repeat (first|refine blk_drewN ?_ _|refine blk_drew ?_|refine blk_alloc ?_ _));refine blk_put (cs:=#[.bool t375,.slice none 0 0,.slice none 0 0]) ?_ 1 _ rfl;(with_reducible repeat (first|refine blk_drewN ?_ _|refine blk_drew ?_|refine blk_alloc ?_ _));refine blk_put (cs:=#[.bool false,.slice none 0 0,.slice none 0 0]) ?_ 0 _ rfl;(with_reducible repeat (first|refine blk_drewN ?_ _|refine blk_drew ?_|refine blk_alloc ?_ _));exact BK374.out) Tryd.underlying25 rfl (by kernel_rfl)) rfl ?_
       exact ⟨_,_,by first|rfl|(simp [errW_none,errW_some] <;> rfl)|(simp [*,errW_none,errW_some] <;> rfl),by (with_reducible repeat (first|apply Ra|apply Rn|apply Rd));exact Kd.R_mono (Kd.R_far (p:=⟨gb374,2,none⟩) (Kd.R_far (p:=⟨gb374,1,none⟩) (Kd.R_far (p:=⟨gb374,0,none⟩) (Kd.R_types HO_383001.out BK374.out (by decide)) (fun _ hk=>hk.2) (.bool t375)) (fun _ hk=>hk.2) (.slice Ao24 t376.length co24)) (fun _ hk=>hk.2) (.slice Ao25 t379.length co25)) (fun _ hk=>hk.1),by (with_reducible repeat (first|apply Ra|apply Rn|apply Rd));exact Kd.R_mono (Kd.R_far (p:=⟨gb374,2,none⟩) (Kd.R_far (p:=⟨gb374,1,none⟩) (Kd.R_far (p:=⟨gb374,0,none⟩) (Kd.R_types HO_383002.out BK374.out (by decide)) (fun _ hk=>hk.2) (.bool t375)) (fun _ hk=>hk.2) (.slice Ao24 t376.length co24)) (fun _ hk=>hk.2) (.slice Ao25 t379.length co25)) (fun _ hk=>hk.1),by repeat (with_reducible first|exact HB.out|apply ba|apply bn|apply b1|refine below_set ?_ GE374.out|refine below_set ?_ GE382.out)⟩
      ·replace c38:=Bool.eq_false_iff.mpr c38
       subst c38
       rw [if_neg (show ¬ (false=true) by decide)] at H
       by_cases c42 : 0 < (rest33.size : Int)
       case neg =>rw [if_neg c42] at H;exact absurd H (by simp)
       rw [if_pos c42] at H
       have c42b0 : decide (0 < (rest33.size : Int))=true:=decide_eq_true c42
       have c42b1 : decide (0 < rest33.size)=true:=decide_eq_true (by omega)
       clear c42
       by_cases c44 : (bt rest33 0)=46
       ·rw [if_pos c44] at H
        have c44b0 : ((bt rest33 0) == 46)=true:=beq_iff_eq.mpr c44
        have c44b1 : ((bt rest33 0) != 46)=false:=bne_eq_false_iff_eq.mpr c44
        clear c44
        by_cases c45 : first33.size+sec33.size≤9223372036854775807
        case neg =>rw [if_neg c45] at H;exact absurd H (by simp)
        rw [if_pos c45] at H
        have c45b0:=eq_true c45
        have c45b1 : decide (first33.size+sec33.size≤9223372036854775807)=true:=decide_eq_true c45
        try have c45b2 : (9223372036854775807 < first33.size+sec33.size)=False:=eq_false (Nat.not_lt.2 c45)
        replace H:=Option.bind_eq_some_iff.mp H
        obtain ⟨t387,A460,H⟩:=H
        try dsimp only at H
        have A46:=Aside0.mk A460
        clear A460
        by_cases c47 : 1+t387.size≤9223372036854775807
        case neg =>rw [if_neg c47] at H;exact absurd H (by simp)
        rw [if_pos c47] at H
        have c47b0:=eq_true c47
        have c47b1 : decide (1+t387.size≤9223372036854775807)=true:=decide_eq_true c47
        try have c47b2 : (9223372036854775807 < 1+t387.size)=False:=eq_false (Nat.not_lt.2 c47)
        have H':=Aside0.mk H
        clear H
        have p43 : 0≤(0 : Int):=(by omega)
        have q43 : 0 < rest33.size:=(by have : (0 : Int) < (rest33.size : Int):=of_decide_eq_true (by assumption);omega)
        have hx43 : ∀ h : 0 < rest33.size,((rest33[0]'h).toNat : Int)=bt rest33 0:=bt_at rest33 0
        clear p43
        have qi43 : (0 < (rest33.size : Int))=True:=eq_true (of_decide_eq_true (by assumption))
        replace q43:=eq_true q43
        go_wp2_with (first|(go_at_call 27;(with_reducible refine (strings_Repeat.calls (⟨#[48]⟩ : ByteArray) (sec33.size : Int) t387 _ A46.out).mono ?_);rintro e w48 ⟨rfl,hb⟩;have n0_:=Aside0.mk (Kd.R_below (Ru HO_383001.out) hb);have n1_:=Aside0.mk (Kd.R_below (Ru HO_383002.out) hb);have n2_:=Aside0.mk (blk_below (g:=gb374) (o:=.cells #[.bool false,.slice none 0 0,.slice none 0 0] 25 (0,0)) (Bu BK374.out) hb);have n3_:=Aside0.mk (blk_below (g:=gb382) (o:=.cells #[.bool t375,.slice Ao24 t376.length co24,.slice Ao25 t379.length co25] 25 (0,0)) (Bu BK382.out) hb);have n4_:=Aside0.mk (below_step (by repeat (with_reducible first|exact HB.out|apply ba|apply bn|apply b1|refine below_set ?_ GE374.out|refine below_set ?_ GE382.out)) hb);clear HO_383001;clear HO_383002;clear BK374;clear BK382;clear HB;have HO_383001:=n0_;have HO_383002:=n1_;have BK374:=n2_;have BK382:=n3_;have HB:=n4_;clear n0_ n1_ n2_ n3_ n4_))
        go_meet
        case rel=>exact ⟨_,(first33++sec33),((⟨#[49]⟩ : ByteArray)++t387),(false),(by first|rfl|(simp;done)|(simp [*];done)),(by first|rfl|(simp;done)|(simp [*];done)),H',⟨by have:=HJ29.out;first|omega|exact Nat.le_refl _⟩,⟨Ru HO_383001.out⟩,⟨Ru HO_383002.out⟩,⟨Bu BK374.out⟩,⟨Bu BK382.out⟩,⟨by repeat (with_reducible first|exact HB.out|apply ba|apply bn|apply b1|refine below_set ?_ GE374.out|refine below_set ?_ GE382.out)⟩⟩
       ·rw [if_neg c44] at H
        have c44b0 : ((bt rest33 0) == 46)=false:=beq_eq_false_iff_ne.mpr c44
        have c44b1 : ((bt rest33 0) != 46)=true:=bne_iff_ne.mpr c44
        have H':=Aside0.mk H
        clear H
        have p43 : 0≤(0 : Int):=(by omega)
        have q43 : 0 < rest33.size:=(by have : (0 : Int) < (rest33.size : Int):=of_decide_eq_true (by assumption);omega)
        have hx43 : ∀ h : 0 < rest33.size,((rest33[0]'h).toNat : Int)=bt rest33 0:=bt_at rest33 0
        clear p43
        have qi43 : (0 < (rest33.size : Int))=True:=eq_true (of_decide_eq_true (by assumption))
        replace q43:=eq_true q43
        go_wp2
        go_meet
        case rel=>exact ⟨_,(first33),(sec33),(false),(by first|rfl|(simp;done)|(simp [*];done)),(by first|rfl|(simp;done)|(simp [*];done)),H',⟨by have:=HJ29.out;first|omega|exact Nat.le_refl _⟩,⟨Ru HO_383001.out⟩,⟨Ru HO_383002.out⟩,⟨Bu BK374.out⟩,⟨Bu BK382.out⟩,⟨by repeat (with_reducible first|exact HB.out|apply ba|apply bn|apply b1|refine below_set ?_ GE374.out|refine below_set ?_ GE382.out)⟩⟩
  case rest =>
   clear HC18
   obtain ⟨kq,x8_17,x10_17,x375000_17,rfl,rfl,HA,HJ17,HO_383001,HO_383002,BK374,BK382,HB⟩:=hcut
   cases kq with
  |zero=>exact absurd HA.out (by simp [decimal_Parse.j1])
  |succ kj17 =>
    have H:=HA.out
    clear HA
    simp only [decimal_Parse.j1] at H
    by_cases c49 : t385=0
    ·rw [if_pos c49] at H
     have c49b0 : (t385 == 0)=true:=beq_iff_eq.mpr c49
     have c49b1 : (t385 != 0)=false:=bne_eq_false_iff_eq.mpr c49
     clear c49
     simp only [Option.some.injEq,Prod.mk.injEq] at H
     obtain ⟨rfl,rfl,rfl,rfl⟩:=H
     have hnb50:=NB382_374.out
     have hnc50:=NB374_382.out
     have hcz51_0 : wc.cell? ⟨gb382,0,none⟩=some (.bool t375):=(blk_cell BK382.out 0).trans rfl
     have hcz51_1 : wc.cell? ⟨gb382,1,none⟩=some (.slice Ao24 t376.length co24):=(blk_cell BK382.out 1).trans rfl
     have hcz51_2 : wc.cell? ⟨gb382,2,none⟩=some (.slice Ao25 t379.length co25):=(blk_cell BK382.out 2).trans rfl
     have hfz51_0:=blk_frozen BK382.out 0
     have hfz51_1:=blk_frozen BK382.out 1
     have hfz51_2:=blk_frozen BK382.out 2
     have hcz52_0 : wc.cell? ⟨gb374,0,none⟩=some (.bool x375000_17):=(blk_cell BK374.out 0).trans rfl
     have hcz52_1 : wc.cell? ⟨gb374,1,none⟩=some (.slice none 0 0):=(blk_cell BK374.out 1).trans rfl
     have hcz52_2 : wc.cell? ⟨gb374,2,none⟩=some (.slice none 0 0):=(blk_cell BK374.out 2).trans rfl
     have hfz52_0:=blk_frozen BK374.out 0
     have hfz52_1:=blk_frozen BK374.out 1
     have hfz52_2:=blk_frozen BK374.out 2
     go_wp2
     refine bodyPost_ret (results_ct rfl _ _ gb374 25 #[.bool t375,.slice Ao24 t376.length co24,.slice Ao25 t379.length co25] (0,0) _ rfl (by (with_reducible repeat (first|refine blk_drewN ?_ _|refine blk_drew ?_|refine blk_alloc ?_ _));refine blk_put (cs:=#[.bool t375,.slice Ao24 t376.length co24,.slice none 0 0]) ?_ 2 _ rfl;(with_reducible repeat (first|refine blk_drewN ?_ _|refine blk_drew ?_|refine blk_alloc ?_ _));refine blk_put (cs:=#[.bool t375,.slice none 0 0,.slice none 0 0]) ?_ 1 _ rfl;(with_reducible repeat (first|refine blk_drewN ?_ _|refine blk_drew ?_|refine blk_alloc ?_ _));refine blk_put (cs:=#[.bool x375000_17,.slice none 0 0,.slice none 0 0]) ?_ 0 _ rfl;(with_reducible repeat (first|refine blk_drewN ?_ _|refine blk_drew ?_|refine blk_alloc ?_ _));exact BK374.out) Tryd.underlying25 rfl (by kernel_rfl)) rfl ?_
     exact ⟨_,_,by first|rfl|(simp [errW_none,errW_some] <;> rfl)|(simp [*,errW_none,errW_some] <;> rfl),by (with_reducible repeat (first|apply Ra|apply Rn|apply Rd));exact Kd.R_mono (Kd.R_far (p:=⟨gb374,2,none⟩) (Kd.R_far (p:=⟨gb374,1,none⟩) (Kd.R_far (p:=⟨gb374,0,none⟩) (Kd.R_types HO_383001.out BK374.out (by decide)) (fun _ hk=>hk.2) (.bool t375)) (fun _ hk=>hk.2) (.slice Ao24 t376.length co24)) (fun _ hk=>hk.2) (.slice Ao25 t379.length co25)) (fun _ hk=>hk.1),by (with_reducible repeat (first|apply Ra|apply Rn|apply Rd));exact Kd.R_mono (Kd.R_far (p:=⟨gb374,2,none⟩) (Kd.R_far (p:=⟨gb374,1,none⟩) (Kd.R_far (p:=⟨gb374,0,none⟩) (Kd.R_types HO_383002.out BK374.out (by decide)) (fun _ hk=>hk.2) (.bool t375)) (fun _ hk=>hk.2) (.slice Ao24 t376.length co24)) (fun _ hk=>hk.2) (.slice Ao25 t379.length co25)) (fun _ hk=>hk.1),by repeat (with_reducible first|exact HB.out|apply ba|apply bn|apply b1|refine below_set ?_ GE374.out|refine below_set ?_ GE382.out)⟩
    ·rw [if_neg c49] at H
     have c49b0 : (t385 == 0)=false:=beq_eq_false_iff_ne.mpr c49
     have c49b1 : (t385 != 0)=true:=bne_iff_ne.mpr c49
     replace H:=Option.bind_eq_some_iff.mp H
     obtain ⟨t388,A530,H⟩:=H
     try dsimp only at H
     have A53:=Aside0.mk A530
     clear A530
     by_cases c54 : (t388.length : Int)=0
     ·rw [if_pos c54] at H
      have c54b0 : ((t388.length : Int) == 0)=true:=beq_iff_eq.mpr c54
      have c54b1 : ((t388.length : Int) != 0)=false:=bne_eq_false_iff_eq.mpr c54
      clear c54
      simp only [Option.some.injEq,Prod.mk.injEq] at H
      obtain ⟨rfl,rfl,rfl,rfl⟩:=H
      go_wp2_with (first|(go_at_call 28;(with_reducible refine (decimal_number.calls kj17 x10_17 t388 _ A53.out).mono ?_);rintro e w55 ⟨v389,rfl,ho0,hb⟩;have n0_:=Aside0.mk (Kd.R_elder' (Ru HO_383001.out) (Kd.R_base ho0) hb);have n1_:=Aside0.mk (Kd.R_elder' (Ru HO_383002.out) (Kd.R_base ho0) hb);have n2_:=Aside0.mk (Kd.R_lower (Kd.R_new' (Kd.R_new' ho0 (Kd.R_lt (Ru HO_383001.out))) (Kd.R_lt (Ru HO_383002.out))) (below_size (by repeat (with_reducible first|exact HB.out|apply ba|apply bn|apply b1|refine below_set ?_ GE374.out|refine below_set ?_ GE382.out))));have n3_:=Aside0.mk (blk_below (g:=gb374) (o:=.cells #[.bool x375000_17,.slice none 0 0,.slice none 0 0] 25 (0,0)) (Bu BK374.out) hb);have n4_:=Aside0.mk (blk_below (g:=gb382) (o:=.cells #[.bool t375,.slice Ao24 t376.length co24,.slice Ao25 t379.length co25] 25 (0,0)) (Bu BK382.out) hb);have n5_:=Aside0.mk (below_step (by repeat (with_reducible first|exact HB.out|apply ba|apply bn|apply b1|refine below_set ?_ GE374.out|refine below_set ?_ GE382.out)) hb);clear HO_383001;clear HO_383002;clear BK374;clear BK382;clear HB;have HO_383001:=n0_;have HO_383002:=n1_;have HO390:=n2_;have BK374:=n3_;have BK382:=n4_;have HB:=n5_;clear n0_ n1_ n2_ n3_ n4_ n5_;obtain ⟨Ao56,co56,eo56⟩:=Kd.R_slice HO390.out;subst eo56;have hnb57:=NB382_374.out;have hnc57:=NB374_382.out;have hcz58_0 : w55.cell? ⟨gb382,0,none⟩=some (.bool t375):=(blk_cell BK382.out 0).trans rfl;have hcz58_1 : w55.cell? ⟨gb382,1,none⟩=some (.slice Ao24 t376.length co24):=(blk_cell BK382.out 1).trans rfl;have hcz58_2 : w55.cell? ⟨gb382,2,none⟩=some (.slice Ao25 t379.length co25):=(blk_cell BK382.out 2).trans rfl;have hfz58_0:=blk_frozen BK382.out 0;have hfz58_1:=blk_frozen BK382.out 1;have hfz58_2:=blk_frozen BK382.out 2;have hcz59_0 : w55.cell? ⟨gb374,0,none⟩=some (.bool x375000_17):=(blk_cell BK374.out 0).trans rfl;have hcz59_1 : w55.cell? ⟨gb374,1,none⟩=some (.slice none 0 0):=(blk_cell BK374.out 1).trans rfl;have hcz59_2 : w55.cell? ⟨gb374,2,none⟩=some (.slice none 0 0):=(blk_cell BK374.out 2).trans rfl;have hfz59_0:=blk_frozen BK374.out 0;have hfz59_1:=blk_frozen BK374.out 1;have hfz59_2:=blk_frozen BK374.out 2))
      refine bodyPost_ret (results_ct rfl _ _ gb374 25 #[.bool t375,.slice Ao24 t376.length co24,.slice Ao25 t379.length co25] (0,0) _ rfl (by (with_reducible repeat (first|refine blk_drewN ?_ _|refine blk_drew ?_|refine blk_alloc ?_ _));refine blk_put (cs:=#[.bool t375,.slice Ao24 t376.length co24,.slice none 0 0]) ?_ 2 _ rfl;(with_reducible repeat (first|refine blk_drewN ?_ _|refine blk_drew ?_|refine blk_alloc ?_ _));refine blk_put (cs:=#[.bool t375,.slice none 0 0,.slice none 0 0]) ?_ 1 _ rfl;(with_reducible repeat (first|refine blk_drewN ?_ _|refine blk_drew ?_|refine blk_alloc ?_ _));refine blk_put (cs:=#[.bool x375000_17,.slice none 0 0,.slice none 0 0]) ?_ 0 _ rfl;(with_reducible repeat (first|refine blk_drewN ?_ _|refine blk_drew ?_|refine blk_alloc ?_ _));exact BK374.out) Tryd.underlying25 rfl (by kernel_rfl)) rfl ?_
      exact ⟨_,_,by first|rfl|(simp [errW_none,errW_some] <;> rfl)|(simp [*,errW_none,errW_some] <;> rfl),by (with_reducible repeat (first|apply Ra|apply Rn|apply Rd));exact Kd.R_mono (Kd.R_far (p:=⟨gb374,2,none⟩) (Kd.R_far (p:=⟨gb374,1,none⟩) (Kd.R_far (p:=⟨gb374,0,none⟩) (Kd.R_types HO_383001.out BK374.out (by decide)) (fun _ hk=>hk.2) (.bool t375)) (fun _ hk=>hk.2) (.slice Ao24 t376.length co24)) (fun _ hk=>hk.2) (.slice Ao25 t379.length co25)) (fun _ hk=>hk.1.1),by (with_reducible repeat (first|apply Ra|apply Rn|apply Rd));exact Kd.R_mono (Kd.R_far (p:=⟨gb374,2,none⟩) (Kd.R_far (p:=⟨gb374,1,none⟩) (Kd.R_far (p:=⟨gb374,0,none⟩) (Kd.R_types HO_383002.out BK374.out (by decide)) (fun _ hk=>hk.2) (.bool t375)) (fun _ hk=>hk.2) (.slice Ao24 t376.length co24)) (fun _ hk=>hk.2) (.slice Ao25 t379.length co25)) (fun _ hk=>hk.1.1),by repeat (with_reducible first|exact HB.out|apply ba|apply bn|apply b1|refine below_set ?_ GE374.out|refine below_set ?_ GE382.out)⟩
     ·rw [if_neg c54] at H
      have c54b0 : ((t388.length : Int) == 0)=false:=beq_eq_false_iff_ne.mpr c54
      have c54b1 : ((t388.length : Int) != 0)=true:=bne_iff_ne.mpr c54
      have c54b2 : ¬ (t388=[]):=fun h_=>c54 (by rw [h_];rfl)
      replace H:=Option.bind_eq_some_iff.mp H
      obtain ⟨t391,A600,H⟩:=H
      try dsimp only at H
      have A60:=Aside0.mk A600
      clear A600
      replace H:=Option.bind_eq_some_iff.mp H
      obtain ⟨⟨t394,t395,t398⟩,A610,H⟩:=H
      try dsimp only at H
      have A61:=Aside0.mk A610
      clear A610
      simp only [Option.some.injEq,Prod.mk.injEq] at H
      obtain ⟨rfl,rfl,rfl,rfl⟩:=H
      go_wp2_with (first|(go_at_call 28;(with_reducible refine (decimal_number.calls kj17 x10_17 t388 _ A53.out).mono ?_);rintro e w62 ⟨v389,rfl,ho0,hb⟩;have n0_:=Aside0.mk (Kd.R_elder' (Ru HO_383001.out) (Kd.R_base ho0) hb);have n1_:=Aside0.mk (Kd.R_elder' (Ru HO_383002.out) (Kd.R_base ho0) hb);have n2_:=Aside0.mk (Kd.R_lower (Kd.R_new' (Kd.R_new' ho0 (Kd.R_lt (Ru HO_383001.out))) (Kd.R_lt (Ru HO_383002.out))) (below_size (by repeat (with_reducible first|exact HB.out|apply ba|apply bn|apply b1|refine below_set ?_ GE374.out|refine below_set ?_ GE382.out))));have n3_:=Aside0.mk (blk_below (g:=gb374) (o:=.cells #[.bool x375000_17,.slice none 0 0,.slice none 0 0] 25 (0,0)) (Bu BK374.out) hb);have n4_:=Aside0.mk (blk_below (g:=gb382) (o:=.cells #[.bool t375,.slice Ao24 t376.length co24,.slice Ao25 t379.length co25] 25 (0,0)) (Bu BK382.out) hb);have n5_:=Aside0.mk (below_step (by repeat (with_reducible first|exact HB.out|apply ba|apply bn|apply b1|refine below_set ?_ GE374.out|refine below_set ?_ GE382.out)) hb);clear HO_383001;clear HO_383002;clear BK374;clear BK382;clear HB;have HO_383001:=n0_;have HO_383002:=n1_;have HO390:=n2_;have BK374:=n3_;have BK382:=n4_;have HB:=n5_;clear n0_ n1_ n2_ n3_ n4_ n5_;obtain ⟨Ao63,co63,eo63⟩:=Kd.R_slice HO390.out;subst eo63)|(go_at_call 28;(with_reducible refine (decimal_number.calls kj17 x8_17 t391 _ A60.out).mono ?_);rintro e w64 ⟨v392,rfl,ho0,hb⟩;have n0_:=Aside0.mk (Kd.R_elder' (Ru HO_383001.out) (Kd.R_base ho0) hb);have n1_:=Aside0.mk (Kd.R_elder' (Ru HO_383002.out) (Kd.R_base ho0) hb);have n2_:=Aside0.mk (Kd.R_elder' (Ru HO390.out) (Kd.R_base ho0) hb);have n3_:=Aside0.mk (Kd.R_lower (Kd.R_new' (Kd.R_new' (Kd.R_new' ho0 (Kd.R_lt (Ru HO_383001.out))) (Kd.R_lt (Ru HO_383002.out))) (Kd.R_lt (Ru HO390.out))) (below_size (by repeat (with_reducible first|exact HB.out|apply ba|apply bn|apply b1|refine below_set ?_ GE374.out|refine below_set ?_ GE382.out))));have n4_:=Aside0.mk (blk_below (g:=gb374) (o:=.cells #[.bool x375000_17,.slice none 0 0,.slice none 0 0] 25 (0,0)) (Bu BK374.out) hb);have n5_:=Aside0.mk (blk_below (g:=gb382) (o:=.cells #[.bool t375,.slice Ao24 t376.length co24,.slice Ao25 t379.length co25] 25 (0,0)) (Bu BK382.out) hb);have n6_:=Aside0.mk (below_step (by repeat (with_reducible first|exact HB.out|apply ba|apply bn|apply b1|refine below_set ?_ GE374.out|refine below_set ?_ GE382.out)) hb);clear HO_383001;clear HO_383002;clear HO390;clear BK374;clear BK382;clear HB;have HO_383001:=n0_;have HO_383002:=n1_;have HO390:=n2_;have HO393:=n3_;have BK374:=n4_;have BK382:=n5_;have HB:=n6_;clear n0_ n1_ n2_ n3_ n4_ n5_ n6_;obtain ⟨Ao65,co65,eo65⟩:=Kd.R_slice HO393.out;subst eo65)|(go_at_call 18;(with_reducible refine (rat_Read.calls kj17 t384 _ _ t391 _ _ t388 t394 t395 t398 _ ?side1 ?side2 ?side3 ?side4 A61.out).mono ?_);(case side1=>exact Cu (Kd.R_reads' HO393.out).2.2);(case side2=>exact (Kd.R_reads' HO393.out).2.1);(case side3=>exact Cu (Kd.R_reads' HO390.out).2.2);(case side4=>exact (Kd.R_reads' HO390.out).2.1);rintro e w66 ⟨v396,v399,rfl,ho0,ho1,hb⟩;have n0_:=Aside0.mk (Kd.R_mono (Kd.R_told (Kd.R_told (Kd.R_old (Ru HO_383001.out) hb) (Kd.R_base ho0)) (Kd.R_base ho1)) (fun _ h_=>h_.1));have n1_:=Aside0.mk (Kd.R_mono (Kd.R_told (Kd.R_told (Kd.R_old (Ru HO_383002.out) hb) (Kd.R_base ho0)) (Kd.R_base ho1)) (fun _ h_=>h_.1));have n2_:=Aside0.mk (Kd.R_mono (Kd.R_told (Kd.R_told (Kd.R_old (Ru HO390.out) hb) (Kd.R_base ho0)) (Kd.R_base ho1)) (fun _ h_=>h_.1));have n3_:=Aside0.mk (Kd.R_mono (Kd.R_told (Kd.R_told (Kd.R_old (Ru HO393.out) hb) (Kd.R_base ho0)) (Kd.R_base ho1)) (fun _ h_=>h_.1));have n4_:=Aside0.mk (Kd.R_lower (Kd.R_new' (Kd.R_new' (Kd.R_new' (Kd.R_new' ho0 (Kd.R_lt (Ru HO_383001.out))) (Kd.R_lt (Ru HO_383002.out))) (Kd.R_lt (Ru HO390.out))) (Kd.R_lt (Ru HO393.out))) (below_size (by repeat (with_reducible first|exact HB.out|apply ba|apply bn|apply b1|refine below_set ?_ GE374.out|refine below_set ?_ GE382.out))));have n5_:=Aside0.mk (Kd.R_lower (Kd.R_new' (Kd.R_new' (Kd.R_new' (Kd.R_new' ho1 (Kd.R_lt (Ru HO_383001.out))) (Kd.R_lt (Ru HO_383002.out))) (Kd.R_lt (Ru HO390.out))) (Kd.R_lt (Ru HO393.out))) (below_size (by repeat (with_reducible first|exact HB.out|apply ba|apply bn|apply b1|refine below_set ?_ GE374.out|refine below_set ?_ GE382.out))));have n6_:=Aside0.mk (blk_below (g:=gb374) (o:=.cells #[.bool x375000_17,.slice none 0 0,.slice none 0 0] 25 (0,0)) (Bu BK374.out) hb);have n7_:=Aside0.mk (blk_below (g:=gb382) (o:=.cells #[.bool t375,.slice Ao24 t376.length co24,.slice Ao25 t379.length co25] 25 (0,0)) (Bu BK382.out) hb);have n8_:=Aside0.mk (below_step (by repeat (with_reducible first|exact HB.out|apply ba|apply bn|apply b1|refine below_set ?_ GE374.out|refine below_set ?_ GE382.out)) hb);clear HO_383001;clear HO_383002;clear HO390;clear HO393;clear BK374;clear BK382;clear HB;have HO_383001:=n0_;have HO_383002:=n1_;have HO390:=n2_;have HO393:=n3_;have HO397:=n4_;have HO400:=n5_;have BK374:=n6_;have BK382:=n7_;have HB:=n8_;clear n0_ n1_ n2_ n3_ n4_ n5_ n6_ n7_ n8_;have hnb67:=NB374_382.out;have hnc67:=NB382_374.out;have hcz68_0 : w66.cell? ⟨gb374,0,none⟩=some (.bool x375000_17):=(blk_cell BK374.out 0).trans rfl;have hcz68_1 : w66.cell? ⟨gb374,1,none⟩=some (.slice none 0 0):=(blk_cell BK374.out 1).trans rfl;have hcz68_2 : w66.cell? ⟨gb374,2,none⟩=some (.slice none 0 0):=(blk_cell BK374.out 2).trans rfl;have hfz68_0:=blk_frozen BK374.out 0;have hfz68_1:=blk_frozen BK374.out 1;have hfz68_2:=blk_frozen BK374.out 2;obtain ⟨Ao69,co69,eo69⟩:=Kd.R_slice HO397.out;subst eo69;obtain ⟨Ao70,co70,eo70⟩:=Kd.R_slice HO400.out;subst eo70))
      refine bodyPost_ret (results_ct rfl _ _ gb374 25 #[.bool t394,.slice Ao69 t395.length co69,.slice Ao70 t398.length co70] (0,0) _ rfl (by (with_reducible repeat (first|refine blk_drewN ?_ _|refine blk_drew ?_|refine blk_alloc ?_ _));refine blk_put (cs:=#[.bool t394,.slice Ao69 t395.length co69,.slice none 0 0]) ?_ 2 _ rfl;(with_reducible repeat (first|refine blk_drewN ?_ _|refine blk_drew ?_|refine blk_alloc ?_ _));refine blk_put (cs:=#[.bool t394,.slice none 0 0,.slice none 0 0]) ?_ 1 _ rfl;(with_reducible repeat (first|refine blk_drewN ?_ _|refine blk_drew ?_|refine blk_alloc ?_ _));refine blk_put (cs:=#[.bool x375000_17,.slice none 0 0,.slice none 0 0]) ?_ 0 _ rfl;(with_reducible repeat (first|refine blk_drewN ?_ _|refine blk_drew ?_|refine blk_alloc ?_ _));exact BK374.out) Tryd.underlying25 rfl (by kernel_rfl)) rfl ?_
      exact ⟨_,_,by first|rfl|(simp [errW_none,errW_some] <;> rfl)|(simp [*,errW_none,errW_some] <;> rfl),by (with_reducible repeat (first|apply Ra|apply Rn|apply Rd));exact Kd.R_mono (Kd.R_far (p:=⟨gb374,2,none⟩) (Kd.R_far (p:=⟨gb374,1,none⟩) (Kd.R_far (p:=⟨gb374,0,none⟩) (Kd.R_types HO397.out BK374.out (by decide)) (fun _ hk=>hk.2) (.bool t394)) (fun _ hk=>hk.2) (.slice Ao69 t395.length co69)) (fun _ hk=>hk.2) (.slice Ao70 t398.length co70)) (fun _ hk=>hk.1.1.1.1.1),by (with_reducible repeat (first|apply Ra|apply Rn|apply Rd));exact Kd.R_mono (Kd.R_far (p:=⟨gb374,2,none⟩) (Kd.R_far (p:=⟨gb374,1,none⟩) (Kd.R_far (p:=⟨gb374,0,none⟩) (Kd.R_types HO400.out BK374.out (by decide)) (fun _ hk=>hk.2) (.bool t394)) (fun _ hk=>hk.2) (.slice Ao69 t395.length co69)) (fun _ hk=>hk.2) (.slice Ao70 t398.length co70)) (fun _ hk=>hk.1.1.1.1.1),by repeat (with_reducible first|exact HB.out|apply ba|apply bn|apply b1|refine below_set ?_ GE374.out|refine below_set ?_ GE382.out)⟩
end Go.Proofs.YtncdiodnbkhacaaDoor.Pq
end
end
section
section
namespace Go.Proofs.YtncdiodnbkhacaaDoor.Pq
open Go.RowKit Go.Proofs.YtncdiodnbkhacaaDoorW.PrintWords Go.Proofs.YtncdiodnbkhacaaDoorW.PrintLast Go.Proofs.YtncdiodnbkhacaaDoorW.PrintMore
attribute [local go_sem] max2_int min2_int max_two min_two max_three min_three max_four min_four
set_option linter.unusedVariables false
set_option linter.unusedSimpArgs false
set_option maxHeartbeats 8000000
set_option maxRecDepth 100000
open Go.Shelf
theorem decimal_Print.mono : ∀ a0 a1 a2 k,LeO (decimal_Print.f k a0 a1 a2) (decimal_Print.f (k+1) a0 a1 a2):=by
 intro a0 a1 a2 k
 unfold decimal_Print.f
 with_reducible repeat' first
  |exact decimal_Natural.mono _ _
  |exact rat_Read.mono _ _ _ _
  |exact LeO.refl _
  |exact LeO.none _
  |refine LeO.ite ?_ ?_
  |refine LeO.bind ?_ (fun _=>?_)
theorem decimal_Print.calls (k : Nat) (a0_0 : Bool) (A0_1 : Option Addr) (c0_1 : Nat) (l0_1 : List Int) (A0_2 : Option Addr) (c0_2 : Nat) (l0_2 : List Int) (r : ByteArray) (w : World) (hr0_1 : Kd.C (Kd.int .u32) w A0_1 l0_1.length l0_1) (hc0_1 : l0_1.length≤c0_1) (hr0_2 : Kd.C (Kd.int .u32) w A0_2 l0_2.length l0_2) (hc0_2 : l0_2.length≤c0_2) (h : decimal_Print.f k a0_0 l0_1 l0_2=some r) :
  Calls Tryd.prog 12 #[.agg #[.bool a0_0,.slice A0_1 l0_1.length c0_1,.slice A0_2 l0_2.length c0_2]] w fun e w'=>e=.returned (.string r)∧Below w.heap.size w w':=by
 have hu25:=Tryd.underlying25
 have HR0_1:=Aside0.mk hr0_1
 have HC0_1:=Aside0.mk hc0_1
 clear hr0_1 hc0_1
 have HR0_2:=Aside0.mk hr0_2
 have HC0_2:=Aside0.mk hc0_2
 clear hr0_2 hc0_2
 have HB:=Aside0.mk (Below.refl w.heap.size w)
 have H : ((rat_Read.f k a0_0 l0_1 l0_2).bind fun bt408=>((decimal_Natural.f k bt408.2.1).bind fun t415=>(if bt408.1=true then (if 1+t415.size≤9223372036854775807 then ((decimal_Natural.f k bt408.2.2).bind fun t416=>(if t416.toList=([49] : List UInt8) then (some ((⟨#[45]⟩ : ByteArray)++t415)) else (if 1+t416.size≤9223372036854775807 then (if ((⟨#[45]⟩ : ByteArray)++t415).size+((⟨#[47]⟩ : ByteArray)++t416).size≤9223372036854775807 then (some (((⟨#[45]⟩ : ByteArray)++t415)++((⟨#[47]⟩ : ByteArray)++t416))) else (none)) else (none)))) else (none)) else ((decimal_Natural.f k bt408.2.2).bind fun t417=>(if t417.toList=([49] : List UInt8) then (some t415) else (if 1+t417.size≤9223372036854775807 then (if t415.size+((⟨#[47]⟩ : ByteArray)++t417).size≤9223372036854775807 then (some (t415++((⟨#[47]⟩ : ByteArray)++t417))) else (none)) else (none)))))))=some r:=h
 clear h
 replace H:=Option.bind_eq_some_iff.mp H
 obtain ⟨⟨t408,t409,t412⟩,A20,H⟩:=H
 try dsimp only at H
 have A2:=Aside0.mk A20
 clear A20
 replace H:=Option.bind_eq_some_iff.mp H
 obtain ⟨t415,A30,H⟩:=H
 try dsimp only at H
 have A3:=Aside0.mk A30
 clear A30
 by_cases c4 : t408=true
 ·subst c4
  rw [if_pos rfl] at H
  by_cases c5 : 1+t415.size≤9223372036854775807
  case neg =>rw [if_neg c5] at H;exact absurd H (by simp)
  rw [if_pos c5] at H
  have c5b0:=eq_true c5
  have c5b1 : decide (1+t415.size≤9223372036854775807)=true:=decide_eq_true c5
  try have c5b2 : (9223372036854775807 < 1+t415.size)=False:=eq_false (Nat.not_lt.2 c5)
  replace H:=Option.bind_eq_some_iff.mp H
  obtain ⟨t416,A60,H⟩:=H
  try dsimp only at H
  have A6:=Aside0.mk A60
  clear A60
  by_cases c7 : t416.toList=([49] : List UInt8)
  ·rw [if_pos c7] at H
   have c7b0 : (t416.toList == ([49] : List UInt8))=true:=beq_iff_eq.mpr c7
   have c7b1 : (t416.toList != ([49] : List UInt8))=false:=bne_eq_false_iff_eq.mpr c7
   clear c7
   obtain rfl:=Option.some.inj H
   go_enter Tryd.func12,Tryd.ntmps12
   go_wp2_with (first|((with_reducible refine gate_dst (N:=1) rfl ?_);refine box_event ?hg (N:=1) ?hd (cs:=#[.bool a0_0,.slice A0_1 l0_1.length c0_1,.slice A0_2 l0_2.length c0_2]) (t:=25) ?hr ?_;(case hd=>rfl);(case hg=>rfl);(case hr=>first|(go_simp;done)|(go_simp;(with_reducible rfl))|(go_simp;rfl)|(go_simp;simp only [hu,Int.emod_sub_emod]));intro gb407 hg w8 hbox hb;have n0_:=Aside0.mk (below_step (Hu HB.out) hb);have n1_:=Aside0.mk (hbox);have n2_:=Aside0.mk ((by rw [hg];exact (below_size (Hu HB.out)) : w.heap.size≤gb407));have n3_:=Aside0.mk ((by rw [hg];exact (below_size (Hu HB.out)) : w.heap.size≤gb407));clear HB;have HB:=n0_;have BK407:=n1_;have GW407:=n2_;have GE407:=n3_;clear n0_ n1_ n2_ n3_;clear hb hbox hg;have hcz9_0 : w8.cell? ⟨gb407,0,none⟩=some (.bool a0_0):=(blk_cell BK407.out 0).trans rfl;have hcz9_1 : w8.cell? ⟨gb407,1,none⟩=some (.slice A0_1 l0_1.length c0_1):=(blk_cell BK407.out 1).trans rfl;have hcz9_2 : w8.cell? ⟨gb407,2,none⟩=some (.slice A0_2 l0_2.length c0_2):=(blk_cell BK407.out 2).trans rfl;have hfz9_0:=blk_frozen BK407.out 0;have hfz9_1:=blk_frozen BK407.out 1;have hfz9_2:=blk_frozen BK407.out 2)|((with_reducible refine gate_callee (f:=18) rfl ?_);refine goesL_ (some 6) rfl rfl Tryd.func18 (by kernel_rfl) rfl #[.agg #[.bool a0_0,.slice A0_1 l0_1.length c0_1,.slice A0_2 l0_2.length c0_2]] rfl (by (try simp only [List.map_toArray,List.map_cons,List.map_nil]);first|done|rfl) ?_;(with_reducible refine (rat_Read.calls k a0_0 _ _ l0_1 _ _ l0_2 true t409 t412 _ ?side1 ?side2 ?side3 ?side4 A2.out).mono ?_);(case side1=>repeat (first|exact (Kd.C_below HR0_1.out HB.out)|(with_reducible refine Kd.C_alloc ?_ _)|(with_reducible refine Kd.C_drewN ?_ _)|(with_reducible refine Kd.C_drew ?_)));(case side2=>exact HC0_1.out);(case side3=>repeat (first|exact (Kd.C_below HR0_2.out HB.out)|(with_reducible refine Kd.C_alloc ?_ _)|(with_reducible refine Kd.C_drewN ?_ _)|(with_reducible refine Kd.C_drew ?_)));(case side4=>exact HC0_2.out);rintro e w10 ⟨v410,v413,rfl,ho0,ho1,hb⟩;refine ⟨_,rfl,?_⟩;have n0_:=Aside0.mk (Kd.R_lower ho0 (below_size (by repeat (first|with_reducible exact HB.out|apply ba|apply bn|apply b1|refine below_set ?_ GE407.out))));have n1_:=Aside0.mk (Kd.R_lower ho1 (below_size (by repeat (first|with_reducible exact HB.out|apply ba|apply bn|apply b1|refine below_set ?_ GE407.out))));have n2_:=Aside0.mk (blk_below (g:=gb407) (o:=.cells #[.bool a0_0,.slice A0_1 l0_1.length c0_1,.slice A0_2 l0_2.length c0_2] 25 (0,0)) (Bu BK407.out) hb);have n3_:=Aside0.mk (below_step (by repeat (first|with_reducible exact HB.out|apply ba|apply bn|apply b1|refine below_set ?_ GE407.out)) hb);clear BK407;clear HB;have HO411:=n0_;have HO414:=n1_;have BK407:=n2_;have HB:=n3_;clear n0_ n1_ n2_ n3_;have hcz11_0 : w10.cell? ⟨gb407,0,none⟩=some (.bool a0_0):=(blk_cell BK407.out 0).trans rfl;have hcz11_1 : w10.cell? ⟨gb407,1,none⟩=some (.slice A0_1 l0_1.length c0_1):=(blk_cell BK407.out 1).trans rfl;have hcz11_2 : w10.cell? ⟨gb407,2,none⟩=some (.slice A0_2 l0_2.length c0_2):=(blk_cell BK407.out 2).trans rfl;have hfz11_0:=blk_frozen BK407.out 0;have hfz11_1:=blk_frozen BK407.out 1;have hfz11_2:=blk_frozen BK407.out 2;obtain ⟨Ao12,co12,eo12⟩:=Kd.R_slice HO411.out;subst eo12;obtain ⟨Ao13,co13,eo13⟩:=Kd.R_slice HO414.out;subst eo13)|((with_reducible refine gate_callee (f:=14) rfl ?_);refine goesL_ (some 9) rfl rfl Tryd.func14 (by kernel_rfl) rfl #[.slice Ao12 t409.length co12] rfl (by (try simp only [List.map_toArray,List.map_cons,List.map_nil]);first|done|rfl) ?_;(with_reducible refine (decimal_Natural.calls k _ _ t409 t415 _ ?side1 ?side2 A3.out).mono ?_);(case side1=>refine (Kd.R_reads' (e:=35) (base:=w.heap.size) (ok:=fun k_=>some k_≠(.slice Ao13 t412.length co13 : Value).ownBlock) (n:=t409.length) (c:=co12) ?_).2.2;exact (by (with_reducible repeat (first|apply Ra|apply Rn|apply Rd));exact (Kd.R_mono (Kd.R_far (p:=⟨gb407,2,none⟩) (Kd.R_far (p:=⟨gb407,1,none⟩) (Kd.R_far (p:=⟨gb407,0,none⟩) (Kd.R_types HO411.out BK407.out (by decide)) (fun _ hk=>hk.2) (.bool true)) (fun _ hk=>hk.2) (.slice Ao12 t409.length co12)) (fun _ hk=>hk.2) (.slice Ao13 t412.length co13)) (fun _ h_=>h_.1))));(case side2=>exact (Kd.R_reads' HO411.out).2.1);rintro e w14 ⟨rfl,hb⟩;refine ⟨_,rfl,?_⟩;have n0_:=Aside0.mk (Kd.R_below (by (with_reducible repeat (first|apply Ra|apply Rn|apply Rd));exact (Kd.R_mono (Kd.R_far (p:=⟨gb407,2,none⟩) (Kd.R_far (p:=⟨gb407,1,none⟩) (Kd.R_far (p:=⟨gb407,0,none⟩) (Kd.R_types HO411.out BK407.out (by decide)) (fun _ hk=>hk.2) (.bool true)) (fun _ hk=>hk.2) (.slice Ao12 t409.length co12)) (fun _ hk=>hk.2) (.slice Ao13 t412.length co13)) (fun _ h_=>h_.1))) hb);have n1_:=Aside0.mk (Kd.R_below (by (with_reducible repeat (first|apply Ra|apply Rn|apply Rd));exact (Kd.R_mono (Kd.R_far (p:=⟨gb407,2,none⟩) (Kd.R_far (p:=⟨gb407,1,none⟩) (Kd.R_far (p:=⟨gb407,0,none⟩) (Kd.R_types HO414.out BK407.out (by decide)) (fun _ hk=>hk.2) (.bool true)) (fun _ hk=>hk.2) (.slice Ao12 t409.length co12)) (fun _ hk=>hk.2) (.slice Ao13 t412.length co13)) (fun _ h_=>h_.1))) hb);have n2_:=Aside0.mk (blk_below (g:=gb407) (o:=.cells #[.bool true,.slice Ao12 t409.length co12,.slice Ao13 t412.length co13] 25 (0,0)) (by (with_reducible repeat (first|refine blk_drewN ?_ _|refine blk_drew ?_|refine blk_alloc ?_ _));refine blk_put (cs:=#[.bool true,.slice Ao12 t409.length co12,.slice A0_2 l0_2.length c0_2]) ?_ 2 _ rfl;(with_reducible repeat (first|refine blk_drewN ?_ _|refine blk_drew ?_|refine blk_alloc ?_ _));refine blk_put (cs:=#[.bool true,.slice A0_1 l0_1.length c0_1,.slice A0_2 l0_2.length c0_2]) ?_ 1 _ rfl;(with_reducible repeat (first|refine blk_drewN ?_ _|refine blk_drew ?_|refine blk_alloc ?_ _));refine blk_put (cs:=#[.bool a0_0,.slice A0_1 l0_1.length c0_1,.slice A0_2 l0_2.length c0_2]) ?_ 0 _ rfl;(with_reducible repeat (first|refine blk_drewN ?_ _|refine blk_drew ?_|refine blk_alloc ?_ _));exact BK407.out) hb);have n3_:=Aside0.mk (below_step (by repeat (first|with_reducible exact HB.out|apply ba|apply bn|apply b1|refine below_set ?_ GE407.out)) hb);clear HO411;clear HO414;clear BK407;clear HB;have HO411:=n0_;have HO414:=n1_;have BK407:=n2_;have HB:=n3_;clear n0_ n1_ n2_ n3_;have hcz15_0 : w14.cell? ⟨gb407,0,none⟩=some (.bool true):=(blk_cell BK407.out 0).trans rfl;have hcz15_1 : w14.cell? ⟨gb407,1,none⟩=some (.slice Ao12 t409.length co12):=(blk_cell BK407.out 1).trans rfl;have hcz15_2 : w14.cell? ⟨gb407,2,none⟩=some (.slice Ao13 t412.length co13):=(blk_cell BK407.out 2).trans rfl;have hfz15_0:=blk_frozen BK407.out 0;have hfz15_1:=blk_frozen BK407.out 1;have hfz15_2:=blk_frozen BK407.out 2)|((with_reducible refine gate_callee (f:=14) rfl ?_);refine goesL_ (some 16) rfl rfl Tryd.func14 (by kernel_rfl) rfl #[.slice Ao13 t412.length co13] rfl (by (try simp only [List.map_toArray,List.map_cons,List.map_nil]);first|done|rfl) ?_;(with_reducible refine (decimal_Natural.calls k _ _ t412 t416 _ ?side1 ?side2 A6.out).mono ?_);(case side1=>exact Cu (Kd.R_reads' HO414.out).2.2);(case side2=>exact (Kd.R_reads' HO414.out).2.1);rintro e w16 ⟨rfl,hb⟩;refine ⟨_,rfl,?_⟩;have n0_:=Aside0.mk (Kd.R_below (Ru HO411.out) hb);have n1_:=Aside0.mk (Kd.R_below (Ru HO414.out) hb);have n2_:=Aside0.mk (blk_below (g:=gb407) (o:=.cells #[.bool true,.slice Ao12 t409.length co12,.slice Ao13 t412.length co13] 25 (0,0)) (Bu BK407.out) hb);have n3_:=Aside0.mk (below_step (by repeat (first|with_reducible exact HB.out|apply ba|apply bn|apply b1|refine below_set ?_ GE407.out)) hb);clear HO411;clear HO414;clear BK407;clear HB;have HO411:=n0_;have HO414:=n1_;have BK407:=n2_;have HB:=n3_;clear n0_ n1_ n2_ n3_))
   go_ret
   exact ⟨by first|rfl|(simp [errW_none,errW_some] <;> rfl)|(simp [*,errW_none,errW_some] <;> rfl),by repeat (first|with_reducible exact HB.out|apply ba|apply bn|apply b1|refine below_set ?_ GE407.out)⟩
  ·rw [if_neg c7] at H
   have c7b0 : (t416.toList == ([49] : List UInt8))=false:=beq_eq_false_iff_ne.mpr c7
   have c7b1 : (t416.toList != ([49] : List UInt8))=true:=bne_iff_ne.mpr c7
   by_cases c17 : 1+t416.size≤9223372036854775807
   case neg =>rw [if_neg c17] at H;exact absurd H (by simp)
   rw [if_pos c17] at H
   have c17b0:=eq_true c17
   have c17b1 : decide (1+t416.size≤9223372036854775807)=true:=decide_eq_true c17
   try have c17b2 : (9223372036854775807 < 1+t416.size)=False:=eq_false (Nat.not_lt.2 c17)
   by_cases c18 : ((⟨#[45]⟩ : ByteArray)++t415).size+((⟨#[47]⟩ : ByteArray)++t416).size≤9223372036854775807
   case neg =>rw [if_neg c18] at H;exact absurd H (by simp)
   rw [if_pos c18] at H
   have c18b0:=eq_true c18
   have c18b1 : decide (((⟨#[45]⟩ : ByteArray)++t415).size+((⟨#[47]⟩ : ByteArray)++t416).size≤9223372036854775807)=true:=decide_eq_true c18
   try have c18b2 : (9223372036854775807 < ((⟨#[45]⟩ : ByteArray)++t415).size+((⟨#[47]⟩ : ByteArray)++t416).size)=False:=eq_false (Nat.not_lt.2 c18)
   obtain rfl:=Option.some.inj H
   go_enter Tryd.func12,Tryd.ntmps12
   go_wp2_with (first|((with_reducible refine gate_dst (N:=1) rfl ?_);refine box_event ?hg (N:=1) ?hd (cs:=#[.bool a0_0,.slice A0_1 l0_1.length c0_1,.slice A0_2 l0_2.length c0_2]) (t:=25) ?hr ?_;(case hd=>rfl);(case hg=>rfl);(case hr=>first|(go_simp;done)|(go_simp;(with_reducible rfl))|(go_simp;rfl)|(go_simp;simp only [hu,Int.emod_sub_emod]));intro gb407 hg w19 hbox hb;have n0_:=Aside0.mk (below_step (Hu HB.out) hb);have n1_:=Aside0.mk (hbox);have n2_:=Aside0.mk ((by rw [hg];exact (below_size (Hu HB.out)) : w.heap.size≤gb407));have n3_:=Aside0.mk ((by rw [hg];exact (below_size (Hu HB.out)) : w.heap.size≤gb407));clear HB;have HB:=n0_;have BK407:=n1_;have GW407:=n2_;have GE407:=n3_;clear n0_ n1_ n2_ n3_;clear hb hbox hg;have hcz20_0 : w19.cell? ⟨gb407,0,none⟩=some (.bool a0_0):=(blk_cell BK407.out 0).trans rfl;have hcz20_1 : w19.cell? ⟨gb407,1,none⟩=some (.slice A0_1 l0_1.length c0_1):=(blk_cell BK407.out 1).trans rfl;have hcz20_2 : w19.cell? ⟨gb407,2,none⟩=some (.slice A0_2 l0_2.length c0_2):=(blk_cell BK407.out 2).trans rfl;have hfz20_0:=blk_frozen BK407.out 0;have hfz20_1:=blk_frozen BK407.out 1;have hfz20_2:=blk_frozen BK407.out 2)|((with_reducible refine gate_callee (f:=18) rfl ?_);refine goesL_ (some 6) rfl rfl Tryd.func18 (by kernel_rfl) rfl #[.agg #[.bool a0_0,.slice A0_1 l0_1.length c0_1,.slice A0_2 l0_2.length c0_2]] rfl (by (try simp only [List.map_toArray,List.map_cons,List.map_nil]);first|done|rfl) ?_;(with_reducible refine (rat_Read.calls k a0_0 _ _ l0_1 _ _ l0_2 true t409 t412 _ ?side1 ?side2 ?side3 ?side4 A2.out).mono ?_);(case side1=>repeat (first|exact (Kd.C_below HR0_1.out HB.out)|(with_reducible refine Kd.C_alloc ?_ _)|(with_reducible refine Kd.C_drewN ?_ _)|(with_reducible refine Kd.C_drew ?_)));(case side2=>exact HC0_1.out);(case side3=>repeat (first|exact (Kd.C_below HR0_2.out HB.out)|(with_reducible refine Kd.C_alloc ?_ _)|(with_reducible refine Kd.C_drewN ?_ _)|(with_reducible refine Kd.C_drew ?_)));(case side4=>exact HC0_2.out);rintro e w21 ⟨v410,v413,rfl,ho0,ho1,hb⟩;refine ⟨_,rfl,?_⟩;have n0_:=Aside0.mk (Kd.R_lower ho0 (below_size (by repeat (first|with_reducible exact HB.out|apply ba|apply bn|apply b1|refine below_set ?_ GE407.out))));have n1_:=Aside0.mk (Kd.R_lower ho1 (below_size (by repeat (first|with_reducible exact HB.out|apply ba|apply bn|apply b1|refine below_set ?_ GE407.out))));have n2_:=Aside0.mk (blk_below (g:=gb407) (o:=.cells #[.bool a0_0,.slice A0_1 l0_1.length c0_1,.slice A0_2 l0_2.length c0_2] 25 (0,0)) (Bu BK407.out) hb);have n3_:=Aside0.mk (below_step (by repeat (first|with_reducible exact HB.out|apply ba|apply bn|apply b1|refine below_set ?_ GE407.out)) hb);clear BK407;clear HB;have HO411:=n0_;have HO414:=n1_;have BK407:=n2_;have HB:=n3_;clear n0_ n1_ n2_ n3_;have hcz22_0 : w21.cell? ⟨gb407,0,none⟩=some (.bool a0_0):=(blk_cell BK407.out 0).trans rfl;have hcz22_1 : w21.cell? ⟨gb407,1,none⟩=some (.slice A0_1 l0_1.length c0_1):=(blk_cell BK407.out 1).trans rfl;have hcz22_2 : w21.cell? ⟨gb407,2,none⟩=some (.slice A0_2 l0_2.length c0_2):=(blk_cell BK407.out 2).trans rfl;have hfz22_0:=blk_frozen BK407.out 0;have hfz22_1:=blk_frozen BK407.out 1;have hfz22_2:=blk_frozen BK407.out 2;obtain ⟨Ao23,co23,eo23⟩:=Kd.R_slice HO411.out;subst eo23;obtain ⟨Ao24,co24,eo24⟩:=Kd.R_slice HO414.out;subst eo24)|((with_reducible refine gate_callee (f:=14) rfl ?_);refine goesL_ (some 9) rfl rfl Tryd.func14 (by kernel_rfl) rfl #[.slice Ao23 t409.length co23] rfl (by (try simp only [List.map_toArray,List.map_cons,List.map_nil]);first|done|rfl) ?_;(with_reducible refine (decimal_Natural.calls k _ _ t409 t415 _ ?side1 ?side2 A3.out).mono ?_);(case side1=>refine (Kd.R_reads' (e:=35) (base:=w.heap.size) (ok:=fun k_=>some k_≠(.slice Ao24 t412.length co24 : Value).ownBlock) (n:=t409.length) (c:=co23) ?_).2.2;exact (by (with_reducible repeat (first|apply Ra|apply Rn|apply Rd));exact (Kd.R_mono (Kd.R_far (p:=⟨gb407,2,none⟩) (Kd.R_far (p:=⟨gb407,1,none⟩) (Kd.R_far (p:=⟨gb407,0,none⟩) (Kd.R_types HO411.out BK407.out (by decide)) (fun _ hk=>hk.2) (.bool true)) (fun _ hk=>hk.2) (.slice Ao23 t409.length co23)) (fun _ hk=>hk.2) (.slice Ao24 t412.length co24)) (fun _ h_=>h_.1))));(case side2=>exact (Kd.R_reads' HO411.out).2.1);rintro e w25 ⟨rfl,hb⟩;refine ⟨_,rfl,?_⟩;have n0_:=Aside0.mk (Kd.R_below (by (with_reducible repeat (first|apply Ra|apply Rn|apply Rd));exact (Kd.R_mono (Kd.R_far (p:=⟨gb407,2,none⟩) (Kd.R_far (p:=⟨gb407,1,none⟩) (Kd.R_far (p:=⟨gb407,0,none⟩) (Kd.R_types HO411.out BK407.out (by decide)) (fun _ hk=>hk.2) (.bool true)) (fun _ hk=>hk.2) (.slice Ao23 t409.length co23)) (fun _ hk=>hk.2) (.slice Ao24 t412.length co24)) (fun _ h_=>h_.1))) hb);have n1_:=Aside0.mk (Kd.R_below (by (with_reducible repeat (first|apply Ra|apply Rn|apply Rd));exact (Kd.R_mono (Kd.R_far (p:=⟨gb407,2,none⟩) (Kd.R_far (p:=⟨gb407,1,none⟩) (Kd.R_far (p:=⟨gb407,0,none⟩) (Kd.R_types HO414.out BK407.out (by decide)) (fun _ hk=>hk.2) (.bool true)) (fun _ hk=>hk.2) (.slice Ao23 t409.length co23)) (fun _ hk=>hk.2) (.slice Ao24 t412.length co24)) (fun _ h_=>h_.1))) hb);have n2_:=Aside0.mk (blk_below (g:=gb407) (o:=.cells #[.bool true,.slice Ao23 t409.length co23,.slice Ao24 t412.length co24] 25 (0,0)) (by (with_reducible repeat (first|refine blk_drewN ?_ _|refine blk_drew ?_|refine blk_alloc ?_ _));refine blk_put (cs:=#[.bool true,.slice Ao23 t409.length co23,.slice A0_2 l0_2.length c0_2]) ?_ 2 _ rfl;(with_reducible repeat (first|refine blk_drewN ?_ _|refine blk_drew ?_|refine blk_alloc ?_ _));refine blk_put (cs:=#[.bool true,.slice A0_1 l0_1.length c0_1,.slice A0_2 l0_2.length c0_2]) ?_ 1 _ rfl;(with_reducible repeat (first|refine blk_drewN ?_ _|refine blk_drew ?_|refine blk_alloc ?_ _));refine blk_put (cs:=#[.bool a0_0,.slice A0_1 l0_1.length c0_1,.slice A0_2 l0_2.length c0_2]) ?_ 0 _ rfl;(with_reducible repeat (first|refine blk_drewN ?_ _|refine blk_drew ?_|refine blk_alloc ?_ _));exact BK407.out) hb);have n3_:=Aside0.mk (below_step (by repeat (first|with_reducible exact HB.out|apply ba|apply bn|apply b1|refine below_set ?_ GE407.out)) hb);clear HO411;clear HO414;clear BK407;clear HB;have HO411:=n0_;have HO414:=n1_;have BK407:=n2_;have HB:=n3_;clear n0_ n1_ n2_ n3_;have hcz26_0 : w25.cell? ⟨gb407,0,none⟩=some (.bool true):=(blk_cell BK407.out 0).trans rfl;have hcz26_1 : w25.cell? ⟨gb407,1,none⟩=some (.slice Ao23 t409.length co23):=(blk_cell BK407.out 1).trans rfl;have hcz26_2 : w25.cell? ⟨gb407,2,none⟩=some (.slice Ao24 t412.length co24):=(blk_cell BK407.out 2).trans rfl;have hfz26_0:=blk_frozen BK407.out 0;have hfz26_1:=blk_frozen BK407.out 1;have hfz26_2:=blk_frozen BK407.out 2)|((with_reducible refine gate_callee (f:=14) rfl ?_);refine goesL_ (some 16) rfl rfl Tryd.func14 (by kernel_rfl) rfl #[.slice Ao24 t412.length co24] rfl (by (try simp only [List.map_toArray,List.map_cons,List.map_nil]);first|done|rfl) ?_;(with_reducible refine (decimal_Natural.calls k _ _ t412 t416 _ ?side1 ?side2 A6.out).mono ?_);(case side1=>exact Cu (Kd.R_reads' HO414.out).2.2);(case side2=>exact (Kd.R_reads' HO414.out).2.1);rintro e w27 ⟨rfl,hb⟩;refine ⟨_,rfl,?_⟩;have n0_:=Aside0.mk (Kd.R_below (Ru HO411.out) hb);have n1_:=Aside0.mk (Kd.R_below (Ru HO414.out) hb);have n2_:=Aside0.mk (blk_below (g:=gb407) (o:=.cells #[.bool true,.slice Ao23 t409.length co23,.slice Ao24 t412.length co24] 25 (0,0)) (Bu BK407.out) hb);have n3_:=Aside0.mk (below_step (by repeat (first|with_reducible exact HB.out|apply ba|apply bn|apply b1|refine below_set ?_ GE407.out)) hb);clear HO411;clear HO414;clear BK407;clear HB;have HO411:=n0_;have HO414:=n1_;have BK407:=n2_;have HB:=n3_;clear n0_ n1_ n2_ n3_))
   go_ret
   exact ⟨by first|rfl|(simp [errW_none,errW_some] <;> rfl)|(simp [*,errW_none,errW_some] <;> rfl),by repeat (first|with_reducible exact HB.out|apply ba|apply bn|apply b1|refine below_set ?_ GE407.out)⟩
 ·replace c4:=Bool.eq_false_iff.mpr c4
  subst c4
  rw [if_neg (show ¬ (false=true) by decide)] at H
  replace H:=Option.bind_eq_some_iff.mp H
  obtain ⟨t417,A280,H⟩:=H
  try dsimp only at H
  have A28:=Aside0.mk A280
  clear A280
  by_cases c29 : t417.toList=([49] : List UInt8)
  ·rw [if_pos c29] at H
   have c29b0 : (t417.toList == ([49] : List UInt8))=true:=beq_iff_eq.mpr c29
   have c29b1 : (t417.toList != ([49] : List UInt8))=false:=bne_eq_false_iff_eq.mpr c29
   clear c29
   obtain rfl:=Option.some.inj H
   go_enter Tryd.func12,Tryd.ntmps12
   go_wp2_with (first|((with_reducible refine gate_dst (N:=1) rfl ?_);refine box_event ?hg (N:=1) ?hd (cs:=#[.bool a0_0,.slice A0_1 l0_1.length c0_1,.slice A0_2 l0_2.length c0_2]) (t:=25) ?hr ?_;(case hd=>rfl);(case hg=>rfl);(case hr=>first|(go_simp;done)|(go_simp;(with_reducible rfl))|(go_simp;rfl)|(go_simp;simp only [hu,Int.emod_sub_emod]));intro gb407 hg w30 hbox hb;have n0_:=Aside0.mk (below_step (Hu HB.out) hb);have n1_:=Aside0.mk (hbox);have n2_:=Aside0.mk ((by rw [hg];exact (below_size (Hu HB.out)) : w.heap.size≤gb407));have n3_:=Aside0.mk ((by rw [hg];exact (below_size (Hu HB.out)) : w.heap.size≤gb407));clear HB;have HB:=n0_;have BK407:=n1_;have GW407:=n2_;have GE407:=n3_;clear n0_ n1_ n2_ n3_;clear hb hbox hg;have hcz31_0 : w30.cell? ⟨gb407,0,none⟩=some (.bool a0_0):=(blk_cell BK407.out 0).trans rfl;have hcz31_1 : w30.cell? ⟨gb407,1,none⟩=some (.slice A0_1 l0_1.length c0_1):=(blk_cell BK407.out 1).trans rfl;have hcz31_2 : w30.cell? ⟨gb407,2,none⟩=some (.slice A0_2 l0_2.length c0_2):=(blk_cell BK407.out 2).trans rfl;have hfz31_0:=blk_frozen BK407.out 0;have hfz31_1:=blk_frozen BK407.out 1;have hfz31_2:=blk_frozen BK407.out 2)|((with_reducible refine gate_callee (f:=18) rfl ?_);refine goesL_ (some 6) rfl rfl Tryd.func18 (by kernel_rfl) rfl #[.agg #[.bool a0_0,.slice A0_1 l0_1.length c0_1,.slice A0_2 l0_2.length c0_2]] rfl (by (try simp only [List.map_toArray,List.map_cons,List.map_nil]);first|done|rfl) ?_;(with_reducible refine (rat_Read.calls k a0_0 _ _ l0_1 _ _ l0_2 false t409 t412 _ ?side1 ?side2 ?side3 ?side4 A2.out).mono ?_);(case side1=>repeat (first|exact (Kd.C_below HR0_1.out HB.out)|(with_reducible refine Kd.C_alloc ?_ _)|(with_reducible refine Kd.C_drewN ?_ _)|(with_reducible refine Kd.C_drew ?_)));(case side2=>exact HC0_1.out);(case side3=>repeat (first|exact (Kd.C_below HR0_2.out HB.out)|(with_reducible refine Kd.C_alloc ?_ _)|(with_reducible refine Kd.C_drewN ?_ _)|(with_reducible refine Kd.C_drew ?_)));(case side4=>exact HC0_2.out);rintro e w32 ⟨v410,v413,rfl,ho0,ho1,hb⟩;refine ⟨_,rfl,?_⟩;have n0_:=Aside0.mk (Kd.R_lower ho0 (below_size (by repeat (first|with_reducible exact HB.out|apply ba|apply bn|apply b1|refine below_set ?_ GE407.out))));have n1_:=Aside0.mk (Kd.R_lower ho1 (below_size (by repeat (first|with_reducible exact HB.out|apply ba|apply bn|apply b1|refine below_set ?_ GE407.out))));have n2_:=Aside0.mk (blk_below (g:=gb407) (o:=.cells #[.bool a0_0,.slice A0_1 l0_1.length c0_1,.slice A0_2 l0_2.length c0_2] 25 (0,0)) (Bu BK407.out) hb);have n3_:=Aside0.mk (below_step (by repeat (first|with_reducible exact HB.out|apply ba|apply bn|apply b1|refine below_set ?_ GE407.out)) hb);clear BK407;clear HB;have HO411:=n0_;have HO414:=n1_;have BK407:=n2_;have HB:=n3_;clear n0_ n1_ n2_ n3_;have hcz33_0 : w32.cell? ⟨gb407,0,none⟩=some (.bool a0_0):=(blk_cell BK407.out 0).trans rfl;have hcz33_1 : w32.cell? ⟨gb407,1,none⟩=some (.slice A0_1 l0_1.length c0_1):=(blk_cell BK407.out 1).trans rfl;have hcz33_2 : w32.cell? ⟨gb407,2,none⟩=some (.slice A0_2 l0_2.length c0_2):=(blk_cell BK407.out 2).trans rfl;have hfz33_0:=blk_frozen BK407.out 0;have hfz33_1:=blk_frozen BK407.out 1;have hfz33_2:=blk_frozen BK407.out 2;obtain ⟨Ao34,co34,eo34⟩:=Kd.R_slice HO411.out;subst eo34;obtain ⟨Ao35,co35,eo35⟩:=Kd.R_slice HO414.out;subst eo35)|((with_reducible refine gate_callee (f:=14) rfl ?_);refine goesL_ (some 9) rfl rfl Tryd.func14 (by kernel_rfl) rfl #[.slice Ao34 t409.length co34] rfl (by (try simp only [List.map_toArray,List.map_cons,List.map_nil]);first|done|rfl) ?_;(with_reducible refine (decimal_Natural.calls k _ _ t409 t415 _ ?side1 ?side2 A3.out).mono ?_);(case side1=>refine (Kd.R_reads' (e:=35) (base:=w.heap.size) (ok:=fun k_=>some k_≠(.slice Ao35 t412.length co35 : Value).ownBlock) (n:=t409.length) (c:=co34) ?_).2.2;exact (by (with_reducible repeat (first|apply Ra|apply Rn|apply Rd));exact (Kd.R_mono (Kd.R_far (p:=⟨gb407,2,none⟩) (Kd.R_far (p:=⟨gb407,1,none⟩) (Kd.R_far (p:=⟨gb407,0,none⟩) (Kd.R_types HO411.out BK407.out (by decide)) (fun _ hk=>hk.2) (.bool false)) (fun _ hk=>hk.2) (.slice Ao34 t409.length co34)) (fun _ hk=>hk.2) (.slice Ao35 t412.length co35)) (fun _ h_=>h_.1))));(case side2=>exact (Kd.R_reads' HO411.out).2.1);rintro e w36 ⟨rfl,hb⟩;refine ⟨_,rfl,?_⟩;have n0_:=Aside0.mk (Kd.R_below (by (with_reducible repeat (first|apply Ra|apply Rn|apply Rd));exact (Kd.R_mono (Kd.R_far (p:=⟨gb407,2,none⟩) (Kd.R_far (p:=⟨gb407,1,none⟩) (Kd.R_far (p:=⟨gb407,0,none⟩) (Kd.R_types HO411.out BK407.out (by decide)) (fun _ hk=>hk.2) (.bool false)) (fun _ hk=>hk.2) (.slice Ao34 t409.length co34)) (fun _ hk=>hk.2) (.slice Ao35 t412.length co35)) (fun _ h_=>h_.1))) hb);have n1_:=Aside0.mk (Kd.R_below (by (with_reducible repeat (first|apply Ra|apply Rn|apply Rd));exact (Kd.R_mono (Kd.R_far (p:=⟨gb407,2,none⟩) (Kd.R_far (p:=⟨gb407,1,none⟩) (Kd.R_far (p:=⟨gb407,0,none⟩) (Kd.R_types HO414.out BK407.out (by decide)) (fun _ hk=>hk.2) (.bool false)) (fun _ hk=>hk.2) (.slice Ao34 t409.length co34)) (fun _ hk=>hk.2) (.slice Ao35 t412.length co35)) (fun _ h_=>h_.1))) hb);have n2_:=Aside0.mk (blk_below (g:=gb407) (o:=.cells #[.bool false,.slice Ao34 t409.length co34,.slice Ao35 t412.length co35] 25 (0,0)) (by (with_reducible repeat (first|refine blk_drewN ?_ _|refine blk_drew ?_|refine blk_alloc ?_ _));refine blk_put (cs:=#[.bool false,.slice Ao34 t409.length co34,.slice A0_2 l0_2.length c0_2]) ?_ 2 _ rfl;(with_reducible repeat (first|refine blk_drewN ?_ _|refine blk_drew ?_|refine blk_alloc ?_ _));refine blk_put (cs:=#[.bool false,.slice A0_1 l0_1.length c0_1,.slice A0_2 l0_2.length c0_2]) ?_ 1 _ rfl;(with_reducible repeat (first|refine blk_drewN ?_ _|refine blk_drew ?_|refine blk_alloc ?_ _));refine blk_put (cs:=#[.bool a0_0,.slice A0_1 l0_1.length c0_1,.slice A0_2 l0_2.length c0_2]) ?_ 0 _ rfl;(with_reducible repeat (first|refine blk_drewN ?_ _|refine blk_drew ?_|refine blk_alloc ?_ _));exact BK407.out) hb);have n3_:=Aside0.mk (below_step (by repeat (first|with_reducible exact HB.out|apply ba|apply bn|apply b1|refine below_set ?_ GE407.out)) hb);clear HO411;clear HO414;clear BK407;clear HB;have HO411:=n0_;have HO414:=n1_;have BK407:=n2_;have HB:=n3_;clear n0_ n1_ n2_ n3_;have hcz37_0 : w36.cell? ⟨gb407,0,none⟩=some (.bool false):=(blk_cell BK407.out 0).trans rfl;have hcz37_1 : w36.cell? ⟨gb407,1,none⟩=some (.slice Ao34 t409.length co34):=(blk_cell BK407.out 1).trans rfl;have hcz37_2 : w36.cell? ⟨gb407,2,none⟩=some (.slice Ao35 t412.length co35):=(blk_cell BK407.out 2).trans rfl;have hfz37_0:=blk_frozen BK407.out 0;have hfz37_1:=blk_frozen BK407.out 1;have hfz37_2:=blk_frozen BK407.out 2)|((with_reducible refine gate_callee (f:=14) rfl ?_);refine goesL_ (some 16) rfl rfl Tryd.func14 (by kernel_rfl) rfl #[.slice Ao35 t412.length co35] rfl (by (try simp only [List.map_toArray,List.map_cons,List.map_nil]);first|done|rfl) ?_;(with_reducible refine (decimal_Natural.calls k _ _ t412 t417 _ ?side1 ?side2 A28.out).mono ?_);(case side1=>exact Cu (Kd.R_reads' HO414.out).2.2);(case side2=>exact (Kd.R_reads' HO414.out).2.1);rintro e w38 ⟨rfl,hb⟩;refine ⟨_,rfl,?_⟩;have n0_:=Aside0.mk (Kd.R_below (Ru HO411.out) hb);have n1_:=Aside0.mk (Kd.R_below (Ru HO414.out) hb);have n2_:=Aside0.mk (blk_below (g:=gb407) (o:=.cells #[.bool false,.slice Ao34 t409.length co34,.slice Ao35 t412.length co35] 25 (0,0)) (Bu BK407.out) hb);have n3_:=Aside0.mk (below_step (by repeat (first|with_reducible exact HB.out|apply ba|apply bn|apply b1|refine below_set ?_ GE407.out)) hb);clear HO411;clear HO414;clear BK407;clear HB;have HO411:=n0_;have HO414:=n1_;have BK407:=n2_;have HB:=n3_;clear n0_ n1_ n2_ n3_))
   go_ret
   exact ⟨by first|rfl|(simp [errW_none,errW_some] <;> rfl)|(simp [*,errW_none,errW_some] <;> rfl),by repeat (first|with_reducible exact HB.out|apply ba|apply bn|apply b1|refine below_set ?_ GE407.out)⟩
  ·rw [if_neg c29] at H
   have c29b0 : (t417.toList == ([49] : List UInt8))=false:=beq_eq_false_iff_ne.mpr c29
   have c29b1 : (t417.toList != ([49] : List UInt8))=true:=bne_iff_ne.mpr c29
   by_cases c39 : 1+t417.size≤9223372036854775807
   case neg =>rw [if_neg c39] at H;exact absurd H (by simp)
   rw [if_pos c39] at H
   have c39b0:=eq_true c39
   have c39b1 : decide (1+t417.size≤9223372036854775807)=true:=decide_eq_true c39
   try have c39b2 : (9223372036854775807 < 1+t417.size)=False:=eq_false (Nat.not_lt.2 c39)
   by_cases c40 : t415.size+((⟨#[47]⟩ : ByteArray)++t417).size≤9223372036854775807
   case neg =>rw [if_neg c40] at H;exact absurd H (by simp)
   rw [if_pos c40] at H
   have c40b0:=eq_true c40
   have c40b1 : decide (t415.size+((⟨#[47]⟩ : ByteArray)++t417).size≤9223372036854775807)=true:=decide_eq_true c40
   try have c40b2 : (9223372036854775807 < t415.size+((⟨#[47]⟩ : ByteArray)++t417).size)=False:=eq_false (Nat.not_lt.2 c40)
   obtain rfl:=Option.some.inj H
   go_enter Tryd.func12,Tryd.ntmps12
   go_wp2_with (first|((with_reducible refine gate_dst (N:=1) rfl ?_);refine box_event ?hg (N:=1) ?hd (cs:=#[.bool a0_0,.slice A0_1 l0_1.length c0_1,.slice A0_2 l0_2.length c0_2]) (t:=25) ?hr ?_;(case hd=>rfl);(case hg=>rfl);(case hr=>first|(go_simp;done)|(go_simp;(with_reducible rfl))|(go_simp;rfl)|(go_simp;simp only [hu,Int.emod_sub_emod]));intro gb407 hg w41 hbox hb;have n0_:=Aside0.mk (below_step (Hu HB.out) hb);have n1_:=Aside0.mk (hbox);have n2_:=Aside0.mk ((by rw [hg];exact (below_size (Hu HB.out)) : w.heap.size≤gb407));have n3_:=Aside0.mk ((by rw [hg];exact (below_size (Hu HB.out)) : w.heap.size≤gb407));clear HB;have HB:=n0_;have BK407:=n1_;have GW407:=n2_;have GE407:=n3_;clear n0_ n1_ n2_ n3_;clear hb hbox hg;have hcz42_0 : w41.cell? ⟨gb407,0,none⟩=some (.bool a0_0):=(blk_cell BK407.out 0).trans rfl;have hcz42_1 : w41.cell? ⟨gb407,1,none⟩=some (.slice A0_1 l0_1.length c0_1):=(blk_cell BK407.out 1).trans rfl;have hcz42_2 : w41.cell? ⟨gb407,2,none⟩=some (.slice A0_2 l0_2.length c0_2):=(blk_cell BK407.out 2).trans rfl;have hfz42_0:=blk_frozen BK407.out 0;have hfz42_1:=blk_frozen BK407.out 1;have hfz42_2:=blk_frozen BK407.out 2)|((with_reducible refine gate_callee (f:=18) rfl ?_);refine goesL_ (some 6) rfl rfl Tryd.func18 (by kernel_rfl) rfl #[.agg #[.bool a0_0,.slice A0_1 l0_1.length c0_1,.slice A0_2 l0_2.length c0_2]] rfl (by (try simp only [List.map_toArray,List.map_cons,List.map_nil]);first|done|rfl) ?_;(with_reducible refine (rat_Read.calls k a0_0 _ _ l0_1 _ _ l0_2 false t409 t412 _ ?side1 ?side2 ?side3 ?side4 A2.out).mono ?_);(case side1=>repeat (first|exact (Kd.C_below HR0_1.out HB.out)|(with_reducible refine Kd.C_alloc ?_ _)|(with_reducible refine Kd.C_drewN ?_ _)|(with_reducible refine Kd.C_drew ?_)));(case side2=>exact HC0_1.out);(case side3=>repeat (first|exact (Kd.C_below HR0_2.out HB.out)|(with_reducible refine Kd.C_alloc ?_ _)|(with_reducible refine Kd.C_drewN ?_ _)|(with_reducible refine Kd.C_drew ?_)));(case side4=>exact HC0_2.out);rintro e w43 ⟨v410,v413,rfl,ho0,ho1,hb⟩;refine ⟨_,rfl,?_⟩;have n0_:=Aside0.mk (Kd.R_lower ho0 (below_size (by repeat (first|with_reducible exact HB.out|apply ba|apply bn|apply b1|refine below_set ?_ GE407.out))));have n1_:=Aside0.mk (Kd.R_lower ho1 (below_size (by repeat (first|with_reducible exact HB.out|apply ba|apply bn|apply b1|refine below_set ?_ GE407.out))));have n2_:=Aside0.mk (blk_below (g:=gb407) (o:=.cells #[.bool a0_0,.slice A0_1 l0_1.length c0_1,.slice A0_2 l0_2.length c0_2] 25 (0,0)) (Bu BK407.out) hb);have n3_:=Aside0.mk (below_step (by repeat (first|with_reducible exact HB.out|apply ba|apply bn|apply b1|refine below_set ?_ GE407.out)) hb);clear BK407;clear HB;have HO411:=n0_;have HO414:=n1_;have BK407:=n2_;have HB:=n3_;clear n0_ n1_ n2_ n3_;have hcz44_0 : w43.cell? ⟨gb407,0,none⟩=some (.bool a0_0):=(blk_cell BK407.out 0).trans rfl;have hcz44_1 : w43.cell? ⟨gb407,1,none⟩=some (.slice A0_1 l0_1.length c0_1):=(blk_cell BK407.out 1).trans rfl;have hcz44_2 : w43.cell? ⟨gb407,2,none⟩=some (.slice A0_2 l0_2.length c0_2):=(blk_cell BK407.out 2).trans rfl;have hfz44_0:=blk_frozen BK407.out 0;have hfz44_1:=blk_frozen BK407.out 1;have hfz44_2:=blk_frozen BK407.out 2;obtain ⟨Ao45,co45,eo45⟩:=Kd.R_slice HO411.out;subst eo45;obtain ⟨Ao46,co46,eo46⟩:=Kd.R_slice HO414.out;subst eo46)|((with_reducible refine gate_callee (f:=14) rfl ?_);refine goesL_ (some 9) rfl rfl Tryd.func14 (by kernel_rfl) rfl #[.slice Ao45 t409.length co45] rfl (by (try simp only [List.map_toArray,List.map_cons,List.map_nil]);first|done|rfl) ?_;(with_reducible refine (decimal_Natural.calls k _ _ t409 t415 _ ?side1 ?side2 A3.out).mono ?_);(case side1=>refine (Kd.R_reads' (e:=35) (base:=w.heap.size) (ok:=fun k_=>some k_≠(.slice Ao46 t412.length co46 : Value).ownBlock) (n:=t409.length) (c:=co45) ?_).2.2;exact (by (with_reducible repeat (first|apply Ra|apply Rn|apply Rd));exact (Kd.R_mono (Kd.R_far (p:=⟨gb407,2,none⟩) (Kd.R_far (p:=⟨gb407,1,none⟩) (Kd.R_far (p:=⟨gb407,0,none⟩) (Kd.R_types HO411.out BK407.out (by decide)) (fun _ hk=>hk.2) (.bool false)) (fun _ hk=>hk.2) (.slice Ao45 t409.length co45)) (fun _ hk=>hk.2) (.slice Ao46 t412.length co46)) (fun _ h_=>h_.1))));(case side2=>exact (Kd.R_reads' HO411.out).2.1);rintro e w47 ⟨rfl,hb⟩;refine ⟨_,rfl,?_⟩;have n0_:=Aside0.mk (Kd.R_below (by (with_reducible repeat (first|apply Ra|apply Rn|apply Rd));exact (Kd.R_mono (Kd.R_far (p:=⟨gb407,2,none⟩) (Kd.R_far (p:=⟨gb407,1,none⟩) (Kd.R_far (p:=⟨gb407,0,none⟩) (Kd.R_types HO411.out BK407.out (by decide)) (fun _ hk=>hk.2) (.bool false)) (fun _ hk=>hk.2) (.slice Ao45 t409.length co45)) (fun _ hk=>hk.2) (.slice Ao46 t412.length co46)) (fun _ h_=>h_.1))) hb);have n1_:=Aside0.mk (Kd.R_below (by (with_reducible repeat (first|apply Ra|apply Rn|apply Rd));exact (Kd.R_mono (Kd.R_far (p:=⟨gb407,2,none⟩) (Kd.R_far (p:=⟨gb407,1,none⟩) (Kd.R_far (p:=⟨gb407,0,none⟩) (Kd.R_types HO414.out BK407.out (by decide)) (fun _ hk=>hk.2) (.bool false)) (fun _ hk=>hk.2) (.slice Ao45 t409.length co45)) (fun _ hk=>hk.2) (.slice Ao46 t412.length co46)) (fun _ h_=>h_.1))) hb);have n2_:=Aside0.mk (blk_below (g:=gb407) (o:=.cells #[.bool false,.slice Ao45 t409.length co45,.slice Ao46 t412.length co46] 25 (0,0)) (by (with_reducible repeat (first|refine blk_drewN ?_ _|refine blk_drew ?_|refine blk_alloc ?_ _));refine blk_put (cs:=#[.bool false,.slice Ao45 t409.length co45,.slice A0_2 l0_2.length c0_2]) ?_ 2 _ rfl;(with_reducible repeat (first|refine blk_drewN ?_ _|refine blk_drew ?_|refine blk_alloc ?_ _));refine blk_put (cs:=#[.bool false,.slice A0_1 l0_1.length c0_1,.slice A0_2 l0_2.length c0_2]) ?_ 1 _ rfl;(with_reducible repeat (first|refine blk_drewN ?_ _|refine blk_drew ?_|refine blk_alloc ?_ _));refine blk_put (cs:=#[.bool a0_0,.slice A0_1 l0_1.length c0_1,.slice A0_2 l0_2.length c0_2]) ?_ 0 _ rfl;(with_reducible repeat (first|refine blk_drewN ?_ _|refine blk_drew ?_|refine blk_alloc ?_ _));exact BK407.out) hb);have n3_:=Aside0.mk (below_step (by repeat (first|with_reducible exact HB.out|apply ba|apply bn|apply b1|refine below_set ?_ GE407.out)) hb);clear HO411;clear HO414;clear BK407;clear HB;have HO411:=n0_;have HO414:=n1_;have BK407:=n2_;have HB:=n3_;clear n0_ n1_ n2_ n3_;have hcz48_0 : w47.cell? ⟨gb407,0,none⟩=some (.bool false):=(blk_cell BK407.out 0).trans rfl;have hcz48_1 : w47.cell? ⟨gb407,1,none⟩=some (.slice Ao45 t409.length co45):=(blk_cell BK407.out 1).trans rfl;have hcz48_2 : w47.cell? ⟨gb407,2,none⟩=some (.slice Ao46 t412.length co46):=(blk_cell BK407.out 2).trans rfl;have hfz48_0:=blk_frozen BK407.out 0;have hfz48_1:=blk_frozen BK407.out 1;have hfz48_2:=blk_frozen BK407.out 2)|((with_reducible refine gate_callee (f:=14) rfl ?_);refine goesL_ (some 16) rfl rfl Tryd.func14 (by kernel_rfl) rfl #[.slice Ao46 t412.length co46] rfl (by (try simp only [List.map_toArray,List.map_cons,List.map_nil]);first|done|rfl) ?_;(with_reducible refine (decimal_Natural.calls k _ _ t412 t417 _ ?side1 ?side2 A28.out).mono ?_);(case side1=>exact Cu (Kd.R_reads' HO414.out).2.2);(case side2=>exact (Kd.R_reads' HO414.out).2.1);rintro e w49 ⟨rfl,hb⟩;refine ⟨_,rfl,?_⟩;have n0_:=Aside0.mk (Kd.R_below (Ru HO411.out) hb);have n1_:=Aside0.mk (Kd.R_below (Ru HO414.out) hb);have n2_:=Aside0.mk (blk_below (g:=gb407) (o:=.cells #[.bool false,.slice Ao45 t409.length co45,.slice Ao46 t412.length co46] 25 (0,0)) (Bu BK407.out) hb);have n3_:=Aside0.mk (below_step (by repeat (first|with_reducible exact HB.out|apply ba|apply bn|apply b1|refine below_set ?_ GE407.out)) hb);clear HO411;clear HO414;clear BK407;clear HB;have HO411:=n0_;have HO414:=n1_;have BK407:=n2_;have HB:=n3_;clear n0_ n1_ n2_ n3_))
   go_ret
   exact ⟨by first|rfl|(simp [errW_none,errW_some] <;> rfl)|(simp [*,errW_none,errW_some] <;> rfl),by repeat (first|with_reducible exact HB.out|apply ba|apply bn|apply b1|refine below_set ?_ GE407.out)⟩
end Go.Proofs.YtncdiodnbkhacaaDoor.Pq
end
end
section
section
namespace Go.Proofs.YtncdiodnbkhacaaDoor.Pq
open Go.RowKit Go.Proofs.YtncdiodnbkhacaaDoorW.PrintWords Go.Proofs.YtncdiodnbkhacaaDoorW.PrintLast Go.Proofs.YtncdiodnbkhacaaDoorW.PrintMore
attribute [local go_sem] max2_int min2_int max_two min_two max_three min_three max_four min_four
set_option linter.unusedVariables false
set_option linter.unusedSimpArgs false
set_option maxHeartbeats 8000000
set_option maxRecDepth 100000
theorem penumbraref01_Same.mono_l : ∀ k,(∀ y0 y1 y2,LeO (penumbraref01_Same.l0 k y0 y1 y2) (penumbraref01_Same.l0 (k+1) y0 y1 y2))
|0=>fun _ _ _ r h=>by simp [penumbraref01_Same.l0] at h
|k+1=>by
  have ih0:=penumbraref01_Same.mono_l k
  ·intro y0 y1 y2
   unfold penumbraref01_Same.l0
   with_reducible repeat' first
  |exact ih0 _ _ _
  |exact LeO.refl _
  |exact LeO.none _
  |refine LeO.ite ?_ ?_
  |refine LeO.bind ?_ (fun _=>?_)
theorem penumbraref01_Same.mono : ∀ a0 a1 k,LeO (penumbraref01_Same.f k a0 a1) (penumbraref01_Same.f (k+1) a0 a1):=by
 intro a0 a1 k
 have ih0:=penumbraref01_Same.mono_l k
 unfold penumbraref01_Same.f
 with_reducible repeat' first
  |exact ih0 _ _ _
  |exact LeO.refl _
  |exact LeO.none _
  |refine LeO.ite ?_ ?_
  |refine LeO.bind ?_ (fun _=>?_)
theorem penumbraref01_Same.calls (k : Nat) (A0 : Option Addr) (c0 : Nat) (l0 : List Int) (A1 : Option Addr) (c1 : Nat) (l1 : List Int) (r : Bool) (w : World) (hr0 : Kd.C (Kd.int .u32) w A0 l0.length l0) (hc0 : l0.length≤c0) (hr1 : Kd.C (Kd.int .u32) w A1 l1.length l1) (hc1 : l1.length≤c1) (h : penumbraref01_Same.f k l0 l1=some r) :
  Calls Tryd.prog 35 #[.slice A0 l0.length c0,.slice A1 l1.length c1] w fun e w'=>e=.returned (.bool r)∧Drawn0 w w':=by
 have HR0:=Aside0.mk hr0
 have HC0:=Aside0.mk hc0
 clear hr0 hc0
 have HR1:=Aside0.mk hr1
 have HC1:=Aside0.mk hc1
 clear hr1 hc1
 have H : (if (l0.length : Int)=(l1.length : Int) then (penumbraref01_Same.l0 k l0 l1 0) else (some false))=some r:=h
 clear h
 by_cases c3 : (l0.length : Int)=(l1.length : Int)
 ·rw [if_pos c3] at H
  have c3b0 : ((l0.length : Int) == (l1.length : Int))=true:=beq_iff_eq.mpr c3
  have c3b1 : ((l0.length : Int) != (l1.length : Int))=false:=bne_eq_false_iff_eq.mpr c3
  have c3b2 : (l0.length == l1.length)=true:=by first|simpa using c3|(simp at c3 ⊢;omega)
  clear c3
  have H':=Aside0.mk H
  clear H
  go_enter Tryd.func35,Tryd.ntmps35
  go_wp2
  go_loopg [5] k (fun kq v5 w'=>∃ (x5_1 : Int),v5=.int .i64 x5_1∧Aside0 (penumbraref01_Same.l0 kq l0 l1 x5_1=some r)∧Aside0 (kq≤k)∧Drawn0 w w')
  case atStart=>exact ⟨(0),(by first|rfl|(simp;done)|(simp [*];done)),H',⟨Nat.le_refl _⟩,by repeat (first|exact Drawn0.refl _|apply Drawn0.step)⟩
  case round =>
   clear H'
   obtain ⟨x5_1,rfl,HA,HK1,⟨m1,rfl⟩⟩:=hrel
   cases gk with
  |zero=>exact absurd HA.out (by simp [penumbraref01_Same.l0])
  |succ k1 =>
    have H:=HA.out
    clear HA
    simp only [penumbraref01_Same.l0] at H
    by_cases c4 : x5_1 < (l0.length : Int)
    ·rw [if_pos c4] at H
     have c4b0 : decide (x5_1 < (l0.length : Int))=true:=decide_eq_true c4
     clear c4
     by_cases c5 : 0≤x5_1
     case neg =>rw [if_neg c5] at H;exact absurd H (by simp)
     rw [if_pos c5] at H
     have c5b0 : decide (0≤x5_1)=true:=decide_eq_true c5
     clear c5
     by_cases c6 : x5_1 < (l1.length : Int)
     case neg =>rw [if_neg c6] at H;exact absurd H (by simp)
     rw [if_pos c6] at H
     have c6b0 : decide (x5_1 < (l1.length : Int))=true:=decide_eq_true c6
     clear c6
     by_cases c7 : (rd l0 x5_1)=(rd l1 x5_1)
     ·rw [if_pos c7] at H
      have c7b0 : ((rd l0 x5_1) == (rd l1 x5_1))=true:=beq_iff_eq.mpr c7
      have c7b1 : ((rd l0 x5_1) != (rd l1 x5_1))=false:=bne_eq_false_iff_eq.mpr c7
      clear c7
      have H':=Aside0.mk H
      clear H
      have p401 : 0≤(x5_1 : Int):=of_decide_eq_true (by assumption)
      have q401 : x5_1 < (l0.length : Int):=of_decide_eq_true (by assumption)
      obtain ⟨ad401,e401,hx401_0⟩:=Kd.at_int HR0.out x5_1 p401 q401
      cases e401
      replace p401:=eq_true p401
      replace q401:=eq_true q401
      have p402 : 0≤(x5_1 : Int):=of_decide_eq_true (by assumption)
      have q402 : x5_1 < (l1.length : Int):=of_decide_eq_true (by assumption)
      obtain ⟨ad402,e402,hx402_0⟩:=Kd.at_int HR1.out x5_1 p402 q402
      cases e402
      replace p402:=eq_true p402
      replace q402:=eq_true q402
      go_wp2
      repeat (go_quiet (fail);try go_wp2)
      go_roundg k1
      case measure=>have:=HK1.out;omega
      case rel=>exact ⟨(wrap64 (x5_1+1)),(by first|rfl|(simp;done)|(simp [*];done)),H',⟨by have:=HK1.out;omega⟩,by repeat (first|exact Drawn0.refl _|apply Drawn0.step)⟩
     ·rw [if_neg c7] at H
      have c7b0 : ((rd l0 x5_1) == (rd l1 x5_1))=false:=beq_eq_false_iff_ne.mpr c7
      have c7b1 : ((rd l0 x5_1) != (rd l1 x5_1))=true:=bne_iff_ne.mpr c7
      obtain rfl:=Option.some.inj H
      have p401 : 0≤(x5_1 : Int):=of_decide_eq_true (by assumption)
      have q401 : x5_1 < (l0.length : Int):=of_decide_eq_true (by assumption)
      obtain ⟨ad401,e401,hx401_0⟩:=Kd.at_int HR0.out x5_1 p401 q401
      cases e401
      replace p401:=eq_true p401
      replace q401:=eq_true q401
      have p402 : 0≤(x5_1 : Int):=of_decide_eq_true (by assumption)
      have q402 : x5_1 < (l1.length : Int):=of_decide_eq_true (by assumption)
      obtain ⟨ad402,e402,hx402_0⟩:=Kd.at_int HR1.out x5_1 p402 q402
      cases e402
      replace p402:=eq_true p402
      replace q402:=eq_true q402
      go_wp2
      repeat (go_quiet (fail);try go_wp2)
      go_ret
      exact ⟨by first|rfl|(simp;done)|(simp [*];done),by repeat (first|exact Drawn0.refl _|apply Drawn0.step)⟩
    ·rw [if_neg c4] at H
     have c4b0 : decide (x5_1 < (l0.length : Int))=false:=decide_eq_false c4
     clear c4
     obtain rfl:=Option.some.inj H
     go_wp2
     go_ret
     exact ⟨by first|rfl|(simp;done)|(simp [*];done),by repeat (first|exact Drawn0.refl _|apply Drawn0.step)⟩
 ·rw [if_neg c3] at H
  have c3b0 : ((l0.length : Int) == (l1.length : Int))=false:=beq_eq_false_iff_ne.mpr c3
  have c3b1 : ((l0.length : Int) != (l1.length : Int))=true:=bne_iff_ne.mpr c3
  have c3b2 : (l0.length == l1.length)=false:=by first|simpa using c3|(simp at c3 ⊢;omega)
  obtain rfl:=Option.some.inj H
  go_enter Tryd.func35,Tryd.ntmps35
  go_wp2
  go_ret
  exact ⟨by first|rfl|(simp;done)|(simp [*];done),by repeat (first|exact Drawn0.refl _|apply Drawn0.step)⟩
end Go.Proofs.YtncdiodnbkhacaaDoor.Pq
end
end
section
section
namespace Go.Proofs.YtncdiodnbkhacaaDoor.Pq
open Go.RowKit Go.Proofs.YtncdiodnbkhacaaDoorW.PrintWords Go.Proofs.YtncdiodnbkhacaaDoorW.PrintLast Go.Proofs.YtncdiodnbkhacaaDoorW.PrintMore
attribute [local go_sem] max2_int min2_int max_two min_two max_three min_three max_four min_four
set_option linter.unusedVariables false
set_option linter.unusedSimpArgs false
set_option maxHeartbeats 8000000
set_option maxRecDepth 100000
theorem penumbraref03_Is.mono : ∀ a0 a1 a2 a3 a4 a5 k,LeO (penumbraref03_Is.f k a0 a1 a2 a3 a4 a5) (penumbraref03_Is.f (k+1) a0 a1 a2 a3 a4 a5):=by
 intro a0 a1 a2 a3 a4 a5 k
 unfold penumbraref03_Is.f
 with_reducible repeat' first
  |exact penumbraref01_Same.mono _ _ _
  |exact LeO.refl _
  |exact LeO.none _
  |refine LeO.ite ?_ ?_
  |refine LeO.bind ?_ (fun _=>?_)
theorem penumbraref03_Is.calls (k : Nat) (a0_0 : Bool) (A0_1 : Option Addr) (c0_1 : Nat) (l0_1 : List Int) (A0_2 : Option Addr) (c0_2 : Nat) (l0_2 : List Int) (a1_0 : Bool) (A1_1 : Option Addr) (c1_1 : Nat) (l1_1 : List Int) (A1_2 : Option Addr) (c1_2 : Nat) (l1_2 : List Int) (r : Bool) (w : World) (hr0_1 : Kd.C (Kd.int .u32) w A0_1 l0_1.length l0_1) (hc0_1 : l0_1.length≤c0_1) (hr0_2 : Kd.C (Kd.int .u32) w A0_2 l0_2.length l0_2) (hc0_2 : l0_2.length≤c0_2) (hr1_1 : Kd.C (Kd.int .u32) w A1_1 l1_1.length l1_1) (hc1_1 : l1_1.length≤c1_1) (hr1_2 : Kd.C (Kd.int .u32) w A1_2 l1_2.length l1_2) (hc1_2 : l1_2.length≤c1_2) (h : penumbraref03_Is.f k a0_0 l0_1 l0_2 a1_0 l1_1 l1_2=some r) :
  Calls Tryd.prog 11 #[.agg #[.bool a0_0,.slice A0_1 l0_1.length c0_1,.slice A0_2 l0_2.length c0_2],.agg #[.bool a1_0,.slice A1_1 l1_1.length c1_1,.slice A1_2 l1_2.length c1_2]] w fun e w'=>e=.returned (.bool r)∧Below w.heap.size w w':=by
 have hu25:=Tryd.underlying25
 have HR0_1:=Aside0.mk hr0_1
 have HC0_1:=Aside0.mk hc0_1
 clear hr0_1 hc0_1
 have HR0_2:=Aside0.mk hr0_2
 have HC0_2:=Aside0.mk hc0_2
 clear hr0_2 hc0_2
 have HR1_1:=Aside0.mk hr1_1
 have HC1_1:=Aside0.mk hc1_1
 clear hr1_1 hc1_1
 have HR1_2:=Aside0.mk hr1_2
 have HC1_2:=Aside0.mk hc1_2
 clear hr1_2 hc1_2
 have HB:=Aside0.mk (Below.refl w.heap.size w)
 have H : (if (a0_0 == a1_0)=true then ((penumbraref01_Same.f k l0_1 l1_1).bind fun t405=>(if t405=true then ((penumbraref01_Same.f k l0_2 l1_2).bind fun t406=>(some t406)) else (some false))) else (some false))=some r:=h
 clear h
 by_cases c3 : (a0_0 == a1_0)=true
 ·rw [if_pos c3] at H
  have c3b0 : (a0_0 == a1_0)=true:=c3
  (try (have c3b1 : decide (a0_0=a1_0)=true:=by simpa using c3))
  (try (have c3b2 : (a0_0 == a1_0)=true:=by simpa using c3))
  clear c3
  replace H:=Option.bind_eq_some_iff.mp H
  obtain ⟨t405,A40,H⟩:=H
  try dsimp only at H
  have A4:=Aside0.mk A40
  clear A40
  by_cases c5 : t405=true
  ·subst c5
   rw [if_pos rfl] at H
   replace H:=Option.bind_eq_some_iff.mp H
   obtain ⟨t406,A60,H⟩:=H
   try dsimp only at H
   have A6:=Aside0.mk A60
   clear A60
   obtain rfl:=Option.some.inj H
   go_enter Tryd.func11,Tryd.ntmps11
   go_wp2_with (first|((with_reducible refine gate_dst (N:=2) rfl ?_);refine box_event ?hg (N:=2) ?hd (cs:=#[.bool a0_0,.slice A0_1 l0_1.length c0_1,.slice A0_2 l0_2.length c0_2]) (t:=25) ?hr ?_;(case hd=>rfl);(case hg=>rfl);(case hr=>first|(go_simp;done)|(go_simp;(with_reducible rfl))|(go_simp;rfl)|(go_simp;simp only [hu,Int.emod_sub_emod]));intro gb403 hg w7 hbox hb;have n0_:=Aside0.mk (below_step (Hu HB.out) hb);have n1_:=Aside0.mk (hbox);have n2_:=Aside0.mk ((by rw [hg];exact (below_size (Hu HB.out)) : w.heap.size≤gb403));have n3_:=Aside0.mk ((by rw [hg];exact (below_size (Hu HB.out)) : w.heap.size≤gb403));clear HB;have HB:=n0_;have BK403:=n1_;have GW403:=n2_;have GE403:=n3_;clear n0_ n1_ n2_ n3_;clear hb hbox hg)|((with_reducible refine gate_dst (N:=3) rfl ?_);refine box_event ?hg (N:=3) ?hd (cs:=#[.bool a1_0,.slice A1_1 l1_1.length c1_1,.slice A1_2 l1_2.length c1_2]) (t:=25) ?hr ?_;(case hd=>rfl);(case hg=>rfl);(case hr=>first|(go_simp;done)|(go_simp;(with_reducible rfl))|(go_simp;rfl)|(go_simp;simp only [hu,Int.emod_sub_emod]));intro gb404 hg w8 hbox hb;have n0_:=Aside0.mk (blk_below (g:=gb403) (o:=.cells #[.bool a0_0,.slice A0_1 l0_1.length c0_1,.slice A0_2 l0_2.length c0_2] 25 (0,0)) (Bu BK403.out) hb);have n1_:=Aside0.mk (below_step (by repeat (first|with_reducible exact HB.out|apply ba|apply bn|apply b1|refine below_set ?_ GE403.out)) hb);have n2_:=Aside0.mk (hbox);have n3_:=Aside0.mk ((by rw [hg];exact (below_size (by repeat (first|with_reducible exact HB.out|apply ba|apply bn|apply b1|refine below_set ?_ GE403.out))) : w.heap.size≤gb404));have n4_:=Aside0.mk ((by rw [hg];exact (below_size (by repeat (first|with_reducible exact HB.out|apply ba|apply bn|apply b1|refine below_set ?_ GE403.out))) : w.heap.size≤gb404));have n5_:=Aside0.mk ((by rw [hg];exact Nat.ne_of_lt (blk_lt (g:=gb403) (o:=.cells #[.bool a0_0,.slice A0_1 l0_1.length c0_1,.slice A0_2 l0_2.length c0_2] 25 (0,0)) (Bu BK403.out)) : gb403≠gb404));have n6_:=Aside0.mk ((by rw [hg];exact Nat.ne_of_gt (blk_lt (g:=gb403) (o:=.cells #[.bool a0_0,.slice A0_1 l0_1.length c0_1,.slice A0_2 l0_2.length c0_2] 25 (0,0)) (Bu BK403.out)) : gb404≠gb403));clear BK403;clear HB;have BK403:=n0_;have HB:=n1_;have BK404:=n2_;have GW404:=n3_;have GE404:=n4_;have NB403_404:=n5_;have NB404_403:=n6_;clear n0_ n1_ n2_ n3_ n4_ n5_ n6_;clear hb hbox hg;have hnb9:=NB403_404.out;have hnc9:=NB404_403.out;have hcz10_0 : w8.cell? ⟨gb403,0,none⟩=some (.bool a0_0):=(blk_cell BK403.out 0).trans rfl;have hcz10_1 : w8.cell? ⟨gb403,1,none⟩=some (.slice A0_1 l0_1.length c0_1):=(blk_cell BK403.out 1).trans rfl;have hcz10_2 : w8.cell? ⟨gb403,2,none⟩=some (.slice A0_2 l0_2.length c0_2):=(blk_cell BK403.out 2).trans rfl;have hfz10_0:=blk_frozen BK403.out 0;have hfz10_1:=blk_frozen BK403.out 1;have hfz10_2:=blk_frozen BK403.out 2;have hcz11_0 : w8.cell? ⟨gb404,0,none⟩=some (.bool a1_0):=(blk_cell BK404.out 0).trans rfl;have hcz11_1 : w8.cell? ⟨gb404,1,none⟩=some (.slice A1_1 l1_1.length c1_1):=(blk_cell BK404.out 1).trans rfl;have hcz11_2 : w8.cell? ⟨gb404,2,none⟩=some (.slice A1_2 l1_2.length c1_2):=(blk_cell BK404.out 2).trans rfl;have hfz11_0:=blk_frozen BK404.out 0;have hfz11_1:=blk_frozen BK404.out 1;have hfz11_2:=blk_frozen BK404.out 2)|(go_at_call 35;(with_reducible refine (penumbraref01_Same.calls k _ _ l0_1 _ _ l1_1 true _ ?side1 ?side2 ?side3 ?side4 A4.out).mono ?_);(case side1=>repeat (first|exact (Kd.C_below HR0_1.out HB.out)|(with_reducible refine Kd.C_alloc ?_ _)|(with_reducible refine Kd.C_drewN ?_ _)|(with_reducible refine Kd.C_drew ?_)));(case side2=>exact HC0_1.out);(case side3=>repeat (first|exact (Kd.C_below HR1_1.out HB.out)|(with_reducible refine Kd.C_alloc ?_ _)|(with_reducible refine Kd.C_drewN ?_ _)|(with_reducible refine Kd.C_drew ?_)));(case side4=>exact HC1_1.out);rintro e w' ⟨rfl,⟨nd,rfl⟩⟩)|(go_at_call 35;(with_reducible refine (penumbraref01_Same.calls k _ _ l0_2 _ _ l1_2 t406 _ ?side1 ?side2 ?side3 ?side4 A6.out).mono ?_);(case side1=>repeat (first|exact (Kd.C_below HR0_2.out (by repeat (first|with_reducible exact HB.out|apply ba|apply bn|apply b1|refine below_set ?_ GE403.out|refine below_set ?_ GE404.out)))|(with_reducible refine Kd.C_alloc ?_ _)|(with_reducible refine Kd.C_drewN ?_ _)|(with_reducible refine Kd.C_drew ?_)));(case side2=>exact HC0_2.out);(case side3=>repeat (first|exact (Kd.C_below HR1_2.out (by repeat (first|with_reducible exact HB.out|apply ba|apply bn|apply b1|refine below_set ?_ GE403.out|refine below_set ?_ GE404.out)))|(with_reducible refine Kd.C_alloc ?_ _)|(with_reducible refine Kd.C_drewN ?_ _)|(with_reducible refine Kd.C_drew ?_)));(case side4=>exact HC1_2.out);rintro e w' ⟨rfl,⟨nd,rfl⟩⟩))
   go_ret
   exact ⟨by first|rfl|(simp [errW_none,errW_some] <;> rfl)|(simp [*,errW_none,errW_some] <;> rfl),by repeat (first|with_reducible exact HB.out|apply ba|apply bn|apply b1|refine below_set ?_ GE403.out|refine below_set ?_ GE404.out)⟩
  ·replace c5:=Bool.eq_false_iff.mpr c5
   subst c5
   rw [if_neg (show ¬ (false=true) by decide)] at H
   obtain rfl:=Option.some.inj H
   go_enter Tryd.func11,Tryd.ntmps11
   go_wp2_with (first|((with_reducible refine gate_dst (N:=2) rfl ?_);refine box_event ?hg (N:=2) ?hd (cs:=#[.bool a0_0,.slice A0_1 l0_1.length c0_1,.slice A0_2 l0_2.length c0_2]) (t:=25) ?hr ?_;(case hd=>rfl);(case hg=>rfl);(case hr=>first|(go_simp;done)|(go_simp;(with_reducible rfl))|(go_simp;rfl)|(go_simp;simp only [hu,Int.emod_sub_emod]));intro gb403 hg w12 hbox hb;have n0_:=Aside0.mk (below_step (Hu HB.out) hb);have n1_:=Aside0.mk (hbox);have n2_:=Aside0.mk ((by rw [hg];exact (below_size (Hu HB.out)) : w.heap.size≤gb403));have n3_:=Aside0.mk ((by rw [hg];exact (below_size (Hu HB.out)) : w.heap.size≤gb403));clear HB;have HB:=n0_;have BK403:=n1_;have GW403:=n2_;have GE403:=n3_;clear n0_ n1_ n2_ n3_;clear hb hbox hg)|((with_reducible refine gate_dst (N:=3) rfl ?_);refine box_event ?hg (N:=3) ?hd (cs:=#[.bool a1_0,.slice A1_1 l1_1.length c1_1,.slice A1_2 l1_2.length c1_2]) (t:=25) ?hr ?_;(case hd=>rfl);(case hg=>rfl);(case hr=>first|(go_simp;done)|(go_simp;(with_reducible rfl))|(go_simp;rfl)|(go_simp;simp only [hu,Int.emod_sub_emod]));intro gb404 hg w13 hbox hb;have n0_:=Aside0.mk (blk_below (g:=gb403) (o:=.cells #[.bool a0_0,.slice A0_1 l0_1.length c0_1,.slice A0_2 l0_2.length c0_2] 25 (0,0)) (Bu BK403.out) hb);have n1_:=Aside0.mk (below_step (by repeat (first|with_reducible exact HB.out|apply ba|apply bn|apply b1|refine below_set ?_ GE403.out)) hb);have n2_:=Aside0.mk (hbox);have n3_:=Aside0.mk ((by rw [hg];exact (below_size (by repeat (first|with_reducible exact HB.out|apply ba|apply bn|apply b1|refine below_set ?_ GE403.out))) : w.heap.size≤gb404));have n4_:=Aside0.mk ((by rw [hg];exact (below_size (by repeat (first|with_reducible exact HB.out|apply ba|apply bn|apply b1|refine below_set ?_ GE403.out))) : w.heap.size≤gb404));have n5_:=Aside0.mk ((by rw [hg];exact Nat.ne_of_lt (blk_lt (g:=gb403) (o:=.cells #[.bool a0_0,.slice A0_1 l0_1.length c0_1,.slice A0_2 l0_2.length c0_2] 25 (0,0)) (Bu BK403.out)) : gb403≠gb404));have n6_:=Aside0.mk ((by rw [hg];exact Nat.ne_of_gt (blk_lt (g:=gb403) (o:=.cells #[.bool a0_0,.slice A0_1 l0_1.length c0_1,.slice A0_2 l0_2.length c0_2] 25 (0,0)) (Bu BK403.out)) : gb404≠gb403));clear BK403;clear HB;have BK403:=n0_;have HB:=n1_;have BK404:=n2_;have GW404:=n3_;have GE404:=n4_;have NB403_404:=n5_;have NB404_403:=n6_;clear n0_ n1_ n2_ n3_ n4_ n5_ n6_;clear hb hbox hg;have hnb14:=NB403_404.out;have hnc14:=NB404_403.out;have hcz15_0 : w13.cell? ⟨gb403,0,none⟩=some (.bool a0_0):=(blk_cell BK403.out 0).trans rfl;have hcz15_1 : w13.cell? ⟨gb403,1,none⟩=some (.slice A0_1 l0_1.length c0_1):=(blk_cell BK403.out 1).trans rfl;have hcz15_2 : w13.cell? ⟨gb403,2,none⟩=some (.slice A0_2 l0_2.length c0_2):=(blk_cell BK403.out 2).trans rfl;have hfz15_0:=blk_frozen BK403.out 0;have hfz15_1:=blk_frozen BK403.out 1;have hfz15_2:=blk_frozen BK403.out 2;have hcz16_0 : w13.cell? ⟨gb404,0,none⟩=some (.bool a1_0):=(blk_cell BK404.out 0).trans rfl;have hcz16_1 : w13.cell? ⟨gb404,1,none⟩=some (.slice A1_1 l1_1.length c1_1):=(blk_cell BK404.out 1).trans rfl;have hcz16_2 : w13.cell? ⟨gb404,2,none⟩=some (.slice A1_2 l1_2.length c1_2):=(blk_cell BK404.out 2).trans rfl;have hfz16_0:=blk_frozen BK404.out 0;have hfz16_1:=blk_frozen BK404.out 1;have hfz16_2:=blk_frozen BK404.out 2)|(go_at_call 35;(with_reducible refine (penumbraref01_Same.calls k _ _ l0_1 _ _ l1_1 false _ ?side1 ?side2 ?side3 ?side4 A4.out).mono ?_);(case side1=>repeat (first|exact (Kd.C_below HR0_1.out HB.out)|(with_reducible refine Kd.C_alloc ?_ _)|(with_reducible refine Kd.C_drewN ?_ _)|(with_reducible refine Kd.C_drew ?_)));(case side2=>exact HC0_1.out);(case side3=>repeat (first|exact (Kd.C_below HR1_1.out HB.out)|(with_reducible refine Kd.C_alloc ?_ _)|(with_reducible refine Kd.C_drewN ?_ _)|(with_reducible refine Kd.C_drew ?_)));(case side4=>exact HC1_1.out);rintro e w' ⟨rfl,⟨nd,rfl⟩⟩))
   go_ret
   exact ⟨by first|rfl|(simp [errW_none,errW_some] <;> rfl)|(simp [*,errW_none,errW_some] <;> rfl),by repeat (first|with_reducible exact HB.out|apply ba|apply bn|apply b1|refine below_set ?_ GE403.out|refine below_set ?_ GE404.out)⟩
 ·rw [if_neg c3] at H
  have c3b0 : (a0_0 == a1_0)=false:=by simpa using c3
  (try (have c3b1 : decide (a0_0=a1_0)=false:=by simpa using c3))
  (try (have c3b2 : (a0_0 == a1_0)=false:=by simpa using c3))
  (try (have c3b3 : ¬ (a0_0=a1_0):=by simpa using c3))
  clear c3
  obtain rfl:=Option.some.inj H
  go_enter Tryd.func11,Tryd.ntmps11
  go_wp2_with (first|((with_reducible refine gate_dst (N:=2) rfl ?_);refine box_event ?hg (N:=2) ?hd (cs:=#[.bool a0_0,.slice A0_1 l0_1.length c0_1,.slice A0_2 l0_2.length c0_2]) (t:=25) ?hr ?_;(case hd=>rfl);(case hg=>rfl);(case hr=>first|(go_simp;done)|(go_simp;(with_reducible rfl))|(go_simp;rfl)|(go_simp;simp only [hu,Int.emod_sub_emod]));intro gb403 hg w17 hbox hb;have n0_:=Aside0.mk (below_step (Hu HB.out) hb);have n1_:=Aside0.mk (hbox);have n2_:=Aside0.mk ((by rw [hg];exact (below_size (Hu HB.out)) : w.heap.size≤gb403));have n3_:=Aside0.mk ((by rw [hg];exact (below_size (Hu HB.out)) : w.heap.size≤gb403));clear HB;have HB:=n0_;have BK403:=n1_;have GW403:=n2_;have GE403:=n3_;clear n0_ n1_ n2_ n3_;clear hb hbox hg)|((with_reducible refine gate_dst (N:=3) rfl ?_);refine box_event ?hg (N:=3) ?hd (cs:=#[.bool a1_0,.slice A1_1 l1_1.length c1_1,.slice A1_2 l1_2.length c1_2]) (t:=25) ?hr ?_;(case hd=>rfl);(case hg=>rfl);(case hr=>first|(go_simp;done)|(go_simp;(with_reducible rfl))|(go_simp;rfl)|(go_simp;simp only [hu,Int.emod_sub_emod]));intro gb404 hg w18 hbox hb;have n0_:=Aside0.mk (blk_below (g:=gb403) (o:=.cells #[.bool a0_0,.slice A0_1 l0_1.length c0_1,.slice A0_2 l0_2.length c0_2] 25 (0,0)) (Bu BK403.out) hb);have n1_:=Aside0.mk (below_step (by repeat (first|with_reducible exact HB.out|apply ba|apply bn|apply b1|refine below_set ?_ GE403.out)) hb);have n2_:=Aside0.mk (hbox);have n3_:=Aside0.mk ((by rw [hg];exact (below_size (by repeat (first|with_reducible exact HB.out|apply ba|apply bn|apply b1|refine below_set ?_ GE403.out))) : w.heap.size≤gb404));have n4_:=Aside0.mk ((by rw [hg];exact (below_size (by repeat (first|with_reducible exact HB.out|apply ba|apply bn|apply b1|refine below_set ?_ GE403.out))) : w.heap.size≤gb404));have n5_:=Aside0.mk ((by rw [hg];exact Nat.ne_of_lt (blk_lt (g:=gb403) (o:=.cells #[.bool a0_0,.slice A0_1 l0_1.length c0_1,.slice A0_2 l0_2.length c0_2] 25 (0,0)) (Bu BK403.out)) : gb403≠gb404));have n6_:=Aside0.mk ((by rw [hg];exact Nat.ne_of_gt (blk_lt (g:=gb403) (o:=.cells #[.bool a0_0,.slice A0_1 l0_1.length c0_1,.slice A0_2 l0_2.length c0_2] 25 (0,0)) (Bu BK403.out)) : gb404≠gb403));clear BK403;clear HB;have BK403:=n0_;have HB:=n1_;have BK404:=n2_;have GW404:=n3_;have GE404:=n4_;have NB403_404:=n5_;have NB404_403:=n6_;clear n0_ n1_ n2_ n3_ n4_ n5_ n6_;clear hb hbox hg;have hnb19:=NB403_404.out;have hnc19:=NB404_403.out;have hcz20_0 : w18.cell? ⟨gb403,0,none⟩=some (.bool a0_0):=(blk_cell BK403.out 0).trans rfl;have hcz20_1 : w18.cell? ⟨gb403,1,none⟩=some (.slice A0_1 l0_1.length c0_1):=(blk_cell BK403.out 1).trans rfl;have hcz20_2 : w18.cell? ⟨gb403,2,none⟩=some (.slice A0_2 l0_2.length c0_2):=(blk_cell BK403.out 2).trans rfl;have hfz20_0:=blk_frozen BK403.out 0;have hfz20_1:=blk_frozen BK403.out 1;have hfz20_2:=blk_frozen BK403.out 2;have hcz21_0 : w18.cell? ⟨gb404,0,none⟩=some (.bool a1_0):=(blk_cell BK404.out 0).trans rfl;have hcz21_1 : w18.cell? ⟨gb404,1,none⟩=some (.slice A1_1 l1_1.length c1_1):=(blk_cell BK404.out 1).trans rfl;have hcz21_2 : w18.cell? ⟨gb404,2,none⟩=some (.slice A1_2 l1_2.length c1_2):=(blk_cell BK404.out 2).trans rfl;have hfz21_0:=blk_frozen BK404.out 0;have hfz21_1:=blk_frozen BK404.out 1;have hfz21_2:=blk_frozen BK404.out 2))
  go_ret
  exact ⟨by first|rfl|(simp [errW_none,errW_some] <;> rfl)|(simp [*,errW_none,errW_some] <;> rfl),by repeat (first|with_reducible exact HB.out|apply ba|apply bn|apply b1|refine below_set ?_ GE403.out|refine below_set ?_ GE404.out)⟩
end Go.Proofs.YtncdiodnbkhacaaDoor.Pq
end
end
section
section
namespace Go.Proofs.YtncdiodnbkhacaaDoor.Pq
open Go.RowKit Go.Proofs.YtncdiodnbkhacaaDoorW.PrintWords Go.Proofs.YtncdiodnbkhacaaDoorW.PrintLast Go.Proofs.YtncdiodnbkhacaaDoorW.PrintMore
attribute [local go_sem] max2_int min2_int max_two min_two max_three min_three max_four min_four
set_option linter.unusedVariables false
set_option linter.unusedSimpArgs false
set_option maxHeartbeats 8000000
set_option maxRecDepth 100000
open Go.Shelf
theorem penumbraref01_Norm.mono_l : ∀ k,(∀ y0 y1,LeO (penumbraref01_Norm.l0 k y0 y1) (penumbraref01_Norm.l0 (k+1) y0 y1))
|0=>fun _ _ r h=>by simp [penumbraref01_Norm.l0] at h
|k+1=>by
  have ih0:=penumbraref01_Norm.mono_l k
  ·intro y0 y1
   unfold penumbraref01_Norm.l0
   with_reducible repeat' first
  |exact ih0 _ _
  |exact LeO.refl _
  |exact LeO.none _
  |refine LeO.ite ?_ ?_
  |refine LeO.bind ?_ (fun _=>?_)
theorem penumbraref01_Norm.mono : ∀ a0 k,LeO (penumbraref01_Norm.f k a0) (penumbraref01_Norm.f (k+1) a0):=by
 intro a0 k
 have ih0:=penumbraref01_Norm.mono_l k
 unfold penumbraref01_Norm.f
 with_reducible repeat' first
  |exact ih0 _ _
  |exact LeO.refl _
  |exact LeO.none _
  |refine LeO.ite ?_ ?_
  |refine LeO.bind ?_ (fun _=>?_)
theorem penumbraref01_Norm.calls (k : Nat) (A0 : Option Addr) (c0 : Nat) (l0 : List Int) (r : List Int) (w : World) (hr0 : Kd.C (Kd.int .u32) w A0 l0.length l0) (hc0 : l0.length≤c0) (h : penumbraref01_Norm.f k l0=some r) :
  Calls Tryd.prog 58 #[.slice A0 l0.length c0] w fun e w'=>∃ v0_ : Value,e=.returned (v0_)∧Kd.R (Kd.int .u32) 35 w' w.heap.size (fun _=>True) v0_ r∧Below w.heap.size w w':=by
 have HR0:=Aside0.mk hr0
 have HC0:=Aside0.mk hc0
 clear hr0 hc0
 have HB:=Aside0.mk (Below.refl w.heap.size w)
 have H : (penumbraref01_Norm.l0 k l0 (l0.length : Int))=some r:=h
 clear h
 have H':=Aside0.mk H
 clear H
 go_enter Tryd.func58,Tryd.ntmps58
 go_wp2
 go_loopg [3] k (fun kq v3 w'=>∃ (x3_1 : Int),v3=.int .i64 x3_1∧Aside0 (penumbraref01_Norm.l0 kq l0 x3_1=some r)∧Aside0 (kq≤k)∧Aside0 (Below w.heap.size w w'))
 case atStart=>exact ⟨((l0.length : Int)),(by first|rfl|(simp;done)|(simp [*];done)),H',⟨Nat.le_refl _⟩,⟨Hu HB.out⟩⟩
 case round =>
  clear H'
  obtain ⟨x3_1,rfl,HA,HK1,HB⟩:=hrel
  cases gk with
 |zero=>exact absurd HA.out (by simp [penumbraref01_Norm.l0])
 |succ k1 =>
   have H:=HA.out
   clear HA
   simp only [penumbraref01_Norm.l0] at H
   by_cases c2 : x3_1 > 0
   ·rw [if_pos c2] at H
    have c2b0 : decide (0 < x3_1)=true:=decide_eq_true c2
    clear c2
    obtain ⟨ji3,hji3⟩ : ∃ j_ : Int,(wrap64 (x3_1 - 1))=j_:=⟨_,rfl⟩
    replace H : (if 0≤(ji3) then (if (ji3) < (l0.length : Int) then (if (rd l0 (ji3))=0 then (penumbraref01_Norm.l0 k1 l0 ji3) else ((some (([] : List Int) : List Int)).bind fun y427=>(if 0≤x3_1 then (if x3_1≤(l0.length : Int) then (if y427.length+(l0.take (x3_1 : Int).toNat).length < 35184372088832 then (some (y427++(l0.take (x3_1 : Int).toNat))) else (none)) else (none)) else (none)))) else (none)) else (none))=some r:=by first|(rw [hji3] at H;exact H)|(simp only [hji3] at H ⊢;exact H)
    have hji3w : (IntKind.i64.wrap (x3_1 - 1))=ji3:=(i64_w _).trans hji3
    by_cases c4 : 0≤(ji3)
    case neg =>rw [if_neg c4] at H;exact absurd H (by simp)
    rw [if_pos c4] at H
    have c4b0 : decide (0≤(ji3))=true:=decide_eq_true c4
    clear c4
    by_cases c5 : (ji3) < (l0.length : Int)
    case neg =>rw [if_neg c5] at H;exact absurd H (by simp)
    rw [if_pos c5] at H
    have c5b0 : decide ((ji3) < (l0.length : Int))=true:=decide_eq_true c5
    clear c5
    by_cases c6 : (rd l0 (ji3))=0
    ·rw [if_pos c6] at H
     have c6b0 : ((rd l0 (ji3)) == 0)=true:=beq_iff_eq.mpr c6
     have c6b1 : ((rd l0 (ji3)) != 0)=false:=bne_eq_false_iff_eq.mpr c6
     clear c6
     have H':=Aside0.mk H
     clear H
     have p426 : 0≤((ji3) : Int):=of_decide_eq_true (by assumption)
     have q426 : (ji3) < (l0.length : Int):=of_decide_eq_true (by assumption)
     obtain ⟨ad426,e426,hx426_0⟩:=Kd.at_int HR0.out (ji3) p426 q426
     cases e426
     replace hx426_0:=(HB.out.cell (World.block_lt_of_cell? w _ hx426_0)).trans hx426_0
     replace p426:=eq_true p426
     replace q426:=eq_true q426
     go_wp2
     go_roundg k1
     case measure=>have:=HK1.out;omega
     case rel=>exact ⟨(ji3),(by first|rfl|(simp;done)|(simp only [← hji3] <;> (first|rfl|simp))|(simp [*];done)),H',⟨by have:=HK1.out;omega⟩,⟨Hu HB.out⟩⟩
    ·rw [if_neg c6] at H
     have c6b0 : ((rd l0 (ji3)) == 0)=false:=beq_eq_false_iff_ne.mpr c6
     have c6b1 : ((rd l0 (ji3)) != 0)=true:=bne_iff_ne.mpr c6
     obtain ⟨y427,hy427⟩ : ∃ y_ : List Int,y_=(([] : List Int)):=⟨_,rfl⟩
     replace H : (if 0≤x3_1 then (if x3_1≤(l0.length : Int) then (if y427.length+(l0.take (x3_1 : Int).toNat).length < 35184372088832 then (some (y427++(l0.take (x3_1 : Int).toNat))) else (none)) else (none)) else (none))=some r:=by first|(rw [hy427];with_reducible exact H)|(have H2_:=(Option.bind_some _ _).symm.trans H;rw [hy427];with_reducible exact H2_)|(have H2_:=(Option.bind_some _ _).symm.trans H;with_reducible exact H2_)|with_reducible exact H|(rw [hy427];exact H)|exact H
     have Ny427:=Aside0.mk hy427
     clear hy427
     by_cases c7 : 0≤x3_1
     case neg =>rw [if_neg c7] at H;exact absurd H (by simp)
     rw [if_pos c7] at H
     have c7b0:=eq_true c7
     have c7b1 : decide (0≤x3_1)=true:=decide_eq_true c7
     clear c7
     by_cases c8 : x3_1≤(l0.length : Int)
     case neg =>rw [if_neg c8] at H;exact absurd H (by simp)
     rw [if_pos c8] at H
     have c8b0:=eq_true c8
     have c8b1 : decide (x3_1≤(l0.length : Int))=true:=decide_eq_true c8
     clear c8
     by_cases c9 : y427.length+(l0.take (x3_1 : Int).toNat).length < 35184372088832
     case neg =>rw [if_neg c9] at H;exact absurd H (by simp)
     rw [if_pos c9] at H
     have LMc9:=Aside0.mk c9
     clear c9
     obtain ⟨y431,hy431⟩ : ∃ y_ : List Int,y_=(y427++(l0.take (x3_1 : Int).toNat)):=⟨_,rfl⟩
     replace H : (some y431)=some r:=by first|(rw [hy431];with_reducible exact H)|(have H2_:=(Option.bind_some _ _).symm.trans H;rw [hy431];with_reducible exact H2_)|(have H2_:=(Option.bind_some _ _).symm.trans H;with_reducible exact H2_)|with_reducible exact H|(rw [hy431];exact H)|exact H
     have Ny431:=Aside0.mk hy431
     clear hy431
     obtain rfl:=Option.some.inj H
     have p426 : 0≤((ji3) : Int):=of_decide_eq_true (by assumption)
     have q426 : (ji3) < (l0.length : Int):=of_decide_eq_true (by assumption)
     obtain ⟨ad426,e426,hx426_0⟩:=Kd.at_int HR0.out (ji3) p426 q426
     cases e426
     replace hx426_0:=(HB.out.cell (World.block_lt_of_cell? w _ hx426_0)).trans hx426_0
     replace p426:=eq_true p426
     replace q426:=eq_true q426
     go_wp2_with (first|((with_reducible refine gate_dst (N:=18) rfl ?_);refine Kd.R_lit (Kd.int .u32) _ 35 ?hg (N:=18) ?hd (xs:=([] : List Int)) (inner:=[]) (ok:=fun _=>True) (okp:=fun _=>True) ?hr ?hp (fun _ hk=>hk) trivial (Below.refl _ _) (Nat.le_refl _) (by simp) ?_;(case hd=>rfl);(case hg=>rfl);(case hr=>first|(go_simp;done)|(go_simp;(with_reducible rfl))|(go_simp;rfl)|(go_simp;simp only [hu,Int.emod_sub_emod]));(case hp=>exact (Reps.none _ _));intro v428 w10 ho11 hb hg_ hnew_;clear hg_ hnew_;(first|rw [← Ny427.out] at ho11|(simp only [Int.reduceToNat] at ho11;rw [← Ny427.out] at ho11));have n0_:=Aside0.mk (Kd.R_lower ho11 (below_size (Hu HB.out)));have n1_:=Aside0.mk (below_step (Hu HB.out) hb);clear HB;have HO429:=n0_;have HB:=n1_;clear n0_ n1_;clear hb ho11;obtain ⟨i012,hi012,_,hsz12,_⟩:=info_parts info35;obtain ⟨hcut12,hA12,hC12⟩:=print_take_of (P:=Tryd.prog) (Value.int .u32) 0 23 35 .i64 Tryd.underlying23 hi012 hsz12 (some ad426) c0 l0 x3_1 (of_decide_eq_true (by assumption)) (of_decide_eq_true (by assumption)) HC0.out;have HR430:=Aside0.mk (Kd.C_of_reads (h1:=fun _=>rfl) (hA12 _ (Kd.reads_of_C HR0.out)));have HC430:=Aside0.mk hC12;clear hA12 hC12 hi012 hsz12)|((with_reducible refine gate_builtin (b:=.append) (xs:=#[.tmp 18,.tmp 21]) rfl ?_);at_builtin;refine Kd.R_append_rows (Kd.int .u32) (w0:=w) w.heap.size rfl (.tmp 18) (.tmp 21) 23 35 (.int .u32 0) 4 rfl Tryd.underlying23 info35 rfl (by decide) (by omega) v428 y427 (l0.take (x3_1 : Int).toNat) _ _ _ (fun _=>True) (fun _=>False) rfl rfl ?aO ?aR (fun _ _ h=>h) (fun _ h=>h.elim) ?aF ?aB ?aS ?aL ?_;(case aR=>first|(refine Kd.C_of_len (show (l0.take (x3_1 : Int).toNat).length=x3_1.toNat from (by rw [List.length_take];have h_ : (x3_1 : Int)≤(l0.length : Int):=of_decide_eq_true (by assumption);omega)) ?_;repeat (first|exact (Kd.C_below HR430.out HB.out)|(with_reducible refine Kd.C_alloc ?_ _)|(with_reducible refine Kd.C_drewN ?_ _)|(with_reducible refine Kd.C_drew ?_)))|(repeat (first|exact (Kd.C_below HR430.out HB.out)|(with_reducible refine Kd.C_alloc ?_ _)|(with_reducible refine Kd.C_drewN ?_ _)|(with_reducible refine Kd.C_drew ?_))));(case aB=>exact (Hu HB.out));(case aF=>exact (fun _ _=>trivial));(case aO=>exact (Ru HO429.out));(case aS=>exact (below_size (Hu HB.out)));(case aL=>have:=LMc9.out;have hlx_:=(show (l0.take (x3_1 : Int).toNat).length=x3_1.toNat from (by rw [List.length_take];have h_ : (x3_1 : Int)≤(l0.length : Int):=of_decide_eq_true (by assumption);omega));omega);intro v432 w13 ho hb hg hat;rw [← Ny431.out] at ho;have n0_:=Aside0.mk (hb);have n1_:=Aside0.mk (ho);clear HB;clear HO429;have HB:=n0_;have HO433:=n1_;clear n0_ n1_;clear ho hb hg hat))
     go_ret
     exact ⟨_,by first|rfl|(simp [errW_none,errW_some] <;> rfl)|(simp only [← hji3];first|rfl|(simp [errW_none,errW_some] <;> rfl))|(simp [*,errW_none,errW_some] <;> rfl),by (with_reducible repeat (first|apply Ra|apply Rn|apply Rd));exact HO433.out,Hu HB.out⟩
   ·rw [if_neg c2] at H
    have c2b0 : decide (0 < x3_1)=false:=decide_eq_false c2
    clear c2
    obtain ⟨y434,hy434⟩ : ∃ y_ : List Int,y_=(([] : List Int)):=⟨_,rfl⟩
    replace H : (if 0≤x3_1 then (if x3_1≤(l0.length : Int) then (if y434.length+(l0.take (x3_1 : Int).toNat).length < 35184372088832 then (some (y434++(l0.take (x3_1 : Int).toNat))) else (none)) else (none)) else (none))=some r:=by first|(rw [hy434];with_reducible exact H)|(have H2_:=(Option.bind_some _ _).symm.trans H;rw [hy434];with_reducible exact H2_)|(have H2_:=(Option.bind_some _ _).symm.trans H;with_reducible exact H2_)|with_reducible exact H|(rw [hy434];exact H)|exact H
    have Ny434:=Aside0.mk hy434
    clear hy434
    by_cases c14 : 0≤x3_1
    case neg =>rw [if_neg c14] at H;exact absurd H (by simp)
    rw [if_pos c14] at H
    have c14b0:=eq_true c14
    have c14b1 : decide (0≤x3_1)=true:=decide_eq_true c14
    clear c14
    by_cases c15 : x3_1≤(l0.length : Int)
    case neg =>rw [if_neg c15] at H;exact absurd H (by simp)
    rw [if_pos c15] at H
    have c15b0:=eq_true c15
    have c15b1 : decide (x3_1≤(l0.length : Int))=true:=decide_eq_true c15
    clear c15
    by_cases c16 : y434.length+(l0.take (x3_1 : Int).toNat).length < 35184372088832
    case neg =>rw [if_neg c16] at H;exact absurd H (by simp)
    rw [if_pos c16] at H
    have LMc16:=Aside0.mk c16
    clear c16
    obtain ⟨y438,hy438⟩ : ∃ y_ : List Int,y_=(y434++(l0.take (x3_1 : Int).toNat)):=⟨_,rfl⟩
    replace H : (some y438)=some r:=by first|(rw [hy438];with_reducible exact H)|(have H2_:=(Option.bind_some _ _).symm.trans H;rw [hy438];with_reducible exact H2_)|(have H2_:=(Option.bind_some _ _).symm.trans H;with_reducible exact H2_)|with_reducible exact H|(rw [hy438];exact H)|exact H
    have Ny438:=Aside0.mk hy438
    clear hy438
    obtain rfl:=Option.some.inj H
    go_wp2_with (first|((with_reducible refine gate_dst (N:=18) rfl ?_);refine Kd.R_lit (Kd.int .u32) _ 35 ?hg (N:=18) ?hd (xs:=([] : List Int)) (inner:=[]) (ok:=fun _=>True) (okp:=fun _=>True) ?hr ?hp (fun _ hk=>hk) trivial (Below.refl _ _) (Nat.le_refl _) (by simp) ?_;(case hd=>rfl);(case hg=>rfl);(case hr=>first|(go_simp;done)|(go_simp;(with_reducible rfl))|(go_simp;rfl)|(go_simp;simp only [hu,Int.emod_sub_emod]));(case hp=>exact (Reps.none _ _));intro v435 w17 ho18 hb hg_ hnew_;clear hg_ hnew_;(first|rw [← Ny434.out] at ho18|(simp only [Int.reduceToNat] at ho18;rw [← Ny434.out] at ho18));have n0_:=Aside0.mk (Kd.R_lower ho18 (below_size (Hu HB.out)));have n1_:=Aside0.mk (below_step (Hu HB.out) hb);clear HB;have HO436:=n0_;have HB:=n1_;clear n0_ n1_;clear hb ho18;obtain ⟨i019,hi019,_,hsz19,_⟩:=info_parts info35;obtain ⟨hcut19,hA19,hC19⟩:=print_take_of (P:=Tryd.prog) (Value.int .u32) 0 23 35 .i64 Tryd.underlying23 hi019 hsz19 A0 c0 l0 x3_1 (of_decide_eq_true (by assumption)) (of_decide_eq_true (by assumption)) HC0.out;have HR437:=Aside0.mk (Kd.C_of_reads (h1:=fun _=>rfl) (hA19 _ (Kd.reads_of_C HR0.out)));have HC437:=Aside0.mk hC19;clear hA19 hC19 hi019 hsz19)|((with_reducible refine gate_builtin (b:=.append) (xs:=#[.tmp 18,.tmp 21]) rfl ?_);at_builtin;refine Kd.R_append_rows (Kd.int .u32) (w0:=w) w.heap.size rfl (.tmp 18) (.tmp 21) 23 35 (.int .u32 0) 4 rfl Tryd.underlying23 info35 rfl (by decide) (by omega) v435 y434 (l0.take (x3_1 : Int).toNat) _ _ _ (fun _=>True) (fun _=>False) rfl rfl ?aO ?aR (fun _ _ h=>h) (fun _ h=>h.elim) ?aF ?aB ?aS ?aL ?_;(case aR=>first|(refine Kd.C_of_len (show (l0.take (x3_1 : Int).toNat).length=x3_1.toNat from (by rw [List.length_take];have h_ : (x3_1 : Int)≤(l0.length : Int):=of_decide_eq_true (by assumption);omega)) ?_;repeat (first|exact (Kd.C_below HR437.out HB.out)|(with_reducible refine Kd.C_alloc ?_ _)|(with_reducible refine Kd.C_drewN ?_ _)|(with_reducible refine Kd.C_drew ?_)))|(repeat (first|exact (Kd.C_below HR437.out HB.out)|(with_reducible refine Kd.C_alloc ?_ _)|(with_reducible refine Kd.C_drewN ?_ _)|(with_reducible refine Kd.C_drew ?_))));(case aB=>exact (Hu HB.out));(case aF=>exact (fun _ _=>trivial));(case aO=>exact (Ru HO436.out));(case aS=>exact (below_size (Hu HB.out)));(case aL=>have:=LMc16.out;have hlx_:=(show (l0.take (x3_1 : Int).toNat).length=x3_1.toNat from (by rw [List.length_take];have h_ : (x3_1 : Int)≤(l0.length : Int):=of_decide_eq_true (by assumption);omega));omega);intro v439 w20 ho hb hg hat;rw [← Ny438.out] at ho;have n0_:=Aside0.mk (hb);have n1_:=Aside0.mk (ho);clear HB;clear HO436;have HB:=n0_;have HO440:=n1_;clear n0_ n1_;clear ho hb hg hat))
    go_ret
    exact ⟨_,by first|rfl|(simp [errW_none,errW_some] <;> rfl)|(simp [*,errW_none,errW_some] <;> rfl),by (with_reducible repeat (first|apply Ra|apply Rn|apply Rd));exact HO440.out,Hu HB.out⟩
end Go.Proofs.YtncdiodnbkhacaaDoor.Pq
end
end
section
section
namespace Go.Proofs.YtncdiodnbkhacaaDoor.Pq
open Go.RowKit Go.Proofs.YtncdiodnbkhacaaDoorW.PrintWords Go.Proofs.YtncdiodnbkhacaaDoorW.PrintLast Go.Proofs.YtncdiodnbkhacaaDoorW.PrintMore
attribute [local go_sem] max2_int min2_int max_two min_two max_three min_three max_four min_four
set_option linter.unusedVariables false
set_option linter.unusedSimpArgs false
set_option maxHeartbeats 8000000
set_option maxRecDepth 100000
open Go.Shelf
theorem penumbraref01_limb.calls (A0 : Option Addr) (c0 : Nat) (l0 : List Int) (a1 : Int) (r : Int) (w : World) (hr0 : Kd.C (Kd.int .u32) w A0 l0.length l0) (hc0 : l0.length≤c0) (h : penumbraref01_limb.f l0 a1=some r) :
  Calls Tryd.prog 84 #[.slice A0 l0.length c0,.int .i64 a1] w fun e w'=>e=.returned (.int .u64 r)∧Drawn0 w w':=by
 have HR0:=Aside0.mk hr0
 have HC0:=Aside0.mk hc0
 clear hr0 hc0
 have H : (if a1 < (l0.length : Int) then (if 0≤a1 then (some (IntKind.u64.wrap (rd l0 a1))) else (none)) else (some 0))=some r:=h
 clear h
 by_cases c3 : a1 < (l0.length : Int)
 ·rw [if_pos c3] at H
  have c3b0 : decide (a1 < (l0.length : Int))=true:=decide_eq_true c3
  clear c3
  by_cases c4 : 0≤a1
  case neg =>rw [if_neg c4] at H;exact absurd H (by simp)
  rw [if_pos c4] at H
  have c4b0 : decide (0≤a1)=true:=decide_eq_true c4
  clear c4
  obtain rfl:=Option.some.inj H
  have p422 : 0≤(a1 : Int):=of_decide_eq_true (by assumption)
  have q422 : a1 < (l0.length : Int):=of_decide_eq_true (by assumption)
  obtain ⟨ad422,e422,hx422_0⟩:=Kd.at_int HR0.out a1 p422 q422
  cases e422
  replace p422:=eq_true p422
  replace q422:=eq_true q422
  go_enter Tryd.func84,Tryd.ntmps84
  go_wp2
  go_ret
  exact ⟨by first|rfl|(simp;done)|(simp [*];done),by repeat (first|exact Drawn0.refl _|apply Drawn0.step)⟩
 ·rw [if_neg c3] at H
  have c3b0 : decide (a1 < (l0.length : Int))=false:=decide_eq_false c3
  clear c3
  obtain rfl:=Option.some.inj H
  go_enter Tryd.func84,Tryd.ntmps84
  go_wp2
  go_ret
  exact ⟨by first|rfl|(simp;done)|(simp [*];done),by repeat (first|exact Drawn0.refl _|apply Drawn0.step)⟩
end Go.Proofs.YtncdiodnbkhacaaDoor.Pq
end
end
section
section
namespace Go.Proofs.YtncdiodnbkhacaaDoor.Pq
open Go.RowKit Go.Proofs.YtncdiodnbkhacaaDoorW.PrintWords Go.Proofs.YtncdiodnbkhacaaDoorW.PrintLast Go.Proofs.YtncdiodnbkhacaaDoorW.PrintMore
attribute [local go_sem] max2_int min2_int max_two min_two max_three min_three max_four min_four
set_option linter.unusedVariables false
set_option linter.unusedSimpArgs false
set_option maxHeartbeats 8000000
set_option maxRecDepth 100000
theorem penumbraref01_Add.mono_l : ∀ k,(∀ y0 y1 y2 y3 y4,LeO (penumbraref01_Add.l0 k y0 y1 y2 y3 y4) (penumbraref01_Add.l0 (k+1) y0 y1 y2 y3 y4))∧(∀ y0 y1 y2 y3 y4 y5,LeO (penumbraref01_Add.j1 k y0 y1 y2 y3 y4 y5) (penumbraref01_Add.j1 (k+1) y0 y1 y2 y3 y4 y5))
|0=>⟨fun _ _ _ _ _ r h=>by simp [penumbraref01_Add.l0] at h,fun _ _ _ _ _ _ r h=>by simp [penumbraref01_Add.j1] at h⟩
|k+1=>by
  obtain ⟨ih0,ih1⟩:=penumbraref01_Add.mono_l k
  refine ⟨?_,?_⟩
  ·intro y0 y1 y2 y3 y4
   unfold penumbraref01_Add.l0
   with_reducible repeat' first
  |exact ih0 _ _ _ _ _
  |exact ih1 _ _ _ _ _ _
  |exact penumbraref01_Norm.mono _ _
  |exact LeO.refl _
  |exact LeO.none _
  |refine LeO.ite ?_ ?_
  |refine LeO.bind ?_ (fun _=>?_)
  ·intro y0 y1 y2 y3 y4 y5
   unfold penumbraref01_Add.j1
   with_reducible repeat' first
  |exact ih0 _ _ _ _ _
  |exact ih1 _ _ _ _ _ _
  |exact penumbraref01_Norm.mono _ _
  |exact LeO.refl _
  |exact LeO.none _
  |refine LeO.ite ?_ ?_
  |refine LeO.bind ?_ (fun _=>?_)
theorem penumbraref01_Add.mono : ∀ a0 a1 k,LeO (penumbraref01_Add.f k a0 a1) (penumbraref01_Add.f (k+1) a0 a1):=by
 intro a0 a1 k
 obtain ⟨ih0,ih1⟩:=penumbraref01_Add.mono_l k
 unfold penumbraref01_Add.f
 with_reducible repeat' first
  |exact ih0 _ _ _ _ _
  |exact ih1 _ _ _ _ _ _
  |exact penumbraref01_Norm.mono _ _
  |exact LeO.refl _
  |exact LeO.none _
  |refine LeO.ite ?_ ?_
  |refine LeO.bind ?_ (fun _=>?_)
theorem penumbraref01_Add.calls (k : Nat) (A0 : Option Addr) (c0 : Nat) (l0 : List Int) (A1 : Option Addr) (c1 : Nat) (l1 : List Int) (r : List Int) (w : World) (hr0 : Kd.C (Kd.int .u32) w A0 l0.length l0) (hc0 : l0.length≤c0) (hr1 : Kd.C (Kd.int .u32) w A1 l1.length l1) (hc1 : l1.length≤c1) (h : penumbraref01_Add.f k l0 l1=some r) :
  Calls Tryd.prog 57 #[.slice A0 l0.length c0,.slice A1 l1.length c1] w fun e w'=>∃ v0_ : Value,e=.returned (v0_)∧Kd.R (Kd.int .u32) 35 w' w.heap.size (fun _=>True) v0_ r∧Below w.heap.size w w':=by
 have HR0:=Aside0.mk hr0
 have HC0:=Aside0.mk hc0
 clear hr0 hc0
 have HR1:=Aside0.mk hr1
 have HC1:=Aside0.mk hc1
 clear hr1 hc1
 have HB:=Aside0.mk (Below.refl w.heap.size w)
 have H : (penumbraref01_Add.l0 k l0 l1 (([] : List Int)) 0 0)=some r:=h
 clear h
 obtain ⟨y452,hy452⟩ : ∃ y_ : List Int,y_=(([] : List Int)):=⟨_,rfl⟩
 replace H : (penumbraref01_Add.l0 k l0 l1 y452 0 0)=some r:=by first|(rw [hy452];with_reducible exact H)|(have H2_:=(Option.bind_some _ _).symm.trans H;rw [hy452];with_reducible exact H2_)|(have H2_:=(Option.bind_some _ _).symm.trans H;with_reducible exact H2_)|with_reducible exact H|(rw [hy452];exact H)|exact H
 have Ny452:=Aside0.mk hy452
 clear hy452
 have H':=Aside0.mk H
 clear H
 go_enter Tryd.func57,Tryd.ntmps57
 go_wp2_with (first|((with_reducible refine gate_dst (N:=9) rfl ?_);(try (refine gate_guard (by rfl) ?_;dsimp only));refine Kd.R_lit (Kd.int .u32) _ 35 ?hg (N:=9) ?hd (xs:=([] : List Int)) (inner:=[]) (ok:=fun _=>True) (okp:=fun _=>True) ?hr ?hp (fun _ hk=>hk) trivial (Below.refl _ _) (Nat.le_refl _) (by simp) ?_;(case hd=>rfl);(case hg=>rfl);(case hr=>first|(go_simp;done)|(go_simp;(with_reducible rfl))|(go_simp;rfl)|(go_simp;simp only [hu,Int.emod_sub_emod]));(case hp=>exact (Reps.none _ _));intro v453 w3 ho4 hb hg_ hnew_;clear hg_ hnew_;(first|rw [← Ny452.out] at ho4|(simp only [Int.reduceToNat] at ho4;rw [← Ny452.out] at ho4));have n0_:=Aside0.mk (Kd.R_lower ho4 (below_size (Hu HB.out)));have n1_:=Aside0.mk (below_step (Hu HB.out) hb);clear HB;have HO454:=n0_;have HB:=n1_;clear n0_ n1_;clear hb ho4))
 go_loopg [5,6,7] k (fun kq v5 v6 v7 w'=>∃ (x5_1 : List Int) (x6_1 : Int) (x7_1 : Int),v6=.int .u64 x6_1∧v7=.int .i64 x7_1∧Aside0 (penumbraref01_Add.l0 kq l0 l1 x5_1 x6_1 x7_1=some r)∧Aside0 (kq≤k)∧Aside0 (Kd.R (Kd.int .u32) 35 w' w.heap.size (fun _=>True) v5 x5_1)∧Aside0 (Below w.heap.size w w'))
 case atStart=>exact ⟨(y452),(0),(0),(by first|rfl|(simp;done)|(simp [*];done)),(by first|rfl|(simp;done)|(simp [*];done)),H',⟨Nat.le_refl _⟩,⟨Ru HO454.out⟩,⟨Hu HB.out⟩⟩
 case round =>
  clear H'
  obtain ⟨x5_1,x6_1,x7_1,rfl,rfl,HA,HK1,HO_5,HB⟩:=hrel
  cases gk with
 |zero=>exact absurd HA.out (by simp [penumbraref01_Add.l0])
 |succ k1 =>
   have H:=HA.out
   clear HA
   simp only [penumbraref01_Add.l0] at H
   have HC5:=Aside0.mk H
   clear H
   go_upto_region 4 with (fail)
   go_cut [19] (fun v19 wc=>∃ (kq : Nat) (x19_4 : Bool),v19=.bool x19_4∧Aside0 (penumbraref01_Add.j1 kq l0 l1 x5_1 x6_1 x7_1 x19_4=some r)∧Aside0 (kq≤k1)∧Aside0 (Kd.R (Kd.int .u32) 35 wc w.heap.size (fun _=>True) u5 x5_1)∧Aside0 (Below w.heap.size w wc))
   case first =>
    have H:=HC5.out
    clear HC5
    by_cases c6 : x7_1 < (l0.length : Int)
    ·rw [if_pos c6] at H
     have c6b0 : decide (x7_1 < (l0.length : Int))=true:=decide_eq_true c6
     clear c6
     (first|rw [c6b0]|(simp only [i64_w,i32_w];rw [c6b0])|skip)
     have H':=Aside0.mk H
     clear H
     go_wp2
     go_meet
     case rel=>exact ⟨_,(true),(by first|rfl|(simp;done)|(simp [*];done)),H',⟨by have:=HK1.out;first|omega|exact Nat.le_refl _⟩,⟨Ru HO_5.out⟩,⟨Hu HB.out⟩⟩
    ·rw [if_neg c6] at H
     have c6b0 : decide (x7_1 < (l0.length : Int))=false:=decide_eq_false c6
     clear c6
     (first|rw [c6b0]|(simp only [i64_w,i32_w];rw [c6b0])|skip)
     have H':=Aside0.mk H
     clear H
     go_wp2
     go_meet
     case rel=>exact ⟨_,(decide (x7_1 < (l1.length : Int))),(by first|rfl|(simp;done)|(simp [*];done)),H',⟨by have:=HK1.out;first|omega|exact Nat.le_refl _⟩,⟨Ru HO_5.out⟩,⟨Hu HB.out⟩⟩
   case rest =>
    clear HC5
    obtain ⟨kq,x19_4,rfl,HA,HJ4,HO_5,HB⟩:=hcut
    cases kq with
   |zero=>exact absurd HA.out (by simp [penumbraref01_Add.j1])
   |succ kj4 =>
     have H:=HA.out
     clear HA
     simp only [penumbraref01_Add.j1] at H
     by_cases c7 : x19_4=true
     ·subst c7
      rw [if_pos rfl] at H
      replace H:=Option.bind_eq_some_iff.mp H
      obtain ⟨t455,A80,H⟩:=H
      try dsimp only at H
      have A8:=Aside0.mk A80
      clear A80
      replace H:=Option.bind_eq_some_iff.mp H
      obtain ⟨t456,A90,H⟩:=H
      try dsimp only at H
      have A9:=Aside0.mk A90
      clear A90
      by_cases c10 : x5_1.length < 35184372088832
      case neg =>rw [if_neg c10] at H;exact absurd H (by simp)
      rw [if_pos c10] at H
      have LMc10:=Aside0.mk c10
      clear c10
      obtain ⟨y457,hy457⟩ : ∃ y_ : List Int,y_=(x5_1++[(Int.tmod (IntKind.u64.wrap ((IntKind.u64.wrap (t455+t456))+x6_1)) 4294967296) % 4294967296]):=⟨_,rfl⟩
      replace H : (penumbraref01_Add.l0 kj4 l0 l1 y457 (IntKind.u64.wrap (Int.tdiv (IntKind.u64.wrap ((IntKind.u64.wrap (t455+t456))+x6_1)) 4294967296)) (wrap64 (x7_1+1)))=some r:=by first|(rw [hy457];with_reducible exact H)|(have H2_:=(Option.bind_some _ _).symm.trans H;rw [hy457];with_reducible exact H2_)|(have H2_:=(Option.bind_some _ _).symm.trans H;with_reducible exact H2_)|with_reducible exact H|(rw [hy457];exact H)|exact H
      have Ny457:=Aside0.mk hy457
      clear hy457
      have H':=Aside0.mk H
      clear H
      go_wp2_with (first|((with_reducible refine gate_callee (f:=84) rfl ?_);refine goesL_ (some 24) rfl rfl Tryd.func84 (by kernel_rfl) rfl #[.slice A0 l0.length c0,.int .i64 x7_1] rfl (by (try simp only [List.map_toArray,List.map_cons,List.map_nil]);first|done|rfl) ?_;(with_reducible refine (penumbraref01_limb.calls _ _ l0 x7_1 t455 _ ?side1 ?side2 A8.out).mono ?_);(case side1=>repeat (first|exact (Kd.C_below HR0.out HB.out)|(with_reducible refine Kd.C_alloc ?_ _)|(with_reducible refine Kd.C_drewN ?_ _)|(with_reducible refine Kd.C_drew ?_)));(case side2=>exact HC0.out);rintro e w' ⟨rfl,⟨nd,rfl⟩⟩;refine ⟨_,rfl,?_⟩)|((with_reducible refine gate_callee (f:=84) rfl ?_);refine goesL_ (some 27) rfl rfl Tryd.func84 (by kernel_rfl) rfl #[.slice A1 l1.length c1,.int .i64 x7_1] rfl (by (try simp only [List.map_toArray,List.map_cons,List.map_nil]);first|done|rfl) ?_;(with_reducible refine (penumbraref01_limb.calls _ _ l1 x7_1 t456 _ ?side1 ?side2 A9.out).mono ?_);(case side1=>repeat (first|exact (Kd.C_below HR1.out (Hu HB.out))|(with_reducible refine Kd.C_alloc ?_ _)|(with_reducible refine Kd.C_drewN ?_ _)|(with_reducible refine Kd.C_drew ?_)));(case side2=>exact HC1.out);rintro e w' ⟨rfl,⟨nd,rfl⟩⟩;refine ⟨_,rfl,?_⟩)|((with_reducible refine gate_builtin (b:=.append) (xs:=#[.tmp 31,.tmp 35]) rfl ?_);(try (refine gate_guard (by rfl) ?_;dsimp only));at_builtin;refine Kd.R_append (Kd.int .u32) (w0:=w) w.heap.size rfl (.tmp 31) (.tmp 35) 23 35 (.int .u32 0) 4 rfl Tryd.underlying23 info35 rfl (by decide) (by omega) u5 x5_1 ((Int.tmod (IntKind.u64.wrap ((IntKind.u64.wrap (t455+t456))+x6_1)) 4294967296) % 4294967296) [.int .u32 ((Int.tmod (IntKind.u64.wrap ((IntKind.u64.wrap (t455+t456))+x6_1)) 4294967296) % 4294967296)] (fun _=>True) (fun _=>False) rfl rfl ?aP (fun _ hk=>hk.elim) ?aF ?aO ?aB ?aS ?aL ?_;(case aP=>exact rfl);(case aB=>exact (Hu HB.out));(case aF=>exact (fun _ _=>trivial));(case aO=>exact (Ru HO_5.out));(case aS=>exact (below_size (Hu HB.out)));(case aL=>have:=LMc10.out;omega);intro v458 w11 ho hb hg hat;rw [← Ny457.out] at ho;have n0_:=Aside0.mk (hb);have n1_:=Aside0.mk (ho);clear HB;clear HO_5;have HB:=n0_;have HO459:=n1_;clear n0_ n1_;clear ho hb hg hat))
      go_roundg kj4
      case measure=>have:=HK1.out;have:=HJ4.out;omega
      case rel=>exact ⟨(y457),(IntKind.u64.wrap (Int.tdiv (IntKind.u64.wrap ((IntKind.u64.wrap (t455+t456))+x6_1)) 4294967296)),(wrap64 (x7_1+1)),(by first|rfl|(simp;done)|(simp [*];done)),(by first|rfl|(simp;done)|(simp [*];done)),H',⟨by have:=HK1.out;have:=HJ4.out;omega⟩,⟨Ru HO459.out⟩,⟨Hu HB.out⟩⟩
     ·replace c7:=Bool.eq_false_iff.mpr c7
      subst c7
      rw [if_neg (show ¬ (false=true) by decide)] at H
      by_cases c12 : x5_1.length < 35184372088832
      case neg =>rw [if_neg c12] at H;exact absurd H (by simp)
      rw [if_pos c12] at H
      have LMc12:=Aside0.mk c12
      clear c12
      obtain ⟨y460,hy460⟩ : ∃ y_ : List Int,y_=(x5_1++[(x6_1) % 4294967296]):=⟨_,rfl⟩
      replace H : ((penumbraref01_Norm.f kj4 y460).bind fun t463=>(some t463))=some r:=by first|(rw [hy460];with_reducible exact H)|(have H2_:=(Option.bind_some _ _).symm.trans H;rw [hy460];with_reducible exact H2_)|(have H2_:=(Option.bind_some _ _).symm.trans H;with_reducible exact H2_)|with_reducible exact H|(rw [hy460];exact H)|exact H
      have Ny460:=Aside0.mk hy460
      clear hy460
      replace H:=Option.bind_eq_some_iff.mp H
      obtain ⟨t463,A130,H⟩:=H
      try dsimp only at H
      have A13:=Aside0.mk A130
      clear A130
      obtain rfl:=Option.some.inj H
      go_wp2_with (first|((with_reducible refine gate_builtin (b:=.append) (xs:=#[.tmp 39,.tmp 42]) rfl ?_);(try (refine gate_guard (by rfl) ?_;dsimp only));at_builtin;refine Kd.R_append (Kd.int .u32) (w0:=w) w.heap.size rfl (.tmp 39) (.tmp 42) 23 35 (.int .u32 0) 4 rfl Tryd.underlying23 info35 rfl (by decide) (by omega) u5 x5_1 ((x6_1) % 4294967296) [.int .u32 ((x6_1) % 4294967296)] (fun _=>True) (fun _=>False) rfl rfl ?aP (fun _ hk=>hk.elim) ?aF ?aO ?aB ?aS ?aL ?_;(case aP=>exact rfl);(case aB=>exact (Hu HB.out));(case aF=>exact (fun _ _=>trivial));(case aO=>exact (Ru HO_5.out));(case aS=>exact (below_size (Hu HB.out)));(case aL=>have:=LMc12.out;omega);intro v461 w14 ho hb hg hat;rw [← Ny460.out] at ho;have n0_:=Aside0.mk (hb);have n1_:=Aside0.mk (ho);clear HB;clear HO_5;have HB:=n0_;have HO462:=n1_;clear n0_ n1_;clear ho hb hg hat;obtain ⟨Ao15,co15,eo15⟩:=Kd.R_slice HO462.out;subst eo15)|((with_reducible refine gate_callee (f:=58) rfl ?_);refine goesL_ (some 45) rfl rfl Tryd.func58 (by kernel_rfl) rfl #[.slice Ao15 y460.length co15] rfl (by (try simp only [List.map_toArray,List.map_cons,List.map_nil]);first|done|rfl) ?_;(with_reducible refine (penumbraref01_Norm.calls kj4 _ _ y460 t463 _ ?side1 ?side2 A13.out).mono ?_);(case side1=>exact Cu (Kd.R_reads' HO462.out).2.2);(case side2=>exact (Kd.R_reads' HO462.out).2.1);rintro e w16 ⟨v464,rfl,ho0,hb⟩;refine ⟨_,rfl,?_⟩;have n0_:=Aside0.mk (Kd.R_elder' (Ru HO462.out) (Kd.R_base ho0) hb);have n1_:=Aside0.mk (Kd.R_lower (Kd.R_new' ho0 (Kd.R_lt (Ru HO462.out))) (below_size (Hu HB.out)));have n2_:=Aside0.mk (below_step (Hu HB.out) hb);clear HO462;clear HB;have HO462:=n0_;have HO465:=n1_;have HB:=n2_;clear n0_ n1_ n2_))
      go_ret
      exact ⟨_,by first|rfl|(simp [errW_none,errW_some] <;> rfl)|(simp [*,errW_none,errW_some] <;> rfl),by (with_reducible repeat (first|apply Ra|apply Rn|apply Rd));exact Kd.R_mono HO465.out (fun _ hk=>trivial),Hu HB.out⟩
end Go.Proofs.YtncdiodnbkhacaaDoor.Pq
end
end
section
section
namespace Go.Proofs.YtncdiodnbkhacaaDoor.Pq
open Go.RowKit Go.Proofs.YtncdiodnbkhacaaDoorW.PrintWords Go.Proofs.YtncdiodnbkhacaaDoorW.PrintLast Go.Proofs.YtncdiodnbkhacaaDoorW.PrintMore
attribute [local go_sem] max2_int min2_int max_two min_two max_three min_three max_four min_four
set_option linter.unusedVariables false
set_option linter.unusedSimpArgs false
set_option maxHeartbeats 8000000
set_option maxRecDepth 100000
open Go.Shelf
theorem penumbraref01_Cmp.mono_l : ∀ k,(∀ y0 y1 y2,LeO (penumbraref01_Cmp.l0 k y0 y1 y2) (penumbraref01_Cmp.l0 (k+1) y0 y1 y2))
|0=>fun _ _ _ r h=>by simp [penumbraref01_Cmp.l0] at h
|k+1=>by
  have ih0:=penumbraref01_Cmp.mono_l k
  ·intro y0 y1 y2
   unfold penumbraref01_Cmp.l0
   with_reducible repeat' first
  |exact ih0 _ _ _
  |exact LeO.refl _
  |exact LeO.none _
  |refine LeO.ite ?_ ?_
  |refine LeO.bind ?_ (fun _=>?_)
theorem penumbraref01_Cmp.mono : ∀ a0 a1 k,LeO (penumbraref01_Cmp.f k a0 a1) (penumbraref01_Cmp.f (k+1) a0 a1):=by
 intro a0 a1 k
 have ih0:=penumbraref01_Cmp.mono_l k
 unfold penumbraref01_Cmp.f
 with_reducible repeat' first
  |exact ih0 _ _ _
  |exact LeO.refl _
  |exact LeO.none _
  |refine LeO.ite ?_ ?_
  |refine LeO.bind ?_ (fun _=>?_)
theorem penumbraref01_Cmp.calls (k : Nat) (A0 : Option Addr) (c0 : Nat) (l0 : List Int) (A1 : Option Addr) (c1 : Nat) (l1 : List Int) (r : Int) (w : World) (hr0 : Kd.C (Kd.int .u32) w A0 l0.length l0) (hc0 : l0.length≤c0) (hr1 : Kd.C (Kd.int .u32) w A1 l1.length l1) (hc1 : l1.length≤c1) (h : penumbraref01_Cmp.f k l0 l1=some r) :
  Calls Tryd.prog 59 #[.slice A0 l0.length c0,.slice A1 l1.length c1] w fun e w'=>e=.returned (.int .i64 r)∧Below w.heap.size w w':=by
 have HR0:=Aside0.mk hr0
 have HC0:=Aside0.mk hc0
 clear hr0 hc0
 have HR1:=Aside0.mk hr1
 have HC1:=Aside0.mk hc1
 clear hr1 hc1
 have HB:=Aside0.mk (Below.refl w.heap.size w)
 have H : (penumbraref01_Cmp.l0 k l0 l1 (wrap64 ((mx (l0.length : Int) (l1.length : Int)) - 1)))=some r:=h
 clear h
 obtain ⟨ji3,hji3⟩ : ∃ j_ : Int,(mx (l0.length : Int) (l1.length : Int))=j_:=⟨_,rfl⟩
 replace H : (penumbraref01_Cmp.l0 k l0 l1 (wrap64 ((ji3) - 1)))=some r:=by first|(rw [hji3] at H;exact H)|(simp only [hji3] at H ⊢;exact H)
 (try (have hji3l : 0≤ji3:=by (rw [← hji3];unfold mx;(repeat' split) <;> omega)))
 (try (have hji3m : 0≤ji3:=by omega))
 (try (have hji3c : (if l0.length < l1.length then (l1.length : Int) else (l0.length : Int))=ji3:=by (rw [← hji3];unfold mx;simp only [Int.ofNat_lt])))
 have hji3_ : (if (l0.length : Int) < (l1.length : Int) then (l1.length : Int) else (l0.length : Int))=ji3:=hji3
 have H':=Aside0.mk H
 clear H
 go_enter Tryd.func59,Tryd.ntmps59
 go_wp2
 go_loopg [5] k (fun kq v5 w'=>∃ (x5_1 : Int),v5=.int .i64 x5_1∧Aside0 (penumbraref01_Cmp.l0 kq l0 l1 x5_1=some r)∧Aside0 (kq≤k)∧Aside0 (Below w.heap.size w w'))
 case atStart=>exact ⟨(wrap64 ((ji3) - 1)),(by first|rfl|(simp;done)|(simp only [← hji3] <;> (first|rfl|simp))|(simp [*];done)),H',⟨Nat.le_refl _⟩,⟨Hu HB.out⟩⟩
 case round =>
  clear H'
  obtain ⟨x5_1,rfl,HA,HK1,HB⟩:=hrel
  cases gk with
 |zero=>exact absurd HA.out (by simp [penumbraref01_Cmp.l0])
 |succ k1 =>
   have H:=HA.out
   clear HA
   simp only [penumbraref01_Cmp.l0] at H
   by_cases c4 : x5_1 ≥ 0
   ·rw [if_pos c4] at H
    have c4b0 : decide (0≤x5_1)=true:=decide_eq_true c4
    clear c4
    replace H:=Option.bind_eq_some_iff.mp H
    obtain ⟨t423,A50,H⟩:=H
    try dsimp only at H
    have A5:=Aside0.mk A50
    clear A50
    replace H:=Option.bind_eq_some_iff.mp H
    obtain ⟨t424,A60,H⟩:=H
    try dsimp only at H
    have A6:=Aside0.mk A60
    clear A60
    by_cases c7 : t423 < t424
    ·rw [if_pos c7] at H
     have c7b0 : decide (t423 < t424)=true:=decide_eq_true c7
     clear c7
     obtain rfl:=Option.some.inj H
     go_wp2_with (first|((with_reducible refine gate_callee (f:=84) rfl ?_);refine goesL_ (some 20) rfl rfl Tryd.func84 (by kernel_rfl) rfl #[.slice A0 l0.length c0,.int .i64 x5_1] rfl (by (try simp only [List.map_toArray,List.map_cons,List.map_nil]);first|done|rfl) ?_;(with_reducible refine (penumbraref01_limb.calls _ _ l0 x5_1 t423 _ ?side1 ?side2 A5.out).mono ?_);(case side1=>repeat (first|exact (Kd.C_below HR0.out HB.out)|(with_reducible refine Kd.C_alloc ?_ _)|(with_reducible refine Kd.C_drewN ?_ _)|(with_reducible refine Kd.C_drew ?_)));(case side2=>exact HC0.out);rintro e w' ⟨rfl,⟨nd,rfl⟩⟩;refine ⟨_,rfl,?_⟩)|((with_reducible refine gate_callee (f:=84) rfl ?_);refine goesL_ (some 23) rfl rfl Tryd.func84 (by kernel_rfl) rfl #[.slice A1 l1.length c1,.int .i64 x5_1] rfl (by (try simp only [List.map_toArray,List.map_cons,List.map_nil]);first|done|rfl) ?_;(with_reducible refine (penumbraref01_limb.calls _ _ l1 x5_1 t424 _ ?side1 ?side2 A6.out).mono ?_);(case side1=>repeat (first|exact (Kd.C_below HR1.out (Hu HB.out))|(with_reducible refine Kd.C_alloc ?_ _)|(with_reducible refine Kd.C_drewN ?_ _)|(with_reducible refine Kd.C_drew ?_)));(case side2=>exact HC1.out);rintro e w' ⟨rfl,⟨nd,rfl⟩⟩;refine ⟨_,rfl,?_⟩))
     go_ret
     exact ⟨by first|rfl|(simp [errW_none,errW_some] <;> rfl)|(simp only [← hji3];first|rfl|(simp [errW_none,errW_some] <;> rfl))|(simp [*,errW_none,errW_some] <;> rfl),Hu HB.out⟩
    ·rw [if_neg c7] at H
     have c7b0 : decide (t423 < t424)=false:=decide_eq_false c7
     clear c7
     by_cases c8 : t423 > t424
     ·rw [if_pos c8] at H
      have c8b0 : decide (t424 < t423)=true:=decide_eq_true c8
      clear c8
      obtain rfl:=Option.some.inj H
      go_wp2_with (first|((with_reducible refine gate_callee (f:=84) rfl ?_);refine goesL_ (some 20) rfl rfl Tryd.func84 (by kernel_rfl) rfl #[.slice A0 l0.length c0,.int .i64 x5_1] rfl (by (try simp only [List.map_toArray,List.map_cons,List.map_nil]);first|done|rfl) ?_;(with_reducible refine (penumbraref01_limb.calls _ _ l0 x5_1 t423 _ ?side1 ?side2 A5.out).mono ?_);(case side1=>repeat (first|exact (Kd.C_below HR0.out HB.out)|(with_reducible refine Kd.C_alloc ?_ _)|(with_reducible refine Kd.C_drewN ?_ _)|(with_reducible refine Kd.C_drew ?_)));(case side2=>exact HC0.out);rintro e w' ⟨rfl,⟨nd,rfl⟩⟩;refine ⟨_,rfl,?_⟩)|((with_reducible refine gate_callee (f:=84) rfl ?_);refine goesL_ (some 23) rfl rfl Tryd.func84 (by kernel_rfl) rfl #[.slice A1 l1.length c1,.int .i64 x5_1] rfl (by (try simp only [List.map_toArray,List.map_cons,List.map_nil]);first|done|rfl) ?_;(with_reducible refine (penumbraref01_limb.calls _ _ l1 x5_1 t424 _ ?side1 ?side2 A6.out).mono ?_);(case side1=>repeat (first|exact (Kd.C_below HR1.out (Hu HB.out))|(with_reducible refine Kd.C_alloc ?_ _)|(with_reducible refine Kd.C_drewN ?_ _)|(with_reducible refine Kd.C_drew ?_)));(case side2=>exact HC1.out);rintro e w' ⟨rfl,⟨nd,rfl⟩⟩;refine ⟨_,rfl,?_⟩))
      go_ret
      exact ⟨by first|rfl|(simp [errW_none,errW_some] <;> rfl)|(simp only [← hji3];first|rfl|(simp [errW_none,errW_some] <;> rfl))|(simp [*,errW_none,errW_some] <;> rfl),Hu HB.out⟩
     ·rw [if_neg c8] at H
      have c8b0 : decide (t424 < t423)=false:=decide_eq_false c8
      clear c8
      have H':=Aside0.mk H
      clear H
      go_wp2_with (first|((with_reducible refine gate_callee (f:=84) rfl ?_);refine goesL_ (some 20) rfl rfl Tryd.func84 (by kernel_rfl) rfl #[.slice A0 l0.length c0,.int .i64 x5_1] rfl (by (try simp only [List.map_toArray,List.map_cons,List.map_nil]);first|done|rfl) ?_;(with_reducible refine (penumbraref01_limb.calls _ _ l0 x5_1 t423 _ ?side1 ?side2 A5.out).mono ?_);(case side1=>repeat (first|exact (Kd.C_below HR0.out HB.out)|(with_reducible refine Kd.C_alloc ?_ _)|(with_reducible refine Kd.C_drewN ?_ _)|(with_reducible refine Kd.C_drew ?_)));(case side2=>exact HC0.out);rintro e w' ⟨rfl,⟨nd,rfl⟩⟩;refine ⟨_,rfl,?_⟩)|((with_reducible refine gate_callee (f:=84) rfl ?_);refine goesL_ (some 23) rfl rfl Tryd.func84 (by kernel_rfl) rfl #[.slice A1 l1.length c1,.int .i64 x5_1] rfl (by (try simp only [List.map_toArray,List.map_cons,List.map_nil]);first|done|rfl) ?_;(with_reducible refine (penumbraref01_limb.calls _ _ l1 x5_1 t424 _ ?side1 ?side2 A6.out).mono ?_);(case side1=>repeat (first|exact (Kd.C_below HR1.out (Hu HB.out))|(with_reducible refine Kd.C_alloc ?_ _)|(with_reducible refine Kd.C_drewN ?_ _)|(with_reducible refine Kd.C_drew ?_)));(case side2=>exact HC1.out);rintro e w' ⟨rfl,⟨nd,rfl⟩⟩;refine ⟨_,rfl,?_⟩))
      go_roundg k1
      case measure=>have:=HK1.out;omega
      case rel=>exact ⟨(wrap64 (x5_1 - 1)),(by first|rfl|(simp;done)|(simp [*];done)),H',⟨by have:=HK1.out;omega⟩,⟨Hu HB.out⟩⟩
   ·rw [if_neg c4] at H
    have c4b0 : decide (0≤x5_1)=false:=decide_eq_false c4
    clear c4
    obtain rfl:=Option.some.inj H
    go_wp2
    go_ret
    exact ⟨by first|rfl|(simp [errW_none,errW_some] <;> rfl)|(simp only [← hji3];first|rfl|(simp [errW_none,errW_some] <;> rfl))|(simp [*,errW_none,errW_some] <;> rfl),Hu HB.out⟩
end Go.Proofs.YtncdiodnbkhacaaDoor.Pq
end
end
section
section
namespace Go.Proofs.YtncdiodnbkhacaaDoor.Pq
open Go.RowKit Go.Proofs.YtncdiodnbkhacaaDoorW.PrintWords Go.Proofs.YtncdiodnbkhacaaDoorW.PrintLast Go.Proofs.YtncdiodnbkhacaaDoorW.PrintMore
attribute [local go_sem] max2_int min2_int max_two min_two max_three min_three max_four min_four
set_option linter.unusedVariables false
set_option linter.unusedSimpArgs false
set_option maxHeartbeats 8000000
set_option maxRecDepth 100000
theorem penumbraref01_Double.mono_l : ∀ k,(∀ y0 y1 y2,LeO (penumbraref01_Double.j0 k y0 y1 y2) (penumbraref01_Double.j0 (k+1) y0 y1 y2))∧(∀ y0 y1 y2 y3,LeO (penumbraref01_Double.l0 k y0 y1 y2 y3) (penumbraref01_Double.l0 (k+1) y0 y1 y2 y3))
|0=>⟨fun _ _ _ r h=>by simp [penumbraref01_Double.j0] at h,fun _ _ _ _ r h=>by simp [penumbraref01_Double.l0] at h⟩
|k+1=>by
  obtain ⟨ih0,ih1⟩:=penumbraref01_Double.mono_l k
  refine ⟨?_,?_⟩
  ·intro y0 y1 y2
   unfold penumbraref01_Double.j0
   with_reducible repeat' first
  |exact ih0 _ _ _
  |exact ih1 _ _ _ _
  |exact penumbraref01_Norm.mono _ _
  |exact LeO.refl _
  |exact LeO.none _
  |refine LeO.ite ?_ ?_
  |refine LeO.bind ?_ (fun _=>?_)
  ·intro y0 y1 y2 y3
   unfold penumbraref01_Double.l0
   with_reducible repeat' first
  |exact ih0 _ _ _
  |exact ih1 _ _ _ _
  |exact penumbraref01_Norm.mono _ _
  |exact LeO.refl _
  |exact LeO.none _
  |refine LeO.ite ?_ ?_
  |refine LeO.bind ?_ (fun _=>?_)
theorem penumbraref01_Double.mono : ∀ a0 a1 k,LeO (penumbraref01_Double.f k a0 a1) (penumbraref01_Double.f (k+1) a0 a1):=by
 intro a0 a1 k
 obtain ⟨ih0,ih1⟩:=penumbraref01_Double.mono_l k
 unfold penumbraref01_Double.f
 with_reducible repeat' first
  |exact ih0 _ _ _
  |exact ih1 _ _ _ _
  |exact penumbraref01_Norm.mono _ _
  |exact LeO.refl _
  |exact LeO.none _
  |refine LeO.ite ?_ ?_
  |refine LeO.bind ?_ (fun _=>?_)
theorem penumbraref01_Double.calls (k : Nat) (A0 : Option Addr) (c0 : Nat) (l0 : List Int) (a1 : Bool) (r : List Int) (w : World) (hr0 : Kd.C (Kd.int .u32) w A0 l0.length l0) (hc0 : l0.length≤c0) (h : penumbraref01_Double.f k l0 a1=some r) :
  Calls Tryd.prog 70 #[.slice A0 l0.length c0,.bool a1] w fun e w'=>∃ v0_ : Value,e=.returned (v0_)∧Kd.R (Kd.int .u32) 35 w' w.heap.size (fun _=>True) v0_ r∧Below w.heap.size w w':=by
 have HR0:=Aside0.mk hr0
 have HC0:=Aside0.mk hc0
 clear hr0 hc0
 have HB:=Aside0.mk (Below.refl w.heap.size w)
 have H : ((some (([] : List Int) : List Int)).bind fun y466=>(if a1=true then (penumbraref01_Double.j0 k l0 y466 1) else (penumbraref01_Double.j0 k l0 y466 0)))=some r:=h
 clear h
 obtain ⟨y466,hy466⟩ : ∃ y_ : List Int,y_=(([] : List Int)):=⟨_,rfl⟩
 replace H : (if a1=true then (penumbraref01_Double.j0 k l0 y466 1) else (penumbraref01_Double.j0 k l0 y466 0))=some r:=by first|(rw [hy466];with_reducible exact H)|(have H2_:=(Option.bind_some _ _).symm.trans H;rw [hy466];with_reducible exact H2_)|(have H2_:=(Option.bind_some _ _).symm.trans H;with_reducible exact H2_)|with_reducible exact H|(rw [hy466];exact H)|exact H
 have Ny466:=Aside0.mk hy466
 clear hy466
 have HC3:=Aside0.mk H
 clear H
 go_enter Tryd.func70,Tryd.ntmps70
 go_upto_if 10 with (first|((with_reducible refine gate_dst (N:=9) rfl ?_);refine Kd.R_lit (Kd.int .u32) _ 35 ?hg (N:=9) ?hd (xs:=([] : List Int)) (inner:=[]) (ok:=fun _=>True) (okp:=fun _=>True) ?hr ?hp (fun _ hk=>hk) trivial (Below.refl _ _) (Nat.le_refl _) (by simp) ?_;(case hd=>rfl);(case hg=>rfl);(case hr=>first|(go_simp;done)|(go_simp;(with_reducible rfl))|(go_simp;rfl)|(go_simp;simp only [hu,Int.emod_sub_emod]));(case hp=>exact (Reps.none _ _));intro v467 w4 ho5 hb hg_ hnew_;clear hg_ hnew_;(first|rw [← Ny466.out] at ho5|(simp only [Int.reduceToNat] at ho5;rw [← Ny466.out] at ho5));have n0_:=Aside0.mk (Kd.R_lower ho5 (below_size (Hu HB.out)));have n1_:=Aside0.mk (below_step (Hu HB.out) hb);clear HB;have HO468:=n0_;have HB:=n1_;clear n0_ n1_;clear hb ho5))
 (try simp only [Act.put,s0,s1,s2])
 go_cut [6] (fun v6 wc=>∃ (kq : Nat) (x6_2 : Int),v6=.int .u64 x6_2∧Aside0 (penumbraref01_Double.j0 kq l0 y466 x6_2=some r)∧Aside0 (kq≤k)∧Aside0 (Kd.R (Kd.int .u32) 35 wc w.heap.size (fun _=>True) v467 y466)∧Aside0 (Below w.heap.size w wc))
 case first =>
  have H:=HC3.out
  clear HC3
  by_cases c6 : a1=true
  ·subst c6
   rw [if_pos rfl] at H
   have H':=Aside0.mk H
   clear H
   go_wp2
   go_meet
   case rel=>exact ⟨_,(1),(by first|rfl|(simp;done)|(simp [*];done)),H',⟨by first|omega|exact Nat.le_refl _⟩,⟨Ru HO468.out⟩,⟨Hu HB.out⟩⟩
  ·replace c6:=Bool.eq_false_iff.mpr c6
   subst c6
   rw [if_neg (show ¬ (false=true) by decide)] at H
   have H':=Aside0.mk H
   clear H
   go_wp2
   go_meet
   case rel=>exact ⟨_,(0),(by first|rfl|(simp;done)|(simp [*];done)),H',⟨by first|omega|exact Nat.le_refl _⟩,⟨Ru HO468.out⟩,⟨Hu HB.out⟩⟩
 case rest =>
  clear HC3
  obtain ⟨kq,x6_2,rfl,HA,HJ2,HO_5,HB⟩:=hcut
  cases kq with
 |zero=>exact absurd HA.out (by simp [penumbraref01_Double.j0])
 |succ kj2 =>
   have H:=HA.out
   clear HA
   simp only [penumbraref01_Double.j0] at H
   have H':=Aside0.mk H
   clear H
   go_wp2
   go_loopg [5,6,7] kj2 (fun kq v5 v6 v7 w'=>∃ (x5_2 : List Int) (x6_2 : Int) (x7_2 : Int),v6=.int .u64 x6_2∧v7=.int .i64 x7_2∧Aside0 (penumbraref01_Double.l0 kq l0 x5_2 x6_2 x7_2=some r)∧Aside0 (kq≤kj2)∧Aside0 (Kd.R (Kd.int .u32) 35 w' w.heap.size (fun _=>True) v5 x5_2)∧Aside0 (Below w.heap.size w w'))
   case atStart=>exact ⟨(y466),(x6_2),(0),(by first|rfl|(simp;done)|(simp [*];done)),(by first|rfl|(simp;done)|(simp [*];done)),H',⟨Nat.le_refl _⟩,⟨Ru HO_5.out⟩,⟨Hu HB.out⟩⟩
   case round =>
    clear H'
    obtain ⟨x5_2,x6_2,x7_2,rfl,rfl,HA,HK2,HO_5,HB⟩:=hrel
    cases gk with
   |zero=>exact absurd HA.out (by simp [penumbraref01_Double.l0])
   |succ k2 =>
     have H:=HA.out
     clear HA
     simp only [penumbraref01_Double.l0] at H
     by_cases c7 : x7_2 < (l0.length : Int)
     ·rw [if_pos c7] at H
      have c7b0 : decide (x7_2 < (l0.length : Int))=true:=decide_eq_true c7
      clear c7
      by_cases c8 : 0≤x7_2
      case neg =>rw [if_neg c8] at H;exact absurd H (by simp)
      rw [if_pos c8] at H
      have c8b0 : decide (0≤x7_2)=true:=decide_eq_true c8
      clear c8
      by_cases c9 : x5_2.length < 35184372088832
      case neg =>rw [if_neg c9] at H;exact absurd H (by simp)
      rw [if_pos c9] at H
      have LMc9:=Aside0.mk c9
      clear c9
      obtain ⟨y470,hy470⟩ : ∃ y_ : List Int,y_=(x5_2++[(Int.tmod (IntKind.u64.wrap ((IntKind.u64.wrap (2 * (IntKind.u64.wrap (rd l0 x7_2))))+x6_2)) 4294967296) % 4294967296]):=⟨_,rfl⟩
      replace H : (penumbraref01_Double.l0 k2 l0 y470 (IntKind.u64.wrap (Int.tdiv (IntKind.u64.wrap ((IntKind.u64.wrap (2 * (IntKind.u64.wrap (rd l0 x7_2))))+x6_2)) 4294967296)) (wrap64 (x7_2+1)))=some r:=by first|(rw [hy470];with_reducible exact H)|(have H2_:=(Option.bind_some _ _).symm.trans H;rw [hy470];with_reducible exact H2_)|(have H2_:=(Option.bind_some _ _).symm.trans H;with_reducible exact H2_)|with_reducible exact H|(rw [hy470];exact H)|exact H
      have Ny470:=Aside0.mk hy470
      clear hy470
      have H':=Aside0.mk H
      clear H
      have p469 : 0≤(x7_2 : Int):=of_decide_eq_true (by assumption)
      have q469 : x7_2 < (l0.length : Int):=of_decide_eq_true (by assumption)
      obtain ⟨ad469,e469,hx469_0⟩:=Kd.at_int HR0.out x7_2 p469 q469
      cases e469
      replace hx469_0:=(HB.out.cell (World.block_lt_of_cell? w _ hx469_0)).trans hx469_0
      replace p469:=eq_true p469
      replace q469:=eq_true q469
      go_wp2_with (first|((with_reducible refine gate_builtin (b:=.append) (xs:=#[.tmp 25,.tmp 29]) rfl ?_);at_builtin;refine Kd.R_append (Kd.int .u32) (w0:=w) w.heap.size rfl (.tmp 25) (.tmp 29) 23 35 (.int .u32 0) 4 rfl Tryd.underlying23 info35 rfl (by decide) (by omega) u5 x5_2 ((Int.tmod (IntKind.u64.wrap ((IntKind.u64.wrap (2 * (IntKind.u64.wrap (rd l0 x7_2))))+x6_2)) 4294967296) % 4294967296) [.int .u32 ((Int.tmod (IntKind.u64.wrap ((IntKind.u64.wrap (2 * (IntKind.u64.wrap (rd l0 x7_2))))+x6_2)) 4294967296) % 4294967296)] (fun _=>True) (fun _=>False) rfl rfl ?aP (fun _ hk=>hk.elim) ?aF ?aO ?aB ?aS ?aL ?_;(case aP=>exact rfl);(case aB=>exact (Hu HB.out));(case aF=>exact (fun _ _=>trivial));(case aO=>exact (Ru HO_5.out));(case aS=>exact (below_size (Hu HB.out)));(case aL=>have:=LMc9.out;omega);intro v471 w10 ho hb hg hat;rw [← Ny470.out] at ho;have n0_:=Aside0.mk (hb);have n1_:=Aside0.mk (ho);clear HB;clear HO_5;have HB:=n0_;have HO472:=n1_;clear n0_ n1_;clear ho hb hg hat))
      go_roundg k2
      case measure=>have:=HJ2.out;have:=HK2.out;omega
      case rel=>exact ⟨(y470),(IntKind.u64.wrap (Int.tdiv (IntKind.u64.wrap ((IntKind.u64.wrap (2 * (IntKind.u64.wrap (rd l0 x7_2))))+x6_2)) 4294967296)),(wrap64 (x7_2+1)),(by first|rfl|(simp;done)|(simp [*];done)),(by first|rfl|(simp;done)|(simp [*];done)),H',⟨by have:=HJ2.out;have:=HK2.out;omega⟩,⟨Ru HO472.out⟩,⟨Hu HB.out⟩⟩
     ·rw [if_neg c7] at H
      have c7b0 : decide (x7_2 < (l0.length : Int))=false:=decide_eq_false c7
      clear c7
      by_cases c11 : x5_2.length < 35184372088832
      case neg =>rw [if_neg c11] at H;exact absurd H (by simp)
      rw [if_pos c11] at H
      have LMc11:=Aside0.mk c11
      clear c11
      obtain ⟨y473,hy473⟩ : ∃ y_ : List Int,y_=(x5_2++[(x6_2) % 4294967296]):=⟨_,rfl⟩
      replace H : ((penumbraref01_Norm.f k2 y473).bind fun t476=>(some t476))=some r:=by first|(rw [hy473];with_reducible exact H)|(have H2_:=(Option.bind_some _ _).symm.trans H;rw [hy473];with_reducible exact H2_)|(have H2_:=(Option.bind_some _ _).symm.trans H;with_reducible exact H2_)|with_reducible exact H|(rw [hy473];exact H)|exact H
      have Ny473:=Aside0.mk hy473
      clear hy473
      replace H:=Option.bind_eq_some_iff.mp H
      obtain ⟨t476,A120,H⟩:=H
      try dsimp only at H
      have A12:=Aside0.mk A120
      clear A120
      obtain rfl:=Option.some.inj H
      go_wp2_with (first|((with_reducible refine gate_builtin (b:=.append) (xs:=#[.tmp 33,.tmp 36]) rfl ?_);at_builtin;refine Kd.R_append (Kd.int .u32) (w0:=w) w.heap.size rfl (.tmp 33) (.tmp 36) 23 35 (.int .u32 0) 4 rfl Tryd.underlying23 info35 rfl (by decide) (by omega) u5 x5_2 ((x6_2) % 4294967296) [.int .u32 ((x6_2) % 4294967296)] (fun _=>True) (fun _=>False) rfl rfl ?aP (fun _ hk=>hk.elim) ?aF ?aO ?aB ?aS ?aL ?_;(case aP=>exact rfl);(case aB=>exact (Hu HB.out));(case aF=>exact (fun _ _=>trivial));(case aO=>exact (Ru HO_5.out));(case aS=>exact (below_size (Hu HB.out)));(case aL=>have:=LMc11.out;omega);intro v474 w13 ho hb hg hat;rw [← Ny473.out] at ho;have n0_:=Aside0.mk (hb);have n1_:=Aside0.mk (ho);clear HB;clear HO_5;have HB:=n0_;have HO475:=n1_;clear n0_ n1_;clear ho hb hg hat;obtain ⟨Ao14,co14,eo14⟩:=Kd.R_slice HO475.out;subst eo14)|((with_reducible refine gate_callee (f:=58) rfl ?_);refine goesL_ (some 39) rfl rfl Tryd.func58 (by kernel_rfl) rfl #[.slice Ao14 y473.length co14] rfl (by (try simp only [List.map_toArray,List.map_cons,List.map_nil]);first|done|rfl) ?_;(with_reducible refine (penumbraref01_Norm.calls k2 _ _ y473 t476 _ ?side1 ?side2 A12.out).mono ?_);(case side1=>exact Cu (Kd.R_reads' HO475.out).2.2);(case side2=>exact (Kd.R_reads' HO475.out).2.1);rintro e w15 ⟨v477,rfl,ho0,hb⟩;refine ⟨_,rfl,?_⟩;have n0_:=Aside0.mk (Kd.R_elder' (Ru HO475.out) (Kd.R_base ho0) hb);have n1_:=Aside0.mk (Kd.R_lower (Kd.R_new' ho0 (Kd.R_lt (Ru HO475.out))) (below_size (Hu HB.out)));have n2_:=Aside0.mk (below_step (Hu HB.out) hb);clear HO475;clear HB;have HO475:=n0_;have HO478:=n1_;have HB:=n2_;clear n0_ n1_ n2_))
      go_ret
      exact ⟨_,by first|rfl|(simp [errW_none,errW_some] <;> rfl)|(simp [*,errW_none,errW_some] <;> rfl),by (with_reducible repeat (first|apply Ra|apply Rn|apply Rd));exact Kd.R_mono HO478.out (fun _ hk=>trivial),Hu HB.out⟩
end Go.Proofs.YtncdiodnbkhacaaDoor.Pq
end
end
section
section
namespace Go.Proofs.YtncdiodnbkhacaaDoor.Pq
open Go.RowKit Go.Proofs.YtncdiodnbkhacaaDoorW.PrintWords Go.Proofs.YtncdiodnbkhacaaDoorW.PrintLast Go.Proofs.YtncdiodnbkhacaaDoorW.PrintMore
attribute [local go_sem] max2_int min2_int max_two min_two max_three min_three max_four min_four
set_option linter.unusedVariables false
set_option linter.unusedSimpArgs false
set_option maxHeartbeats 8000000
set_option maxRecDepth 100000
theorem penumbraref01_Half.mono_l : ∀ k,(∀ y0 y1 y2,LeO (penumbraref01_Half.l0 k y0 y1 y2) (penumbraref01_Half.l0 (k+1) y0 y1 y2))
|0=>fun _ _ _ r h=>by simp [penumbraref01_Half.l0] at h
|k+1=>by
  have ih0:=penumbraref01_Half.mono_l k
  ·intro y0 y1 y2
   unfold penumbraref01_Half.l0
   with_reducible repeat' first
  |exact ih0 _ _ _
  |exact penumbraref01_Norm.mono _ _
  |exact LeO.refl _
  |exact LeO.none _
  |refine LeO.ite ?_ ?_
  |refine LeO.bind ?_ (fun _=>?_)
theorem penumbraref01_Half.mono : ∀ a0 k,LeO (penumbraref01_Half.f k a0) (penumbraref01_Half.f (k+1) a0):=by
 intro a0 k
 have ih0:=penumbraref01_Half.mono_l k
 unfold penumbraref01_Half.f
 with_reducible repeat' first
  |exact ih0 _ _ _
  |exact penumbraref01_Norm.mono _ _
  |exact LeO.refl _
  |exact LeO.none _
  |refine LeO.ite ?_ ?_
  |refine LeO.bind ?_ (fun _=>?_)
def penumbraref01_Half.T5 : Bool × List (List Nat × List Nat):=(true,[([],[]),([],[]),([],[]),([2],[2]),([1,3],[1,3]),([4],[4]),([5],[5]),([],[]),([],[]),([7,8],[7,8]),([9],[9]),([10],[10]),([6,11],[6,11]),([12],[12]),([13],[13]),([14],[14]),([0,15,4],[0,15]),([16,16,0,1,2,3,4,5,6,7,8,9,10,11,12,13,14,15,16],[0,16])])
def penumbraref01_Half.B5 : List Nat:=[0,0,0,4,14,30,62,0,0,384,896,1920,4094,8190,16382,32766,65535,131071]
theorem penumbraref01_Half.tab5 : rtab .any (opsOf Tryd.f73 5)=penumbraref01_Half.T5:=by kernel_rfl
theorem penumbraref01_Half.bits5 : waitsOk penumbraref01_Half.T5.2 penumbraref01_Half.B5=true:=by kernel_rfl
theorem penumbraref01_Half.calls (k : Nat) (A0 : Option Addr) (c0 : Nat) (l0 : List Int) (r : List Int) (w : World) (hr0 : Kd.C (Kd.int .u32) w A0 l0.length l0) (hc0 : l0.length≤c0) (h : penumbraref01_Half.f k l0=some r) :
  Calls Tryd.prog 73 #[.slice A0 l0.length c0] w fun e w'=>∃ v0_ : Value,e=.returned (v0_)∧Kd.R (Kd.int .u32) 35 w' w.heap.size (fun _=>True) v0_ r∧Below w.heap.size w w':=by
 have HR0:=Aside0.mk hr0
 have HC0:=Aside0.mk hc0
 clear hr0 hc0
 have HB:=Aside0.mk (Below.refl w.heap.size w)
 have H : (penumbraref01_Half.l0 k l0 (([] : List Int)) 0)=some r:=h
 clear h
 obtain ⟨y500,hy500⟩ : ∃ y_ : List Int,y_=(([] : List Int)):=⟨_,rfl⟩
 replace H : (penumbraref01_Half.l0 k l0 y500 0)=some r:=by first|(rw [hy500];with_reducible exact H)|(have H2_:=(Option.bind_some _ _).symm.trans H;rw [hy500];with_reducible exact H2_)|(have H2_:=(Option.bind_some _ _).symm.trans H;with_reducible exact H2_)|with_reducible exact H|(rw [hy500];exact H)|exact H
 have Ny500:=Aside0.mk hy500
 clear hy500
 have H':=Aside0.mk H
 clear H
 go_enter Tryd.func73,Tryd.ntmps73
 go_wp2_with (first|((with_reducible refine gate_dst (N:=5) rfl ?_);refine Kd.R_lit (Kd.int .u32) _ 35 ?hg (N:=5) ?hd (xs:=([] : List Int)) (inner:=[]) (ok:=fun _=>True) (okp:=fun _=>True) ?hr ?hp (fun _ hk=>hk) trivial (Below.refl _ _) (Nat.le_refl _) (by simp) ?_;(case hd=>rfl);(case hg=>rfl);(case hr=>first|(go_simp;done)|(go_simp;(with_reducible rfl))|(go_simp;rfl)|(go_simp;simp only [hu,Int.emod_sub_emod]));(case hp=>exact (Reps.none _ _));intro v501 w2 ho3 hb hg_ hnew_;clear hg_ hnew_;(first|rw [← Ny500.out] at ho3|(simp only [Int.reduceToNat] at ho3;rw [← Ny500.out] at ho3));have n0_:=Aside0.mk (Kd.R_lower ho3 (below_size (Hu HB.out)));have n1_:=Aside0.mk (below_step (Hu HB.out) hb);clear HB;have HO502:=n0_;have HB:=n1_;clear n0_ n1_;clear hb ho3))
 go_loopg [3,4] k (fun kq v3 v4 w'=>∃ (x3_1 : List Int) (x4_1 : Int),v4=.int .i64 x4_1∧Aside0 (penumbraref01_Half.l0 kq l0 x3_1 x4_1=some r)∧Aside0 (kq≤k)∧Aside0 (Kd.R (Kd.int .u32) 35 w' w.heap.size (fun _=>True) v3 x3_1)∧Aside0 (Below w.heap.size w w'))
 case atStart=>exact ⟨(y500),(0),(by first|rfl|(simp;done)|(simp [*];done)),H',⟨Nat.le_refl _⟩,⟨Ru HO502.out⟩,⟨Hu HB.out⟩⟩
 case round =>
  clear H'
  obtain ⟨x3_1,x4_1,rfl,HA,HK1,HO_3,HB⟩:=hrel
  cases gk with
 |zero=>exact absurd HA.out (by simp [penumbraref01_Half.l0])
 |succ k1 =>
   have H:=HA.out
   clear HA
   simp only [penumbraref01_Half.l0] at H
   by_cases c4 : x4_1 < (l0.length : Int)
   ·rw [if_pos c4] at H
    have c4b0 : decide (x4_1 < (l0.length : Int))=true:=decide_eq_true c4
    clear c4
    replace H:=Option.bind_eq_some_iff.mp H
    obtain ⟨t503,A50,H⟩:=H
    try dsimp only at H
    have A5:=Aside0.mk A50
    clear A50
    by_cases c6 : 0≤x4_1
    case neg =>rw [if_neg c6] at H;exact absurd H (by simp)
    rw [if_pos c6] at H
    have c6b0 : decide (0≤x4_1)=true:=decide_eq_true c6
    clear c6
    by_cases c7 : x3_1.length < 35184372088832
    case neg =>rw [if_neg c7] at H;exact absurd H (by simp)
    rw [if_pos c7] at H
    have LMc7:=Aside0.mk c7
    clear c7
    obtain ⟨y505,hy505⟩ : ∃ y_ : List Int,y_=(x3_1++[(IntKind.u64.wrap (Int.tdiv (IntKind.u64.wrap ((IntKind.u64.wrap ((Int.tmod t503 2) * 4294967296))+(IntKind.u64.wrap (rd l0 x4_1)))) 2)) % 4294967296]):=⟨_,rfl⟩
    replace H : (penumbraref01_Half.l0 k1 l0 y505 (wrap64 (x4_1+1)))=some r:=by first|(rw [hy505];with_reducible exact H)|(have H2_:=(Option.bind_some _ _).symm.trans H;rw [hy505];with_reducible exact H2_)|(have H2_:=(Option.bind_some _ _).symm.trans H;with_reducible exact H2_)|with_reducible exact H|(rw [hy505];exact H)|exact H
    have Ny505:=Aside0.mk hy505
    clear hy505
    have H':=Aside0.mk H
    clear H
    try go_wp2
    have n0_:=Aside0.mk (Rd HO_3.out)
    have n1_:=Aside0.mk (b1 HB.out)
    clear HO_3
    clear HB
    have HO_3:=n0_
    have HB:=n1_
    clear n0_ n1_
    have p504 : 0≤(x4_1 : Int):=of_decide_eq_true (by assumption)
    have q504 : x4_1 < (l0.length : Int):=of_decide_eq_true (by assumption)
    obtain ⟨ad504,e504,hx504_0⟩:=Kd.at_int HR0.out x4_1 p504 q504
    have hw504_0:=hx504_0
    cases e504
    replace hx504_0:=(HB.out.cell (World.block_lt_of_cell? w _ hx504_0)).trans hx504_0
    replace p504:=eq_true p504
    replace q504:=eq_true q504
    refine start_ (n:=18) (S:=fun w'=>w'.cell? (ad504.add (x4_1).toNat)=some (.int .u32 (rd l0 x4_1))) (ds:=[]) #[false,false,false,false,false,false,false,false,false,false,false,false,false,false,false,false,false,false] (by kernel_rfl) rfl rfl (((HB.out.cell (World.block_lt_of_cell? w _ hw504_0)).trans hw504_0)) (fun hHeld=>?_);refine with_tabW penumbraref01_Half.tab5 penumbraref01_Half.bits5 (fun HT_ HW_=>?_)
    generalize wr.drew=w8 at HO_3 HB hx504_0 hHeld ⊢
    refine pv (i:=0) (N:=some 12) (v:=?_) (a':=?_) rfl rfl (any_of HT_.out (by kernel_rfl)) (Or.inl ⟨by rfl,?_⟩) ?_ ?_
    rotate_left
    ·intro w'
     go_simp
     with_reducible rfl
    rotate_left
    ·simp only [Act.put,s0,s1,s2,i64_w,i32_w]
     rfl
    refine pv (i:=1) (N:=some 13) (v:=?_) (a':=?_) rfl rfl (any_of HT_.out (by kernel_rfl)) (Or.inl ⟨by rfl,?_⟩) ?_ ?_
    rotate_left
    ·intro w'
     go_simp
     with_reducible rfl
    rotate_left
    ·simp only [Act.put,s0,s1,s2,i64_w,i32_w]
     rfl
    refine pv (i:=2) (N:=some 14) (v:=?_) (a':=?_) rfl rfl (any_of HT_.out (by kernel_rfl)) (Or.inl ⟨by rfl,?_⟩) ?_ ?_
    rotate_left
    ·intro w'
     go_simp
     with_reducible rfl
    rotate_left
    ·simp only [Act.put,s0,s1,s2,i64_w,i32_w]
     rfl
    refine pv (i:=3) (N:=some 15) (v:=?_) (a':=?_) rfl rfl (any_of HT_.out (by kernel_rfl)) (Or.inl ⟨by rfl,?_⟩) ?_ ?_
    rotate_left
    ·intro w'
     go_simp
     with_reducible rfl
    rotate_left
    ·simp only [Act.put,s0,s1,s2,i64_w,i32_w]
     rfl
    refine pv (i:=7) (N:=some 19) (v:=?_) (a':=?_) rfl rfl (any_of HT_.out (by kernel_rfl)) (Or.inl ⟨by rfl,?_⟩) ?_ ?_
    rotate_left
    ·intro w'
     go_simp
     with_reducible rfl
    rotate_left
    ·simp only [Act.put,s0,s1,s2,i64_w,i32_w]
     rfl
    refine pv (i:=8) (N:=some 20) (v:=?_) (a':=?_) rfl rfl (any_of HT_.out (by kernel_rfl)) (Or.inl ⟨by rfl,?_⟩) ?_ ?_
    rotate_left
    ·intro w'
     go_simp
     with_reducible rfl
    rotate_left
    ·simp only [Act.put,s0,s1,s2,i64_w,i32_w]
     rfl
    refine pv (i:=9) (N:=some 21) (v:=?_) (a':=?_) rfl rfl (any_of HT_.out (by kernel_rfl)) (Or.inl ⟨by rfl,?_⟩) ?_ ?_
    rotate_left
    ·intro w'
     go_simp
     with_reducible rfl
    rotate_left
    ·simp only [Act.put,s0,s1,s2,i64_w,i32_w]
     rfl
    refine take_ (i:=10) (N:=some 22) (v:=?_) (a':=?_) #[true,true,true,true,false,false,false,true,true,true,true,false,false,false,false,false,false,false] rfl rfl (take_ofW HT_.out HW_.out (by kernel_rfl)) (fun _ _ _ h=>h) (Or.inl ⟨by rfl,?_⟩) hHeld ?_ ?_
    rotate_left
    ·intro w' s0
     go_simp
     with_reducible rfl
    rotate_left
    ·simp only [Act.put,s0,s1,s2,i64_w,i32_w]
     rfl
    refine pv (i:=11) (N:=some 23) (v:=?_) (a':=?_) rfl rfl (any_of HT_.out (by kernel_rfl)) (Or.inl ⟨by rfl,?_⟩) ?_ ?_
    rotate_left
    ·intro w'
     go_simp
     with_reducible rfl
    rotate_left
    ·simp only [Act.put,s0,s1,s2,i64_w,i32_w]
     rfl
    refine one_ (i:=4) (N:=some 16) #[true,true,true,true,true,false,false,true,true,true,true,true,false,false,false,false,false,false] rfl rfl (one_of HT_.out (by kernel_rfl)) (by decide) (fun K hK=>?_)
    refine goes_ Tryd.func84 (by kernel_rfl) rfl #[.slice (some ad504) l0.length c0,.int .i64 (wrap64 (x4_1+1))] (by rfl) rfl rfl (by (try simp only [List.map_toArray,List.map_cons,List.map_nil]);first|done|rfl) ?_
    with_reducible refine (penumbraref01_limb.calls _ _ l0 (wrap64 (x4_1+1)) t503 _ ?side1 ?side2 A5.out).mono ?_
    (case side1=>repeat (first|exact (Kd.C_below HR0.out HB.out)|(with_reducible refine Kd.C_alloc ?_ _)|(with_reducible refine Kd.C_drewN ?_ _)|(with_reducible refine Kd.C_drew ?_)))
    (case side2=>exact HC0.out)
    rintro e w' ⟨rfl,⟨nd,rfl⟩⟩
    refine ⟨_,rfl,?_⟩
    refine hK.out _ _ (((HB.out.cell (World.block_lt_of_cell? w _ hw504_0)).trans hw504_0)) (fun hHeld=>?_)
    clear hK K
    refine norm_ (a':=?_) ?_ ?_
    rotate_left
    ·show Act.put _ (some 16) _=_
     simp only [Act.put,s0,s1,s2,i64_w,i32_w]
     rfl
    refine pv (i:=5) (N:=some 17) (v:=?_) (a':=?_) rfl rfl (any_of HT_.out (by kernel_rfl)) (Or.inl ⟨by rfl,?_⟩) ?_ ?_
    rotate_left
    ·intro w'
     go_simp
     with_reducible rfl
    rotate_left
    ·simp only [Act.put,s0,s1,s2,i64_w,i32_w]
     rfl
    refine pv (i:=6) (N:=some 18) (v:=?_) (a':=?_) rfl rfl (any_of HT_.out (by kernel_rfl)) (Or.inl ⟨by rfl,?_⟩) ?_ ?_
    rotate_left
    ·intro w'
     go_simp
     with_reducible rfl
    rotate_left
    ·simp only [Act.put,s0,s1,s2,i64_w,i32_w]
     rfl
    refine pv (i:=12) (N:=some 24) (v:=?_) (a':=?_) rfl rfl (any_of HT_.out (by kernel_rfl)) (Or.inl ⟨by rfl,?_⟩) ?_ ?_
    rotate_left
    ·intro w'
     go_simp
     with_reducible rfl
    rotate_left
    ·simp only [Act.put,s0,s1,s2,i64_w,i32_w]
     rfl
    refine pv (i:=13) (N:=some 25) (v:=?_) (a':=?_) rfl rfl (any_of HT_.out (by kernel_rfl)) (Or.inl ⟨by rfl,?_⟩) ?_ ?_
    rotate_left
    ·intro w'
     go_simp
     with_reducible rfl
    rotate_left
    ·simp only [Act.put,s0,s1,s2,i64_w,i32_w]
     rfl
    refine pv (i:=14) (N:=some 26) (v:=?_) (a':=?_) rfl rfl (any_of HT_.out (by kernel_rfl)) (Or.inl ⟨by rfl,?_⟩) ?_ ?_
    rotate_left
    ·intro w'
     go_simp
     with_reducible rfl
    rotate_left
    ·simp only [Act.put,s0,s1,s2,i64_w,i32_w]
     rfl
    refine one_ (i:=15) (N:=some 27) #[true,true,true,true,true,true,true,true,true,true,true,true,true,true,true,true,false,false] rfl rfl (one_of HT_.out (by kernel_rfl)) (by decide) (fun K hK=>?_)
    refine value_ (w1:=?_) (v:=?_) (by rfl) rfl ?_ ?_
    rotate_left 2
    ·go_simp
     constructor
     ·rfl
     ·rfl
    refine hK.out _ _ ((World.cell?_alloc_lt _ _ _ (World.block_lt_of_cell? _ _ (((HB.out.cell (World.block_lt_of_cell? w _ hw504_0)).trans hw504_0)))).trans (((HB.out.cell (World.block_lt_of_cell? w _ hw504_0)).trans hw504_0))) (fun hHeld=>?_)
    clear hK K
    refine norm_ (a':=?_) ?_ ?_
    rotate_left
    ·show Act.put _ (some 27) _=_
     simp only [Act.put,s0,s1,s2,i64_w,i32_w]
     rfl
    refine one_ (i:=16) (N:=some 28) #[true,true,true,true,true,true,true,true,true,true,true,true,true,true,true,true,true,false] rfl rfl (one_of HT_.out (by kernel_rfl)) (by decide) (fun K hK=>?_)
    refine Kd.R_append_step (Kd.int .u32) (w0:=w) w.heap.size (by rfl) (.tmp 12) (.tmp 27) 23 35 (.int .u32 0) 4 rfl Tryd.underlying23 info35 rfl (by decide) (by omega) u3 x3_1 ((IntKind.u64.wrap (Int.tdiv (IntKind.u64.wrap ((IntKind.u64.wrap ((Int.tmod t503 2) * 4294967296))+(IntKind.u64.wrap (rd l0 x4_1)))) 2)) % 4294967296) [.int .u32 ((IntKind.u64.wrap (Int.tdiv (IntKind.u64.wrap ((IntKind.u64.wrap ((Int.tmod t503 2) * 4294967296))+(IntKind.u64.wrap (rd l0 x4_1)))) 2)) % 4294967296)] (fun _=>True) (fun _=>False) rfl rfl ?aP (fun _ hk=>hk.elim) ?aF ?aO ?aB ?aS ?aL ?_
    (case aP=>exact rfl)
    (case aB=>exact (Hu HB.out))
    (case aF=>exact (fun _ _=>trivial))
    (case aO=>exact (Ru HO_3.out))
    (case aS=>exact (below_size (Hu HB.out)))
    (case aL=>have:=LMc7.out;omega)
    intro v506 w9 ho hb hg hat
    rw [← Ny505.out] at ho
    have n0_:=Aside0.mk (hb)
    have n1_:=Aside0.mk (ho)
    clear HB
    clear HO_3
    have HB:=n0_
    have HO507:=n1_
    clear n0_ n1_
    clear ho hb hg hat
    refine hK.out _ _ (((HB.out.cell (World.block_lt_of_cell? w _ hw504_0)).trans hw504_0)) (fun hHeld=>?_)
    clear hK K
    refine norm_ (a':=?_) ?_ ?_
    rotate_left
    ·show Act.put _ (some 28) _=_
     simp only [Act.put,s0,s1,s2,i64_w,i32_w]
     rfl
    refine pv (i:=17) (N:=some 3) (v:=?_) (a':=?_) rfl rfl (any_of HT_.out (by kernel_rfl)) (Or.inl ⟨by rfl,?_⟩) ?_ ?_
    rotate_left
    ·intro w'
     go_simp
     with_reducible rfl
    rotate_left
    ·simp only [Act.put,s0,s1,s2,i64_w,i32_w]
     rfl
    refine done_ (done_of HT_.out (by kernel_rfl)) ?_
    try go_wp2
    go_roundg k1
    case measure=>have:=HK1.out;omega
    case rel=>exact ⟨(y505),(wrap64 (x4_1+1)),(by first|rfl|(simp;done)|(simp [*];done)),H',⟨by have:=HK1.out;omega⟩,⟨Ru HO507.out⟩,⟨Hu HB.out⟩⟩
   ·rw [if_neg c4] at H
    have c4b0 : decide (x4_1 < (l0.length : Int))=false:=decide_eq_false c4
    clear c4
    replace H:=Option.bind_eq_some_iff.mp H
    obtain ⟨t508,A100,H⟩:=H
    try dsimp only at H
    have A10:=Aside0.mk A100
    clear A100
    obtain rfl:=Option.some.inj H
    obtain ⟨Ao11,co11,eo11⟩:=Kd.R_slice HO_3.out
    subst eo11
    go_wp2_with (first|((with_reducible refine gate_callee (f:=58) rfl ?_);refine goesL_ (some 30) rfl rfl Tryd.func58 (by kernel_rfl) rfl #[.slice Ao11 x3_1.length co11] rfl (by (try simp only [List.map_toArray,List.map_cons,List.map_nil]);first|done|rfl) ?_;(with_reducible refine (penumbraref01_Norm.calls k1 _ _ x3_1 t508 _ ?side1 ?side2 A10.out).mono ?_);(case side1=>exact Cu (Kd.R_reads' HO_3.out).2.2);(case side2=>exact (Kd.R_reads' HO_3.out).2.1);rintro e w12 ⟨v509,rfl,ho0,hb⟩;refine ⟨_,rfl,?_⟩;have n0_:=Aside0.mk (Kd.R_elder' (Ru HO_3.out) (Kd.R_base ho0) hb);have n1_:=Aside0.mk (Kd.R_lower (Kd.R_new' ho0 (Kd.R_lt (Ru HO_3.out))) (below_size (Hu HB.out)));have n2_:=Aside0.mk (below_step (Hu HB.out) hb);clear HO_3;clear HB;have HO_3:=n0_;have HO510:=n1_;have HB:=n2_;clear n0_ n1_ n2_))
    go_ret
    exact ⟨_,by first|rfl|(simp [errW_none,errW_some] <;> rfl)|(simp [*,errW_none,errW_some] <;> rfl),by (with_reducible repeat (first|apply Ra|apply Rn|apply Rd));exact Kd.R_mono HO510.out (fun _ hk=>trivial),Hu HB.out⟩
end Go.Proofs.YtncdiodnbkhacaaDoor.Pq
end
end
