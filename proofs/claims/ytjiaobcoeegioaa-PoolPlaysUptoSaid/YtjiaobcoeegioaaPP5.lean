import Derived.Test.YtjiaobcoeegioaaPP4
set_option linter.unusedVariables false
set_option linter.unusedSimpArgs false
section
namespace Go.Proofs.Ytjiaobcoeegioaa.Pq
open Go.RowKit Go.Proofs.YtjiaobcoeegioaaW.PrintWords Go.Proofs.YtjiaobcoeegioaaW.PrintLast Go.Proofs.YtjiaobcoeegioaaW.PrintMore
attribute [local go_sem] max2_int min2_int max_two min_two max_three min_three max_four min_four
set_option maxHeartbeats 8000000
set_option maxRecDepth 100000
theorem penumbraref01_at.calls (a0 : Int) (a1 : Int) (r : List Int) (w : World) (h : penumbraref01_at.f a0 a1=some r) :
  Calls Try.prog 78 #[.int .u64 a0,.int .i64 a1] w fun e w'=>∃ v0_ : Value,e=.returned (v0_)∧Kd.R (Kd.int .u32) 82 w' w.heap.size (fun _=>True) v0_ r∧Below w.heap.size w w':=by
 have HB:=Aside0.mk (Below.refl w.heap.size w);have H : (if 0≤a1 then (if (a1 : Int).toNat≤70368744177664 then ((some (List.replicate (a1 : Int).toNat 0 : List Int)).bind fun y580=>((some (([(Int.tmod a0 4294967296) % 4294967296,(IntKind.u64.wrap (Int.tdiv a0 4294967296)) % 4294967296] : List Int) : List Int)).bind fun y583=>(if y580.length+y583.length < 35184372088832 then (some (y580++y583)) else (none)))) else (none)) else (none))=some r:=h;clear h;refine ifT H ?_;clear H;intro c3 H;have c3b0:=eq_true c3;have c3b1 : decide (0≤a1)=true:=decide_eq_true c3;clear c3;refine ifT H ?_;clear H;intro c4 H;have c4b0:=eq_true c4;have c4b1 : decide ((a1 : Int).toNat≤70368744177664)=true:=decide_eq_true c4;clear c4;obtain ⟨y580,hy_⟩ : ∃ y_ : List Int,y_=(List.replicate (a1 : Int).toNat 0):=⟨_,rfl⟩;replace H : ((some (([(Int.tmod a0 4294967296) % 4294967296,(IntKind.u64.wrap (Int.tdiv a0 4294967296)) % 4294967296] : List Int) : List Int)).bind fun y583=>(if y580.length+y583.length < 35184372088832 then (some (y580++y583)) else (none)))=some r:=yH H;have Ny580:=Aside0.mk hy_;clear hy_;obtain ⟨y583,hy_⟩ : ∃ y_ : List Int,y_=(([(Int.tmod a0 4294967296) % 4294967296,(IntKind.u64.wrap (Int.tdiv a0 4294967296)) % 4294967296] : List Int)):=⟨_,rfl⟩;replace H : (if y580.length+y583.length < 35184372088832 then (some (y580++y583)) else (none))=some r:=yH H;have Ny583:=Aside0.mk hy_;clear hy_;refine ifT H ?_;clear H;intro c5 H;have LMc5:=Aside0.mk c5;clear c5;obtain ⟨y586,hy_⟩ : ∃ y_ : List Int,y_=(y580++y583):=⟨_,rfl⟩
 replace H : (some y586)=some r:=yH H;have Ny586:=Aside0.mk hy_;clear hy_;obtain rfl:=Option.some.inj H
 go_enter Try.func78,Try.ntmps78
 go_wp2_with (first|((with_reducible refine gate_dst (N:=6) rfl ?_);refine Kd.R_make (Kd.int .u32) _ 82 rfl (N:=6) rfl 61 _ _ rfl a1 rfl rfl Try.underlying61 (.int .u32 0) 4 info82 rfl (by decide) (by omega) 0 (ok:=fun _=>True) (okp:=fun _=>True) rfl (fun _ hk=>hk) trivial (oA) (Nat.le_trans (Nat.mul_le_mul_right _ (oA : a1.toNat≤70368744177664)) (by omega)) (Below.refl _ _) (Nat.le_refl _) ?_;intro v581 w6 ho7 hb hg_ hnew_;clear hg_ hnew_;(first|rw [← Ny580.out] at ho7|(simp only [Int.reduceToNat] at ho7;rw [← Ny580.out] at ho7));have HO582:=Aside0.mk (Kd.R_lower ho7 (below_size (bL HB.out)));replace HB:=bH HB hb;clear hb ho7)|((with_reducible refine gate_dst (N:=13) rfl ?_);refine Kd.R_lit (Kd.int .u32) _ 82 ?hg (N:=13) ?hd (xs:=([(Int.tmod a0 4294967296) % 4294967296,(IntKind.u64.wrap (Int.tdiv a0 4294967296)) % 4294967296] : List Int)) (inner:=[.int .u32 ((Int.tmod a0 4294967296) % 4294967296),.int .u32 ((IntKind.u64.wrap (Int.tdiv a0 4294967296)) % 4294967296)]) (ok:=fun _=>True) (okp:=fun _=>True) ?hr ?hp (fun _ hk=>hk) trivial (Below.refl _ _) (Nat.le_refl _) (by simp) ?_;(case hd=>rfl);(case hg=>rfl);(case hr=>first|(go_simp;done)|(go_simp;(with_reducible rfl))|(go_simp;rfl)|(go_simp;simp only [hu,Int.emod_sub_emod]));(case hp=>exact (Reps.one (show Kd.M (Kd.int .u32) _ _ _ ((Int.tmod a0 4294967296) % 4294967296) [.int .u32 ((Int.tmod a0 4294967296) % 4294967296)] from rfl) (Reps.one (show Kd.M (Kd.int .u32) _ _ _ ((IntKind.u64.wrap (Int.tdiv a0 4294967296)) % 4294967296) [.int .u32 ((IntKind.u64.wrap (Int.tdiv a0 4294967296)) % 4294967296)] from rfl) (Reps.none _ _))));intro v584 w8 ho9 hb hg_ hnew_;clear hg_ hnew_;(first|rw [← Ny583.out] at ho9|(simp only [Int.reduceToNat] at ho9;rw [← Ny583.out] at ho9));have HO585:=Aside0.mk (Kd.R_lower (Kd.R_new' ho9 (Kd.R_lt (Ru HO582.out))) (below_size (bL HB.out)));replace HO582:=Aside0.mk (Kd.R_elder' (Ru HO582.out) (Kd.R_base ho9) hb);replace HB:=bH HB hb;clear hb ho9;obtain ⟨Ao11,co11,eo11⟩:=Kd.R_slice HO585.out;subst eo11)|((with_reducible refine gate_builtin (b:=.append) (xs:=#[.tmp 6,.tmp 13]) rfl ?_);at_builtin;refine Kd.R_append_rows (Kd.int .u32) (w0:=w) w.heap.size rfl (.tmp 6) (.tmp 13) 61 82 (.int .u32 0) 4 rfl Try.underlying61 info82 rfl (by decide) (by omega) v581 y580 y583 _ _ _ (fun k_=>some k_≠(.slice Ao11 y583.length co11 : Value).ownBlock) (fun _=>False) rfl rfl ?aO ?aR (fun _ _ h=>h) (fun _ h=>h.elim) ?aF ?aB ?aS ?aL ?_;(case aR=>repeat (first|exact (Kd.R_reads' HO585.out).2.2|(with_reducible refine Kd.C_alloc ?_ _)|(with_reducible refine Kd.C_drewN ?_ _)|(with_reducible refine Kd.C_drew ?_)));(case aB=>exact (bL HB.out));(case aF=>exact (fun k_ hk=>Kd.fresh' (Kd.R_lt (Ru HO585.out)) k_ hk));(case aO=>exact (Kd.R_mono (Ru HO582.out) (fun _ hk=>hk.2)));(case aS=>exact (below_size (bL HB.out)));(case aL=>have:=LMc5.out;omega);intro v587 w10 ho hb hg hat;rw [← Ny586.out] at ho;replace HO585:=Aside0.mk (Kd.R_after (ok:=(fun _=>True)) (Ru HO585.out) hg hat);replace HB:=Aside0.mk hb;have HO588:=Aside0.mk ho;clear HO582;clear ho hb hg hat))
 go_ret
 exact ⟨_,eW,Kd.R_mono (Ru HO588.out) (fun _ hk=>trivial),bL HB.out⟩
theorem penumbraref01_DivMod.calls (k : Nat) (A0 : Option Addr) (c0 : Nat) (l0 : List Int) (A1 : Option Addr) (c1 : Nat) (l1 : List Int) (r1 : List Int) (r2 : List Int) (r3 : Bool) (w : World) (hr0 : Kd.C (Kd.int .u32) w A0 l0.length l0) (hc0 : l0.length≤c0) (hr1 : Kd.C (Kd.int .u32) w A1 l1.length l1) (hc1 : l1.length≤c1) (h : penumbraref01_DivMod.f k l0 l1=some (r1,r2,r3)) :
  Calls Try.prog 66 #[.slice A0 l0.length c0,.slice A1 l1.length c1] w fun e w'=>∃ v0_ v1_ : Value,e=.returned (.tuple #[v0_,v1_,.bool r3])∧Kd.R (Kd.int .u32) 82 w' w.heap.size (fun k_=>some k_≠(v1_ : Value).ownBlock) v0_ r1∧Kd.R (Kd.int .u32) 82 w' w.heap.size (fun k_=>some k_≠(v0_ : Value).ownBlock) v1_ r2∧Below w.heap.size w w':=by
 have HR0:=Aside0.mk hr0;have HC0:=Aside0.mk hc0;clear hr0 hc0;have HR1:=Aside0.mk hr1;have HC1:=Aside0.mk hc1;clear hr1 hc1;have HB:=Aside0.mk (Below.refl w.heap.size w);have H : ((penumbraref01_Zero.f k l1).bind fun t600=>(if t600=true then (some (([] : List Int),([] : List Int),false)) else ((penumbraref01_Norm.f k l1).bind fun t601=>((penumbraref01_Norm.f k l0).bind fun t604=>(penumbraref01_DivMod.l0 k t601 t604 0)))))=some (r1,r2,r3):=h;clear h;refine biT H ?_;clear H;intro t600 A3 H;(try dsimp only at H);replace A3:=Aside0.mk A3
 by_cases c4 : t600=true
 ·subst c4
  rw [if_pos rfl] at H;simp only [Option.some.injEq,Prod.mk.injEq] at H;obtain ⟨rfl,rfl,rfl⟩:=H
  go_enter Try.func66,Try.ntmps66
  go_wp2_with (first|(go_at_call 64;(with_reducible refine (penumbraref01_Zero.calls k _ _ l1 true _ ?s1_ ?s2_ A3.out).mono ?_);(case s1_=>exact Cu HR1.out);(case s2_=>exact HC1.out);rintro e w5 ⟨rfl,hb⟩;replace HB:=bH HB hb))
  go_ret3
  exact ⟨_,_,eW,by first|exact Kd.R_nil _ _ _ _ _|exact Kd.N_nil _ _ _ _ _|exact Kd.V_nil _ _ _ _ _|exact Kd.Q_nil _ _ _ _ _|exact Kd.S_nil _ _ _ _ _,by first|exact Kd.R_nil _ _ _ _ _|exact Kd.N_nil _ _ _ _ _|exact Kd.V_nil _ _ _ _ _|exact Kd.Q_nil _ _ _ _ _|exact Kd.S_nil _ _ _ _ _,bL HB.out⟩
 ·replace c4:=Bool.eq_false_iff.mpr c4
  subst c4;rw [if_neg (show ¬ (false=true) by decide)] at H;refine biT H ?_;clear H;intro t601 A6 H;(try dsimp only at H);replace A6:=Aside0.mk A6;refine biT H ?_;clear H;intro t604 A7 H;(try dsimp only at H);replace A7:=Aside0.mk A7;have H':=Aside0.mk H;clear H
  go_enter Try.func66,Try.ntmps66
  go_wp2_with (first|(go_at_call 64;(with_reducible refine (penumbraref01_Zero.calls k _ _ l1 false _ ?s1_ ?s2_ A3.out).mono ?_);(case s1_=>exact Cu HR1.out);(case s2_=>exact HC1.out);rintro e w8 ⟨rfl,hb⟩;replace HB:=bH HB hb)|(go_at_call 67;(with_reducible refine (penumbraref01_Norm.calls k _ _ l1 t601 _ ?s1_ ?s2_ A6.out).mono ?_);(case s1_=>exact Cu (Kd.C_below HR1.out HB.out));(case s2_=>exact HC1.out);rintro e w9 ⟨v602,rfl,ho0,hb⟩;have HO603:=Aside0.mk (Kd.R_lower ho0 (below_size (bL HB.out)));replace HB:=bH HB hb)|(go_at_call 67;(with_reducible refine (penumbraref01_Norm.calls k _ _ l0 t604 _ ?s1_ ?s2_ A7.out).mono ?_);(case s1_=>exact Cu (Kd.C_below HR0.out HB.out));(case s2_=>exact HC0.out);rintro e w10 ⟨v605,rfl,ho0,hb⟩;have HO606:=Aside0.mk (Kd.R_lower (Kd.R_new' ho0 (Kd.R_lt (Ru HO603.out))) (below_size (bL HB.out)));replace HO603:=Aside0.mk (Kd.R_elder' (Ru HO603.out) (Kd.R_base ho0) hb);replace HB:=bH HB hb))
  go_loopg [7,8,9] k (fun kq v7 v8 v9 w'=>∃ (x7_1 : List Int) (x8_1 : List Int) (x9_1 : Int),v9=.int .i64 x9_1∧Aside0 (penumbraref01_DivMod.l0 kq x7_1 x8_1 x9_1=some (r1,r2,r3))∧Aside0 (kq≤k)∧Aside0 (Kd.R (Kd.int .u32) 82 w' w.heap.size (fun k_=>some k_≠(v8 : Value).ownBlock) v7 x7_1)∧Aside0 (Kd.R (Kd.int .u32) 82 w' w.heap.size (fun k_=>some k_≠(v7 : Value).ownBlock) v8 x8_1)∧Aside0 (Below w.heap.size w w'))
  case atStart=>exact ⟨(t601),(t604),(0),sD,H',⟨Nat.le_refl _⟩,⟨Kd.R_mono (Ru HO603.out) (fun _ hk=>hk.2)⟩,⟨Kd.R_mono (Ru HO606.out) (fun _ hk=>hk.2)⟩,⟨bL HB.out⟩⟩
  case round =>
   clear H';obtain ⟨x7_1,x8_1,x9_1,rfl,HA,HK1,HO_7,HO_8,HB⟩:=hrel
   cases gk with
   | zero=>exact absurd HA.out (by simp [penumbraref01_DivMod.l0])
   | succ k1 =>
    have H:=HA.out;clear HA;simp only [penumbraref01_DivMod.l0] at H;obtain ⟨ji11,hji11⟩ : ∃ j_ : Int,(wrap64 ((x7_1.length : Int) - 1))=j_:=⟨_,rfl⟩
    first|rw [hji11] at H|simp only [hji11] at H ⊢
    have hji11w:=(i64_w _).trans hji11;refine ifT H ?_;clear H;intro c12 H;have c12b0 : decide (0≤(ji11))=true:=decide_eq_true c12;clear c12;refine ifT H ?_;clear H;intro c13 H;have c13b0 : decide ((ji11) < (x7_1.length : Int))=true:=decide_eq_true c13;clear c13
    by_cases c14 : (rd x7_1 (ji11)) < 2147483648
    ·rw [if_pos c14] at H
     have c14b0 : decide ((rd x7_1 (ji11)) < 2147483648)=true:=decide_eq_true c14;clear c14;refine biT H ?_;clear H;intro t608 A15 H;(try dsimp only at H);replace A15:=Aside0.mk A15;refine biT H ?_;clear H;intro t611 A16 H;(try dsimp only at H);replace A16:=Aside0.mk A16;have H':=Aside0.mk H;clear H;obtain ⟨Ao17,co17,eo17⟩:=Kd.R_slice HO_7.out;subst eo17;have p607 : 0≤((ji11) : Int):=oA;have q607 : (ji11) < (x7_1.length : Int):=oA;obtain ⟨ad607,e607,hx607_0⟩:=Kd.at_int (Kd.R_reads' HO_7.out).2.2 (ji11) p607 q607;cases e607;replace p607:=eq_true p607;replace q607:=eq_true q607
     go_wp2_with (first|(go_at_call 77;(with_reducible refine (penumbraref01_Double.calls k1 _ _ x7_1 false t608 _ ?s1_ ?s2_ A15.out).mono ?_);(case s1_=>exact Cu (Kd.R_reads' HO_7.out).2.2);(case s2_=>exact (Kd.R_reads' HO_7.out).2.1);rintro e w18 ⟨v609,rfl,ho0,hb⟩;have HO610:=Aside0.mk (Kd.R_lower (Kd.R_new' (Kd.R_new' ho0 (Kd.R_lt (Ru HO_7.out))) (Kd.R_lt (Ru HO_8.out))) (below_size (bL HB.out)));replace HO_7:=Aside0.mk (Kd.R_elder' (Ru HO_7.out) (Kd.R_base ho0) hb);replace HO_8:=Aside0.mk (Kd.R_elder' (Ru HO_8.out) (Kd.R_base ho0) hb);replace HB:=bH HB hb;obtain ⟨Ao19,co19,eo19⟩:=Kd.R_slice HO_8.out;subst eo19)|(go_at_call 77;(with_reducible refine (penumbraref01_Double.calls k1 _ _ x8_1 false t611 _ ?s1_ ?s2_ A16.out).mono ?_);(case s1_=>exact Cu (Kd.R_reads' HO_8.out).2.2);(case s2_=>exact (Kd.R_reads' HO_8.out).2.1);rintro e w20 ⟨v612,rfl,ho0,hb⟩;have HO613:=Aside0.mk (Kd.R_lower (Kd.R_new' (Kd.R_new' (Kd.R_new' ho0 (Kd.R_lt (Ru HO_7.out))) (Kd.R_lt (Ru HO_8.out))) (Kd.R_lt (Ru HO610.out))) (below_size (bL HB.out)));replace HO_7:=Aside0.mk (Kd.R_elder' (Ru HO_7.out) (Kd.R_base ho0) hb);replace HO_8:=Aside0.mk (Kd.R_elder' (Ru HO_8.out) (Kd.R_base ho0) hb);replace HO610:=Aside0.mk (Kd.R_elder' (Ru HO610.out) (Kd.R_base ho0) hb);replace HB:=bH HB hb))
     go_roundg k1
     case measure=>have:=HK1.out;omega
     case rel=>exact ⟨(t608),(t611),(wrap64 (x9_1+1)),sD,H',⟨by have:=HK1.out;omega⟩,⟨Kd.R_mono (Ru HO610.out) (fun _ hk=>hk.2)⟩,⟨Kd.R_mono (Ru HO613.out) (fun _ hk=>hk.2)⟩,⟨bL HB.out⟩⟩
    ·rw [if_neg c14] at H
     have c14b0 : decide ((rd x7_1 (ji11)) < 2147483648)=false:=decide_eq_false c14;clear c14;obtain ⟨y614,hy_⟩ : ∃ y_ : List Int,y_=(([] : List Int)):=⟨_,rfl⟩;replace H : (penumbraref01_DivMod.l1 k1 x7_1 x8_1 x9_1 y614 (x7_1.length : Int) (IntKind.u64.wrap ((IntKind.u64.wrap (rd x7_1 (ji11)))+1)))=some (r1,r2,r3):=yH H;have Ny614:=Aside0.mk hy_;clear hy_;have H':=Aside0.mk H;clear H;obtain ⟨Ao21,co21,eo21⟩:=Kd.R_slice HO_7.out;subst eo21;have p607 : 0≤((ji11) : Int):=oA;have q607 : (ji11) < (x7_1.length : Int):=oA;obtain ⟨ad607,e607,hx607_0⟩:=Kd.at_int (Kd.R_reads' HO_7.out).2.2 (ji11) p607 q607;cases e607;replace p607:=eq_true p607;replace q607:=eq_true q607
     go_wp2_with (first|((with_reducible refine gate_dst (N:=37) rfl ?_);refine Kd.R_lit (Kd.int .u32) _ 82 ?hg (N:=37) ?hd (xs:=([] : List Int)) (inner:=[]) (ok:=fun _=>True) (okp:=fun _=>True) ?hr ?hp (fun _ hk=>hk) trivial (Below.refl _ _) (Nat.le_refl _) (by simp) ?_;(case hd=>rfl);(case hg=>rfl);(case hr=>first|(go_simp;done)|(go_simp;(with_reducible rfl))|(go_simp;rfl)|(go_simp;simp only [hu,Int.emod_sub_emod]));(case hp=>exact (Reps.none _ _));intro v615 w22 ho23 hb hg_ hnew_;clear hg_ hnew_;(first|rw [← Ny614.out] at ho23|(simp only [Int.reduceToNat] at ho23;rw [← Ny614.out] at ho23));have HO616:=Aside0.mk (Kd.R_lower (Kd.R_new' (Kd.R_new' ho23 (Kd.R_lt (Ru HO_7.out))) (Kd.R_lt (Ru HO_8.out))) (below_size (bL HB.out)));replace HO_7:=Aside0.mk (Kd.R_elder' (Ru HO_7.out) (Kd.R_base ho23) hb);replace HO_8:=Aside0.mk (Kd.R_elder' (Ru HO_8.out) (Kd.R_base ho23) hb);replace HB:=bH HB hb;clear hb ho23;have p617 : 0≤((ji11) : Int):=oA;have q617 : (ji11) < (x7_1.length : Int):=oA;obtain ⟨ad617,e617,hx617_0⟩:=Kd.at_int (Kd.R_reads' HO_7.out).2.2 (ji11) p617 q617;obtain rfl : ad607=ad617:=(by injection e617);replace p617:=eq_true p617;replace q617:=eq_true q617))
     go_loopg [8,10] k1 (fun kq v8 v10 w'=>∃ (x8_2 : List Int) (x10_2 : List Int),Aside0 (penumbraref01_DivMod.l1 kq x7_1 x8_2 x9_1 x10_2 (x7_1.length : Int) (IntKind.u64.wrap ((IntKind.u64.wrap (rd x7_1 (ji11)))+1))=some (r1,r2,r3))∧Aside0 (kq≤k1)∧Aside0 (Kd.R (Kd.int .u32) 82 w' w.heap.size (fun k_=>some k_≠(v8 : Value).ownBlock∧some k_≠(v10 : Value).ownBlock) (.slice (some ad607) x7_1.length co21) x7_1)∧Aside0 (Kd.R (Kd.int .u32) 82 w' w.heap.size (fun k_=>some k_≠((.slice (some ad607) x7_1.length co21) : Value).ownBlock∧some k_≠(v10 : Value).ownBlock) v8 x8_2)∧Aside0 (Kd.R (Kd.int .u32) 82 w' w.heap.size (fun k_=>some k_≠((.slice (some ad607) x7_1.length co21) : Value).ownBlock∧some k_≠(v8 : Value).ownBlock) v10 x10_2)∧Aside0 (Below w.heap.size w w'))
     case atStart=>exact ⟨(x8_1),(y614),H',⟨Nat.le_refl _⟩,⟨Ru HO_7.out⟩,⟨Ru HO_8.out⟩,⟨Kd.R_mono (Ru HO616.out) (fun _ hk=>⟨hk.1.2,hk.2⟩)⟩,⟨bL HB.out⟩⟩
     case round =>
      clear H';obtain ⟨x8_2,x10_2,HA,HK2,HO_7,HO_8,HO_10,HB⟩:=hrel
      cases gk with
      | zero=>exact absurd HA.out (by simp [penumbraref01_DivMod.l1])
      | succ k2 =>
       have H:=HA.out;clear HA;simp only [penumbraref01_DivMod.l1] at H;refine biT H ?_;clear H;intro t618 A24 H;(try dsimp only at H);replace A24:=Aside0.mk A24
       by_cases c25 : t618 ≥ 0
       ·rw [if_pos c25] at H
        have c25b0 : decide (0≤t618)=true:=decide_eq_true c25;clear c25;obtain ⟨ji26,hji26⟩ : ∃ j_ : Int,(wrap64 ((x8_2.length : Int) - 1))=j_:=⟨_,rfl⟩
        replace H : (if 0≤(ji26) then (if (ji26) < (x8_2.length : Int) then (if (IntKind.u64.wrap ((IntKind.u64.wrap (rd x7_1 (ji11)))+1))=0 then (none) else (if (IntKind.u64.wrap (Int.tdiv (IntKind.u64.wrap (rd x8_2 (ji26))) (IntKind.u64.wrap ((IntKind.u64.wrap (rd x7_1 (ji11)))+1))))=0 then (penumbraref01_DivMod.j2 k2 x7_1 x8_2 x9_1 x10_2 (x7_1.length : Int) (IntKind.u64.wrap ((IntKind.u64.wrap (rd x7_1 (ji11)))+1)) (x8_2.length : Int) (wrap64 ((x8_2.length : Int) - (x7_1.length : Int))) (IntKind.u64.wrap (Int.tdiv (IntKind.u64.wrap (rd x8_2 (ji26))) (IntKind.u64.wrap ((IntKind.u64.wrap (rd x7_1 (ji11)))+1)))) (decide ((x8_2.length : Int) > (x7_1.length : Int)))) else (penumbraref01_DivMod.j2 k2 x7_1 x8_2 x9_1 x10_2 (x7_1.length : Int) (IntKind.u64.wrap ((IntKind.u64.wrap (rd x7_1 (ji11)))+1)) (x8_2.length : Int) (wrap64 ((x8_2.length : Int) - (x7_1.length : Int))) (IntKind.u64.wrap (Int.tdiv (IntKind.u64.wrap (rd x8_2 (ji26))) (IntKind.u64.wrap ((IntKind.u64.wrap (rd x7_1 (ji11)))+1)))) false))) else (none)) else (none))=some (r1,r2,r3):=by first|(rw [hji26] at H;exact H)|(simp only [hji26] at H ⊢;exact H)
        (try rw [hji26] at A24)
        have hji26w : (IntKind.i64.wrap ((x8_2.length : Int) - 1))=ji26:=(i64_w _).trans hji26;refine ifT H ?_;clear H;intro c27 H;have c27b0 : decide (0≤(ji26))=true:=decide_eq_true c27;clear c27;refine ifT H ?_;clear H;intro c28 H;have c28b0 : decide ((ji26) < (x8_2.length : Int))=true:=decide_eq_true c28;clear c28;refine ifF H ?_;clear H;intro c29 H;have c29b0 : ((IntKind.u64.wrap ((IntKind.u64.wrap (rd x7_1 (ji11)))+1)) == 0)=false:=beq_eq_false_iff_ne.mpr c29;have c29b1 : ((IntKind.u64.wrap ((IntKind.u64.wrap (rd x7_1 (ji11)))+1)) != 0)=true:=bne_iff_ne.mpr c29;have HC30:=Aside0.mk H;clear H;obtain ⟨Ao31,co31,eo31⟩:=Kd.R_slice HO_8.out;subst eo31
        go_upto_region 17 with (first|(go_at_call 54;(with_reducible refine (penumbraref01_Cmp.calls k2 _ _ x8_2 _ _ x7_1 t618 _ ?s1_ ?s2_ ?s3_ ?s4_ A24.out).mono ?_);(case s1_=>exact Cu (Kd.R_reads' HO_8.out).2.2);(case s2_=>exact (Kd.R_reads' HO_8.out).2.1);(case s3_=>exact Cu (Kd.R_reads' HO_7.out).2.2);(case s4_=>exact (Kd.R_reads' HO_7.out).2.1);rintro e w32 ⟨rfl,hb⟩;replace HO_7:=Aside0.mk (Kd.R_below (Ru HO_7.out) hb);replace HO_8:=Aside0.mk (Kd.R_below (Ru HO_8.out) hb);replace HO_10:=Aside0.mk (Kd.R_below (Ru HO_10.out) hb);replace HB:=bH HB hb;have p619 : 0≤((ji26) : Int):=oA;have q619 : (ji26) < (x8_2.length : Int):=oA;obtain ⟨ad619,e619,hx619_0⟩:=Kd.at_int (Kd.R_reads' HO_8.out).2.2 (ji26) p619 q619;cases e619;replace p619:=eq_true p619;replace q619:=eq_true q619))
        (try simp only [Act.put,s0,s1,s2])
        go_cut [70] (fun v70 wc=>∃ (kq : Nat) (x70_29 : Bool),v70=.bool x70_29∧Aside0 (penumbraref01_DivMod.j2 kq x7_1 x8_2 x9_1 x10_2 (x7_1.length : Int) (IntKind.u64.wrap ((IntKind.u64.wrap (rd x7_1 (ji11)))+1)) (x8_2.length : Int) (wrap64 ((x8_2.length : Int) - (x7_1.length : Int))) (IntKind.u64.wrap (Int.tdiv (IntKind.u64.wrap (rd x8_2 (ji26))) (IntKind.u64.wrap ((IntKind.u64.wrap (rd x7_1 (ji11)))+1)))) x70_29=some (r1,r2,r3))∧Aside0 (kq≤k2)∧Aside0 (Kd.R (Kd.int .u32) 82 wc w.heap.size (fun k_=>some k_≠((.slice (some ad619) x8_2.length co31) : Value).ownBlock∧some k_≠(u10 : Value).ownBlock) (.slice (some ad607) x7_1.length co21) x7_1)∧Aside0 (Kd.R (Kd.int .u32) 82 wc w.heap.size (fun k_=>some k_≠((.slice (some ad607) x7_1.length co21) : Value).ownBlock∧some k_≠(u10 : Value).ownBlock) (.slice (some ad619) x8_2.length co31) x8_2)∧Aside0 (Kd.R (Kd.int .u32) 82 wc w.heap.size (fun k_=>some k_≠((.slice (some ad607) x7_1.length co21) : Value).ownBlock∧some k_≠((.slice (some ad619) x8_2.length co31) : Value).ownBlock) u10 x10_2)∧Aside0 (Below w.heap.size w wc))
        case first =>
         have H:=HC30.out;clear HC30
         by_cases c33 : (IntKind.u64.wrap (Int.tdiv (IntKind.u64.wrap (rd x8_2 (ji26))) (IntKind.u64.wrap ((IntKind.u64.wrap (rd x7_1 (ji11)))+1))))=0
         ·rw [if_pos c33] at H
          have c33b0 : ((IntKind.u64.wrap (Int.tdiv (IntKind.u64.wrap (rd x8_2 (ji26))) (IntKind.u64.wrap ((IntKind.u64.wrap (rd x7_1 (ji11)))+1)))) == 0)=true:=beq_iff_eq.mpr c33;have c33b1 : ((IntKind.u64.wrap (Int.tdiv (IntKind.u64.wrap (rd x8_2 (ji26))) (IntKind.u64.wrap ((IntKind.u64.wrap (rd x7_1 (ji11)))+1)))) != 0)=false:=bne_eq_false_iff_eq.mpr c33;clear c33
          (first|rw [c33b0]|(simp only [i64_w,i32_w];rw [c33b0])|skip)
          have H':=Aside0.mk H;clear H
          go_wp2
          go_meet
          case rel=>exact ⟨_,(decide ((x8_2.length : Int) > (x7_1.length : Int))),sD,H',⟨by have:=HK1.out;have:=HK2.out;first|omega|exact Nat.le_refl _⟩,⟨Ru HO_7.out⟩,⟨Ru HO_8.out⟩,⟨Ru HO_10.out⟩,⟨bL HB.out⟩⟩
         ·rw [if_neg c33] at H
          have c33b0 : ((IntKind.u64.wrap (Int.tdiv (IntKind.u64.wrap (rd x8_2 (ji26))) (IntKind.u64.wrap ((IntKind.u64.wrap (rd x7_1 (ji11)))+1)))) == 0)=false:=beq_eq_false_iff_ne.mpr c33;have c33b1 : ((IntKind.u64.wrap (Int.tdiv (IntKind.u64.wrap (rd x8_2 (ji26))) (IntKind.u64.wrap ((IntKind.u64.wrap (rd x7_1 (ji11)))+1)))) != 0)=true:=bne_iff_ne.mpr c33
          (first|rw [c33b0]|(simp only [i64_w,i32_w];rw [c33b0])|skip)
          have H':=Aside0.mk H;clear H
          go_wp2
          go_meet
          case rel=>exact ⟨_,(false),sD,H',⟨by have:=HK1.out;have:=HK2.out;first|omega|exact Nat.le_refl _⟩,⟨Ru HO_7.out⟩,⟨Ru HO_8.out⟩,⟨Ru HO_10.out⟩,⟨bL HB.out⟩⟩
        case rest =>
         clear HC30;obtain ⟨kq,x70_29,rfl,HA,HJ29,HO_7,HO_8,HO_10,HB⟩:=hcut
         cases kq with
         | zero=>exact absurd HA.out (by simp [penumbraref01_DivMod.j2])
         | succ kj29 =>
          have H:=HA.out;clear HA;simp only [penumbraref01_DivMod.j2] at H;have HC34:=Aside0.mk H;clear H
          go_upto_if 70 with (fail)
          go_cut [14,15] (fun v14 v15 wc=>∃ (kq : Nat) (x14_33 : Int) (x15_33 : Int),v14=.int .i64 x14_33∧v15=.int .u64 x15_33∧Aside0 (penumbraref01_DivMod.j3 kq x7_1 x8_2 x9_1 x10_2 (x7_1.length : Int) (IntKind.u64.wrap ((IntKind.u64.wrap (rd x7_1 (ji11)))+1)) x14_33 x15_33=some (r1,r2,r3))∧Aside0 (kq≤kj29)∧Aside0 (Kd.R (Kd.int .u32) 82 wc w.heap.size (fun k_=>some k_≠((.slice (some ad619) x8_2.length co31) : Value).ownBlock∧some k_≠(u10 : Value).ownBlock) (.slice (some ad607) x7_1.length co21) x7_1)∧Aside0 (Kd.R (Kd.int .u32) 82 wc w.heap.size (fun k_=>some k_≠((.slice (some ad607) x7_1.length co21) : Value).ownBlock∧some k_≠(u10 : Value).ownBlock) (.slice (some ad619) x8_2.length co31) x8_2)∧Aside0 (Kd.R (Kd.int .u32) 82 wc w.heap.size (fun k_=>some k_≠((.slice (some ad607) x7_1.length co21) : Value).ownBlock∧some k_≠((.slice (some ad619) x8_2.length co31) : Value).ownBlock) u10 x10_2)∧Aside0 (Below w.heap.size w wc))
          case first =>
           have H:=HC34.out;clear HC34
           by_cases c35 : x70_29=true
           ·subst c35
            rw [if_pos rfl] at H
            replace H : (if 0≤(ji26) then (if (ji26) < (x8_2.length : Int) then (if 0≤(wrap64 ((x8_2.length : Int) - 2)) then (if (wrap64 ((x8_2.length : Int) - 2)) < (x8_2.length : Int) then (if (IntKind.u64.wrap ((IntKind.u64.wrap (rd x7_1 (ji11)))+1))=0 then (none) else (penumbraref01_DivMod.j3 kj29 x7_1 x8_2 x9_1 x10_2 (x7_1.length : Int) (IntKind.u64.wrap ((IntKind.u64.wrap (rd x7_1 (ji11)))+1)) (wrap64 ((wrap64 ((x8_2.length : Int) - (x7_1.length : Int))) - 1)) (IntKind.u64.wrap (Int.tdiv (IntKind.u64.wrap ((IntKind.u64.wrap ((IntKind.u64.wrap (rd x8_2 (ji26))) * 4294967296))+(IntKind.u64.wrap (rd x8_2 (wrap64 ((x8_2.length : Int) - 2)))))) (IntKind.u64.wrap ((IntKind.u64.wrap (rd x7_1 (ji11)))+1)))))) else (none)) else (none)) else (none)) else (none))=some (r1,r2,r3):=by first|(rw [hji26] at H;exact H)|(simp only [hji26] at H ⊢;exact H)
            have hji26w : (IntKind.i64.wrap ((x8_2.length : Int) - 1))=ji26:=(i64_w _).trans hji26;refine ifT H ?_;clear H;intro c36 H;have c36b0 : decide (0≤(ji26))=true:=decide_eq_true c36;clear c36
            (first|rw [c36b0]|(simp only [i64_w,i32_w];rw [c36b0])|skip)
            refine ifT H ?_;clear H;intro c37 H;have c37b0 : decide ((ji26) < (x8_2.length : Int))=true:=decide_eq_true c37;clear c37;obtain ⟨ji38,hji38⟩ : ∃ j_ : Int,(wrap64 ((x8_2.length : Int) - 2))=j_:=⟨_,rfl⟩
            first|rw [hji38] at H|simp only [hji38] at H ⊢
            have hji38w:=(i64_w _).trans hji38;refine ifT H ?_;clear H;intro c39 H;have c39b0 : decide (0≤(ji38))=true:=decide_eq_true c39;clear c39;refine ifT H ?_;clear H;intro c40 H;have c40b0 : decide ((ji38) < (x8_2.length : Int))=true:=decide_eq_true c40;clear c40;refine ifF H ?_;clear H;intro c41 H;have c41b0 : ((IntKind.u64.wrap ((IntKind.u64.wrap (rd x7_1 (ji11)))+1)) == 0)=false:=beq_eq_false_iff_ne.mpr c41;have c41b1 : ((IntKind.u64.wrap ((IntKind.u64.wrap (rd x7_1 (ji11)))+1)) != 0)=true:=bne_iff_ne.mpr c41;have H':=Aside0.mk H;clear H;have p620 : 0≤((ji26) : Int):=oA;have q620 : (ji26) < (x8_2.length : Int):=oA;obtain ⟨ad620,e620,hx620_0⟩:=Kd.at_int (Kd.R_reads' HO_8.out).2.2 (ji26) p620 q620;obtain rfl : ad619=ad620:=(by injection e620);replace p620:=eq_true p620;replace q620:=eq_true q620;have p621 : 0≤((ji38) : Int):=oA;have q621 : (ji38) < (x8_2.length : Int):=oA;obtain ⟨ad621,e621,hx621_0⟩:=Kd.at_int (Kd.R_reads' HO_8.out).2.2 (ji38) p621 q621;obtain rfl : ad619=ad621:=(by injection e621);replace p621:=eq_true p621;replace q621:=eq_true q621
            go_wp2
            repeat (go_quiet (fail);try go_wp2)
            go_meet
            case rel=>exact ⟨_,(wrap64 ((wrap64 ((x8_2.length : Int) - (x7_1.length : Int))) - 1)),(IntKind.u64.wrap (Int.tdiv (IntKind.u64.wrap ((IntKind.u64.wrap ((IntKind.u64.wrap (rd x8_2 (ji26))) * 4294967296))+(IntKind.u64.wrap (rd x8_2 (ji38))))) (IntKind.u64.wrap ((IntKind.u64.wrap (rd x7_1 (ji11)))+1)))),sD,(by first|rfl|(simp;done)|(simp only [← hji11,← hji26,← hji26,← hji38] <;> (first|rfl|simp))|(simp [*];done)),H',⟨by have:=HK1.out;have:=HK2.out;have:=HJ29.out;first|omega|exact Nat.le_refl _⟩,⟨Ru HO_7.out⟩,⟨Ru HO_8.out⟩,⟨Ru HO_10.out⟩,⟨bL HB.out⟩⟩
           ·replace c35:=Bool.eq_false_iff.mpr c35
            subst c35;rw [if_neg (show ¬ (false=true) by decide)] at H;have H':=Aside0.mk H;clear H
            go_wp2
            go_meet
            case rel=>exact ⟨_,((wrap64 ((x8_2.length : Int) - (x7_1.length : Int)))),((IntKind.u64.wrap (Int.tdiv (IntKind.u64.wrap (rd x8_2 (ji26))) (IntKind.u64.wrap ((IntKind.u64.wrap (rd x7_1 (ji11)))+1))))),sD,(by first|rfl|(simp;done)|(simp only [← hji11,← hji26] <;> (first|rfl|simp))|(simp [*];done)),H',⟨by have:=HK1.out;have:=HK2.out;have:=HJ29.out;first|omega|exact Nat.le_refl _⟩,⟨Ru HO_7.out⟩,⟨Ru HO_8.out⟩,⟨Ru HO_10.out⟩,⟨bL HB.out⟩⟩
          case rest =>
           clear HC34;obtain ⟨kq,x14_33,x15_33,rfl,rfl,HA,HJ33,HO_7,HO_8,HO_10,HB⟩:=hcut
           cases kq with
           | zero=>exact absurd HA.out (by simp [penumbraref01_DivMod.j3])
           | succ kj33 =>
            have H:=HA.out;clear HA;simp only [penumbraref01_DivMod.j3] at H;have HC42:=Aside0.mk H;clear H
            go_upto_if 90 with (fail)
            go_cut [15] (fun v15 wc=>∃ (kq : Nat) (x15_41 : Int),v15=.int .u64 x15_41∧Aside0 (penumbraref01_DivMod.j4 kq x7_1 x8_2 x9_1 x10_2 (x7_1.length : Int) (IntKind.u64.wrap ((IntKind.u64.wrap (rd x7_1 (ji11)))+1)) x14_33 x15_41=some (r1,r2,r3))∧Aside0 (kq≤kj33)∧Aside0 (Kd.R (Kd.int .u32) 82 wc w.heap.size (fun k_=>some k_≠((.slice (some ad619) x8_2.length co31) : Value).ownBlock∧some k_≠(u10 : Value).ownBlock) (.slice (some ad607) x7_1.length co21) x7_1)∧Aside0 (Kd.R (Kd.int .u32) 82 wc w.heap.size (fun k_=>some k_≠((.slice (some ad607) x7_1.length co21) : Value).ownBlock∧some k_≠(u10 : Value).ownBlock) (.slice (some ad619) x8_2.length co31) x8_2)∧Aside0 (Kd.R (Kd.int .u32) 82 wc w.heap.size (fun k_=>some k_≠((.slice (some ad607) x7_1.length co21) : Value).ownBlock∧some k_≠((.slice (some ad619) x8_2.length co31) : Value).ownBlock) u10 x10_2)∧Aside0 (Below w.heap.size w wc))
            case first =>
             have H:=HC42.out;clear HC42
             by_cases c43 : x15_33=0
             ·rw [if_pos c43] at H
              have c43b0 : (x15_33 == 0)=true:=beq_iff_eq.mpr c43;have c43b1 : (x15_33 != 0)=false:=bne_eq_false_iff_eq.mpr c43;clear c43
              (first|rw [c43b0]|(simp only [i64_w,i32_w];rw [c43b0])|skip)
              have H':=Aside0.mk H;clear H
              go_wp2
              go_meet
              case rel=>exact ⟨_,(1),sD,H',⟨by have:=HK1.out;have:=HK2.out;have:=HJ29.out;have:=HJ33.out;first|omega|exact Nat.le_refl _⟩,⟨Ru HO_7.out⟩,⟨Ru HO_8.out⟩,⟨Ru HO_10.out⟩,⟨bL HB.out⟩⟩
             ·rw [if_neg c43] at H
              have c43b0 : (x15_33 == 0)=false:=beq_eq_false_iff_ne.mpr c43;have c43b1 : (x15_33 != 0)=true:=bne_iff_ne.mpr c43
              (first|rw [c43b0]|(simp only [i64_w,i32_w];rw [c43b0])|skip)
              have H':=Aside0.mk H;clear H
              go_wp2
              go_meet
              case rel=>exact ⟨_,(x15_33),sD,H',⟨by have:=HK1.out;have:=HK2.out;have:=HJ29.out;have:=HJ33.out;first|omega|exact Nat.le_refl _⟩,⟨Ru HO_7.out⟩,⟨Ru HO_8.out⟩,⟨Ru HO_10.out⟩,⟨bL HB.out⟩⟩
            case rest =>
             clear HC42;obtain ⟨kq,x15_41,rfl,HA,HJ41,HO_7,HO_8,HO_10,HB⟩:=hcut
             cases kq with
             | zero=>exact absurd HA.out (by simp [penumbraref01_DivMod.j4])
             | succ kj41 =>
              have H:=HA.out;clear HA;simp only [penumbraref01_DivMod.j4] at H;refine biT H ?_;clear H;intro t622 A44 H;(try dsimp only at H);replace A44:=Aside0.mk A44;refine biT H ?_;clear H;intro t625 A45 H;(try dsimp only at H);replace A45:=Aside0.mk A45;refine biT H ?_;clear H;intro t628 A46 H;(try dsimp only at H);replace A46:=Aside0.mk A46;refine biT H ?_;clear H;rintro ⟨t631,t632⟩ A47 H;(try dsimp only at H);replace A47:=Aside0.mk A47;have H':=Aside0.mk H;clear H
              go_wp2_with (first|(go_at_call 78;(with_reducible refine (penumbraref01_at.calls x15_41 x14_33 t622 _ A44.out).mono ?_);rintro e w48 ⟨v623,rfl,ho0,hb⟩;have HO624:=Aside0.mk (Kd.R_lower (Kd.R_new' (Kd.R_new' (Kd.R_new' ho0 (Kd.R_lt (Ru HO_7.out))) (Kd.R_lt (Ru HO_8.out))) (Kd.R_lt (Ru HO_10.out))) (below_size (bL HB.out)));replace HO_7:=Aside0.mk (Kd.R_elder' (Ru HO_7.out) (Kd.R_base ho0) hb);replace HO_8:=Aside0.mk (Kd.R_elder' (Ru HO_8.out) (Kd.R_base ho0) hb);replace HO_10:=Aside0.mk (Kd.R_elder' (Ru HO_10.out) (Kd.R_base ho0) hb);replace HB:=bH HB hb;obtain ⟨Ao49,co49,eo49⟩:=Kd.R_slice HO_10.out;subst eo49;obtain ⟨Ao50,co50,eo50⟩:=Kd.R_slice HO624.out;subst eo50)|(go_at_call 53;(with_reducible refine (penumbraref01_Add.calls kj41 _ _ x10_2 _ _ t622 t625 _ ?s1_ ?s2_ ?s3_ ?s4_ A45.out).mono ?_);(case s1_=>exact Cu (Kd.R_reads' HO_10.out).2.2);(case s2_=>exact (Kd.R_reads' HO_10.out).2.1);(case s3_=>exact Cu (Kd.R_reads' HO624.out).2.2);(case s4_=>exact (Kd.R_reads' HO624.out).2.1);rintro e w51 ⟨v626,rfl,ho0,hb⟩;have HO627:=Aside0.mk (Kd.R_lower (Kd.R_new' (Kd.R_new' (Kd.R_new' (Kd.R_new' ho0 (Kd.R_lt (Ru HO_7.out))) (Kd.R_lt (Ru HO_8.out))) (Kd.R_lt (Ru HO_10.out))) (Kd.R_lt (Ru HO624.out))) (below_size (bL HB.out)));replace HO_7:=Aside0.mk (Kd.R_elder' (Ru HO_7.out) (Kd.R_base ho0) hb);replace HO_8:=Aside0.mk (Kd.R_elder' (Ru HO_8.out) (Kd.R_base ho0) hb);replace HO_10:=Aside0.mk (Kd.R_elder' (Ru HO_10.out) (Kd.R_base ho0) hb);replace HO624:=Aside0.mk (Kd.R_elder' (Ru HO624.out) (Kd.R_base ho0) hb);replace HB:=bH HB hb)|(go_at_call 52;(with_reducible refine (penumbraref01_Mul.calls kj41 _ _ t622 _ _ x7_1 t628 _ ?s1_ ?s2_ ?s3_ ?s4_ A46.out).mono ?_);(case s1_=>exact Cu (Kd.R_reads' HO624.out).2.2);(case s2_=>exact (Kd.R_reads' HO624.out).2.1);(case s3_=>exact Cu (Kd.R_reads' HO_7.out).2.2);(case s4_=>exact (Kd.R_reads' HO_7.out).2.1);rintro e w52 ⟨v629,rfl,ho0,hb⟩;have HO630:=Aside0.mk (Kd.R_lower (Kd.R_new' (Kd.R_new' (Kd.R_new' (Kd.R_new' (Kd.R_new' ho0 (Kd.R_lt (Ru HO_7.out))) (Kd.R_lt (Ru HO_8.out))) (Kd.R_lt (Ru HO_10.out))) (Kd.R_lt (Ru HO624.out))) (Kd.R_lt (Ru HO627.out))) (below_size (bL HB.out)));replace HO_7:=Aside0.mk (Kd.R_elder' (Ru HO_7.out) (Kd.R_base ho0) hb);replace HO_8:=Aside0.mk (Kd.R_elder' (Ru HO_8.out) (Kd.R_base ho0) hb);replace HO_10:=Aside0.mk (Kd.R_elder' (Ru HO_10.out) (Kd.R_base ho0) hb);replace HO624:=Aside0.mk (Kd.R_elder' (Ru HO624.out) (Kd.R_base ho0) hb);replace HO627:=Aside0.mk (Kd.R_elder' (Ru HO627.out) (Kd.R_base ho0) hb);replace HB:=bH HB hb;obtain ⟨Ao53,co53,eo53⟩:=Kd.R_slice HO630.out;subst eo53)|(go_at_call 55;(with_reducible refine (penumbraref01_Sub.calls kj41 _ _ x8_2 _ _ t628 t631 t632 _ ?s1_ ?s2_ ?s3_ ?s4_ A47.out).mono ?_);(case s1_=>exact Cu (Kd.R_reads' HO_8.out).2.2);(case s2_=>exact (Kd.R_reads' HO_8.out).2.1);(case s3_=>exact Cu (Kd.R_reads' HO630.out).2.2);(case s4_=>exact (Kd.R_reads' HO630.out).2.1);rintro e w54 ⟨v633,rfl,ho0,hb⟩;have HO634:=Aside0.mk (Kd.R_lower (Kd.R_new' (Kd.R_new' (Kd.R_new' (Kd.R_new' (Kd.R_new' (Kd.R_new' ho0 (Kd.R_lt (Ru HO_7.out))) (Kd.R_lt (Ru HO_8.out))) (Kd.R_lt (Ru HO_10.out))) (Kd.R_lt (Ru HO624.out))) (Kd.R_lt (Ru HO627.out))) (Kd.R_lt (Ru HO630.out))) (below_size (bL HB.out)));replace HO_7:=Aside0.mk (Kd.R_elder' (Ru HO_7.out) (Kd.R_base ho0) hb);replace HO_8:=Aside0.mk (Kd.R_elder' (Ru HO_8.out) (Kd.R_base ho0) hb);replace HO_10:=Aside0.mk (Kd.R_elder' (Ru HO_10.out) (Kd.R_base ho0) hb);replace HO624:=Aside0.mk (Kd.R_elder' (Ru HO624.out) (Kd.R_base ho0) hb);replace HO627:=Aside0.mk (Kd.R_elder' (Ru HO627.out) (Kd.R_base ho0) hb);replace HO630:=Aside0.mk (Kd.R_elder' (Ru HO630.out) (Kd.R_base ho0) hb);replace HB:=bH HB hb))
              go_roundg kj41
              case measure=>have:=HK1.out;have:=HK2.out;have:=HJ29.out;have:=HJ33.out;have:=HJ41.out;omega
              case rel=>exact ⟨(t631),(t625),H',⟨by have:=HK1.out;have:=HK2.out;have:=HJ29.out;have:=HJ33.out;have:=HJ41.out;omega⟩,⟨Kd.R_mono (Ru HO_7.out) (fun _ hk=>⟨hk.2,hk.1.1.2⟩)⟩,⟨Kd.R_mono (Ru HO634.out) (fun _ hk=>⟨hk.1.1.1.1.1.2,hk.1.2⟩)⟩,⟨Kd.R_mono (Ru HO627.out) (fun _ hk=>⟨hk.1.1.1.1.1.2,hk.2⟩)⟩,⟨bL HB.out⟩⟩
       ·rw [if_neg c25] at H
        have c25b0 : decide (0≤t618)=false:=decide_eq_false c25;clear c25;have H':=Aside0.mk H;clear H;obtain ⟨Ao55,co55,eo55⟩:=Kd.R_slice HO_8.out;subst eo55
        go_wp2_with (first|(go_at_call 54;(with_reducible refine (penumbraref01_Cmp.calls k2 _ _ x8_2 _ _ x7_1 t618 _ ?s1_ ?s2_ ?s3_ ?s4_ A24.out).mono ?_);(case s1_=>exact Cu (Kd.R_reads' HO_8.out).2.2);(case s2_=>exact (Kd.R_reads' HO_8.out).2.1);(case s3_=>exact Cu (Kd.R_reads' HO_7.out).2.2);(case s4_=>exact (Kd.R_reads' HO_7.out).2.1);rintro e w56 ⟨rfl,hb⟩;replace HO_7:=Aside0.mk (Kd.R_below (Ru HO_7.out) hb);replace HO_8:=Aside0.mk (Kd.R_below (Ru HO_8.out) hb);replace HO_10:=Aside0.mk (Kd.R_below (Ru HO_10.out) hb);replace HB:=bH HB hb))
        go_loopg [8,17] k2 (fun kq v8 v17 w'=>∃ (x8_3 : List Int) (x17_3 : Int),v17=.int .i64 x17_3∧Aside0 (penumbraref01_DivMod.l2 kq x8_3 x9_1 x10_2 x17_3=some (r1,r2,r3))∧Aside0 (kq≤k2)∧Aside0 (Kd.R (Kd.int .u32) 82 w' w.heap.size (fun k_=>some k_≠(u10 : Value).ownBlock) v8 x8_3)∧Aside0 (Kd.R (Kd.int .u32) 82 w' w.heap.size (fun k_=>some k_≠(v8 : Value).ownBlock) u10 x10_2)∧Aside0 (Below w.heap.size w w'))
        case atStart=>exact ⟨(x8_2),(0),sD,H',⟨Nat.le_refl _⟩,⟨Kd.R_mono (Ru HO_8.out) (fun _ hk=>hk.2)⟩,⟨Kd.R_mono (Ru HO_10.out) (fun _ hk=>hk.2)⟩,⟨bL HB.out⟩⟩
        case round =>
         clear H';obtain ⟨x8_3,x17_3,rfl,HA,HK3,HO_8,HO_10,HB⟩:=hrel
         cases gk with
         | zero=>exact absurd HA.out (by simp [penumbraref01_DivMod.l2])
         | succ k3 =>
          have H:=HA.out;clear HA;simp only [penumbraref01_DivMod.l2] at H
          by_cases c57 : x17_3 < x9_1
          ·rw [if_pos c57] at H
           have c57b0 : decide (x17_3 < x9_1)=true:=decide_eq_true c57;clear c57;refine biT H ?_;clear H;intro t635 A58 H;(try dsimp only at H);replace A58:=Aside0.mk A58;have H':=Aside0.mk H;clear H;obtain ⟨Ao59,co59,eo59⟩:=Kd.R_slice HO_8.out;subst eo59
           go_wp2_with (first|(go_at_call 79;(with_reducible refine (penumbraref01_Half.calls k3 _ _ x8_3 t635 _ ?s1_ ?s2_ A58.out).mono ?_);(case s1_=>exact Cu (Kd.R_reads' HO_8.out).2.2);(case s2_=>exact (Kd.R_reads' HO_8.out).2.1);rintro e w60 ⟨v636,rfl,ho0,hb⟩;have HO637:=Aside0.mk (Kd.R_lower (Kd.R_new' (Kd.R_new' ho0 (Kd.R_lt (Ru HO_8.out))) (Kd.R_lt (Ru HO_10.out))) (below_size (bL HB.out)));replace HO_8:=Aside0.mk (Kd.R_elder' (Ru HO_8.out) (Kd.R_base ho0) hb);replace HO_10:=Aside0.mk (Kd.R_elder' (Ru HO_10.out) (Kd.R_base ho0) hb);replace HB:=bH HB hb))
           go_roundg k3
           case measure=>have:=HK1.out;have:=HK2.out;have:=HK3.out;omega
           case rel=>exact ⟨(t635),(wrap64 (x17_3+1)),sD,H',⟨by have:=HK1.out;have:=HK2.out;have:=HK3.out;omega⟩,⟨Kd.R_mono (Ru HO637.out) (fun _ hk=>hk.2)⟩,⟨Kd.R_mono (Ru HO_10.out) (fun _ hk=>hk.2)⟩,⟨bL HB.out⟩⟩
          ·rw [if_neg c57] at H
           have c57b0 : decide (x17_3 < x9_1)=false:=decide_eq_false c57;clear c57;simp only [Option.some.injEq,Prod.mk.injEq] at H;obtain ⟨rfl,rfl,rfl⟩:=H
           go_wp2
           go_ret3
           exact ⟨_,_,by first|rfl|(simp [errW_none,errW_some] <;> rfl)|(simp only [← hji11];first|rfl|(simp [errW_none,errW_some] <;> rfl))|(simp [*,errW_none,errW_some] <;> rfl),by (with_reducible repeat (first|apply Ra|apply Rn|apply Rd));exact HO_10.out,by (with_reducible repeat (first|apply Ra|apply Rn|apply Rd));exact HO_8.out,bL HB.out⟩
theorem penumbraref02_Gcd.calls (k : Nat) (P0_ : Nat→Prop) (A0 : Option Addr) (c0 : Nat) (l0 : List Int) (P1_ : Nat→Prop) (A1 : Option Addr) (c1 : Nat) (l1 : List Int) (r : List Int) (w : World) (hs0 : Kd.V (Kd.int .u32) 82 w w.heap.size (fun k_=>P0_ k_) (.slice A0 l0.length c0) l0) (hs1 : Kd.V (Kd.int .u32) 82 w w.heap.size (fun k_=>P1_ k_) (.slice A1 l1.length c1) l1) (h : penumbraref02_Gcd.f k l0 l1=some r) :
  Calls Try.prog 65 #[.slice A0 l0.length c0,.slice A1 l1.length c1] w fun e w'=>∃ v0_ : Value,e=.returned (v0_)∧Kd.R (Kd.int .u32) 82 w' w.heap.size (fun k_=>(w.heap.size≤k_)) v0_ r∧Below w.heap.size w w':=by
 have HO0:=Aside0.mk (show Kd.V (Kd.int .u32) 82 w w.heap.size (fun k_=>((P0_ k_∨P1_ k_)∨w.heap.size≤k_)) (.slice A0 l0.length c0) l0 from Kd.V_mono hs0 (fun k_ hk=>.inl (.inl hk)));have HO1:=Aside0.mk (show Kd.V (Kd.int .u32) 82 w w.heap.size (fun k_=>((P0_ k_∨P1_ k_)∨w.heap.size≤k_)) (.slice A1 l1.length c1) l1 from Kd.V_mono hs1 (fun k_ hk=>.inl (.inr hk)));have HB:=Aside0.mk (Below.refl w.heap.size w);have H : (penumbraref02_Gcd.l0 k l0 l1)=some r:=h;clear h;have H':=Aside0.mk H;clear H
 go_enter Try.func65,Try.ntmps65
 go_wp2
 go_loopg [0,1] k (fun kq v0 v1 w'=>∃ (x0_1 : List Int) (x1_1 : List Int),Aside0 (penumbraref02_Gcd.l0 kq x0_1 x1_1=some r)∧Aside0 (kq≤k)∧Aside0 (Kd.V (Kd.int .u32) 82 w' w.heap.size (fun k_=>((P0_ k_∨P1_ k_)∨w.heap.size≤k_)) v0 x0_1)∧Aside0 (Kd.V (Kd.int .u32) 82 w' w.heap.size (fun k_=>((P0_ k_∨P1_ k_)∨w.heap.size≤k_)) v1 x1_1)∧Aside0 (Below w.heap.size w w'))
 case atStart=>exact ⟨(l0),(l1),H',⟨Nat.le_refl _⟩,⟨by (with_reducible repeat (first|apply Kd.V_alloc|apply Kd.V_drewN|apply Kd.V_drew));exact HO0.out⟩,⟨by (with_reducible repeat (first|apply Kd.V_alloc|apply Kd.V_drewN|apply Kd.V_drew));exact HO1.out⟩,⟨bL HB.out⟩⟩
 case round =>
  clear H';obtain ⟨x0_1,x1_1,HA,HK1,HO_0,HO_1,HB⟩:=hrel
  cases gk with
  | zero=>exact absurd HA.out (by simp [penumbraref02_Gcd.l0])
  | succ k1 =>
   have H:=HA.out;clear HA;simp only [penumbraref02_Gcd.l0] at H;refine biT H ?_;clear H;intro t638 A3 H;(try dsimp only at H);replace A3:=Aside0.mk A3
   by_cases c4 : t638=true
   ·subst c4
    rw [if_pos rfl] at H;refine biT H ?_;clear H;intro t639 A5 H;(try dsimp only at H);replace A5:=Aside0.mk A5;obtain rfl:=Option.some.inj H;obtain ⟨Ao6,co6,eo6⟩:=Kd.V_slice HO_1.out;subst eo6
    go_wp2_with (first|((with_reducible refine gate_callee (f:=64) rfl ?_);refine gL (some 9) Try.func64 #[.slice Ao6 x1_1.length co6] ?_;(with_reducible refine (penumbraref01_Zero.calls k1 _ _ x1_1 true _ ?s1_ ?s2_ A3.out).mono ?_);(case s1_=>exact Cu (Kd.V_reads' HO_1.out).2.2);(case s2_=>exact (Kd.V_reads' HO_1.out).2.1);rintro e w7 ⟨rfl,hb⟩;refine ⟨_,rfl,?_⟩;replace HO_0:=Aside0.mk (Kd.V_below (by (with_reducible repeat (first|apply Kd.V_alloc|apply Kd.V_drewN|apply Kd.V_drew));exact HO_0.out) hb);replace HO_1:=Aside0.mk (Kd.V_below (by (with_reducible repeat (first|apply Kd.V_alloc|apply Kd.V_drewN|apply Kd.V_drew));exact HO_1.out) hb);replace HB:=bH HB hb;obtain ⟨Ao8,co8,eo8⟩:=Kd.V_slice HO_0.out;subst eo8)|((with_reducible refine gate_callee (f:=67) rfl ?_);refine gL (some 21) Try.func67 #[.slice Ao8 x0_1.length co8] ?_;(with_reducible refine (penumbraref01_Norm.calls k1 _ _ x0_1 t639 _ ?s1_ ?s2_ A5.out).mono ?_);(case s1_=>exact Cu (Kd.V_reads' HO_0.out).2.2);(case s2_=>exact (Kd.V_reads' HO_0.out).2.1);rintro e w9 ⟨v640,rfl,ho0,hb⟩;refine ⟨_,rfl,?_⟩;replace HO_0:=Aside0.mk (Kd.V_elder' (by (with_reducible repeat (first|apply Kd.V_alloc|apply Kd.V_drewN|apply Kd.V_drew));exact HO_0.out) (Kd.R_base ho0) hb);replace HO_1:=Aside0.mk (Kd.V_elder' (by (with_reducible repeat (first|apply Kd.V_alloc|apply Kd.V_drewN|apply Kd.V_drew));exact HO_1.out) (Kd.R_base ho0) hb);have HO641:=Aside0.mk (Kd.R_lower (Kd.R_newM (M:=fun k_=>(w.heap.size≤k_)) ho0 (below_size (bL HB.out)) (fun k_ h_=>h_)) (below_size (bL HB.out)));replace HB:=bH HB hb))
    go_ret
    exact ⟨_,eW,Kd.R_mono (Ru HO641.out) (fun _ hk=>hk.1),bL HB.out⟩
   ·replace c4:=Bool.eq_false_iff.mpr c4
    subst c4;rw [if_neg (show ¬ (false=true) by decide)] at H;refine biT H ?_;clear H;rintro ⟨t642,t643,t644⟩ A10 H;(try dsimp only at H);replace A10:=Aside0.mk A10;have H':=Aside0.mk H;clear H;obtain ⟨Ao11,co11,eo11⟩:=Kd.V_slice HO_1.out;subst eo11
    go_wp2_with (first|((with_reducible refine gate_callee (f:=64) rfl ?_);refine gL (some 9) Try.func64 #[.slice Ao11 x1_1.length co11] ?_;(with_reducible refine (penumbraref01_Zero.calls k1 _ _ x1_1 false _ ?s1_ ?s2_ A3.out).mono ?_);(case s1_=>exact Cu (Kd.V_reads' HO_1.out).2.2);(case s2_=>exact (Kd.V_reads' HO_1.out).2.1);rintro e w12 ⟨rfl,hb⟩;refine ⟨_,rfl,?_⟩;replace HO_0:=Aside0.mk (Kd.V_below (by (with_reducible repeat (first|apply Kd.V_alloc|apply Kd.V_drewN|apply Kd.V_drew));exact HO_0.out) hb);replace HO_1:=Aside0.mk (Kd.V_below (by (with_reducible repeat (first|apply Kd.V_alloc|apply Kd.V_drewN|apply Kd.V_drew));exact HO_1.out) hb);replace HB:=bH HB hb;obtain ⟨Ao13,co13,eo13⟩:=Kd.V_slice HO_0.out;subst eo13)|((with_reducible refine gate_callee (f:=66) rfl ?_);refine gL (some 14) Try.func66 #[.slice Ao13 x0_1.length co13,.slice Ao11 x1_1.length co11] ?_;(with_reducible refine (penumbraref01_DivMod.calls k1 _ _ x0_1 _ _ x1_1 t642 t643 t644 _ ?s1_ ?s2_ ?s3_ ?s4_ A10.out).mono ?_);(case s1_=>exact Cu (Kd.V_reads' HO_0.out).2.2);(case s2_=>exact (Kd.V_reads' HO_0.out).2.1);(case s3_=>exact Cu (Kd.V_reads' HO_1.out).2.2);(case s4_=>exact (Kd.V_reads' HO_1.out).2.1);rintro e w14 ⟨v645,v647,rfl,ho0,ho1,hb⟩;refine ⟨_,rfl,?_⟩;replace HO_0:=Aside0.mk (Kd.V_mono (Kd.V_told (Kd.V_told (Kd.V_old (by (with_reducible repeat (first|apply Kd.V_alloc|apply Kd.V_drewN|apply Kd.V_drew));exact HO_0.out) hb) (Kd.R_base ho0)) (Kd.R_base ho1)) (fun _ h_=>h_.1));replace HO_1:=Aside0.mk (Kd.V_mono (Kd.V_told (Kd.V_told (Kd.V_old (by (with_reducible repeat (first|apply Kd.V_alloc|apply Kd.V_drewN|apply Kd.V_drew));exact HO_1.out) hb) (Kd.R_base ho0)) (Kd.R_base ho1)) (fun _ h_=>h_.1));have HO646:=Aside0.mk (Kd.R_lower (Kd.R_newM (M:=fun k_=>(w.heap.size≤k_)) ho0 (below_size (bL HB.out)) (fun k_ h_=>h_)) (below_size (bL HB.out)));have HO648:=Aside0.mk (Kd.R_lower (Kd.R_newM (M:=fun k_=>(w.heap.size≤k_)) ho1 (below_size (bL HB.out)) (fun k_ h_=>h_)) (below_size (bL HB.out)));replace HB:=bH HB hb))
    go_roundg k1
    case measure=>have:=HK1.out;omega
    case rel=>exact ⟨(x1_1),(t643),H',⟨by have:=HK1.out;omega⟩,⟨by (with_reducible repeat (first|apply Kd.V_alloc|apply Kd.V_drewN|apply Kd.V_drew));exact Kd.V_mono HO_1.out (fun _ hk=>hk.1.1)⟩,⟨Kd.V_mono (Kd.R_V (Kd.R_mono (Ru HO648.out) (fun _ hk=>hk.1))) (fun k_ hk=>by first|exact ⟨(.inr (hk.1)),hk.2⟩|exact (.inr (hk)))⟩,⟨bL HB.out⟩⟩
theorem penumbraref03_Zero.calls  (r1 : Bool) (r2 : List Int) (r3 : List Int) (w : World) (h : penumbraref03_Zero.f  = some (r1,r2,r3)) :
  Calls Try.prog 36 #[] w fun e w'=>∃ v1_ v2_ : Value,e=.returned (.agg #[.bool r1,v1_,v2_])∧Kd.R (Kd.int .u32) 82 w' w.heap.size (fun k_=>some k_≠(v2_ : Value).ownBlock) v1_ r2∧Kd.R (Kd.int .u32) 82 w' w.heap.size (fun k_=>some k_≠(v1_ : Value).ownBlock) v2_ r3∧Below w.heap.size w w':=by
 have hu63:=Try.underlying63;have HB:=Aside0.mk (Below.refl w.heap.size w);have H : (some (false,([] : List Int),(([1] : List Int))))=some (r1,r2,r3):=h;clear h;obtain ⟨y485,hy_⟩ : ∃ y_ : List Int,y_=(([1] : List Int)):=⟨_,rfl⟩;replace H : (some (false,([] : List Int),y485))=some (r1,r2,r3):=yH H;have Ny485:=Aside0.mk hy_;clear hy_;simp only [Option.some.injEq,Prod.mk.injEq] at H;obtain ⟨rfl,rfl,rfl⟩:=H
 go_enter Try.func36,Try.ntmps36
 go_wp2_with (first|((with_reducible refine gate_dst (N:=0) rfl ?_);refine boxA #[.bool false,.slice none 0 0,.slice none 0 0] 63 ?_;intro gb484 hg w1 hbox hb;have BK484:=Aside0.mk hbox;have GW484:=Aside0.mk ((by rw [hg];exact (below_size (bL HB.out)) : w.heap.size≤gb484));have GE484:=Aside0.mk ((by rw [hg];exact (below_size (bL HB.out)) : w.heap.size≤gb484));replace HB:=bH HB hb;clear hb hbox hg)|((with_reducible refine gate_dst (N:=1) rfl ?_);refine Kd.R_lit (Kd.int .u32) _ 82 ?hg (N:=1) ?hd (xs:=([1] : List Int)) (inner:=[.int .u32 1]) (ok:=fun _=>True) (okp:=fun _=>True) ?hr ?hp (fun _ hk=>hk) trivial (Below.refl _ _) (Nat.le_refl _) (by simp) ?_;(case hd=>rfl);(case hg=>rfl);(case hr=>first|(go_simp;done)|(go_simp;(with_reducible rfl))|(go_simp;rfl)|(go_simp;simp only [hu,Int.emod_sub_emod]));(case hp=>exact (Reps.one (show Kd.M (Kd.int .u32) _ _ _ 1 [.int .u32 1] from rfl) (Reps.none _ _)));intro v486 w2 ho3 hb hg_ hnew_;clear hg_ hnew_;(first|rw [← Ny485.out] at ho3|(simp only [Int.reduceToNat] at ho3;rw [← Ny485.out] at ho3));have HO487:=Aside0.mk (Kd.R_lower ho3 (below_size (bL HB.out)));replace BK484:=bK BK484 hb;replace HB:=bH HB hb;clear hb ho3;obtain ⟨Ao4,co4,eo4⟩:=Kd.R_slice HO487.out;subst eo4;obtain ⟨hcz5_0,hcz5_1,hcz5_2⟩:=cl3 BK484.out;obtain ⟨hfz5_0,hfz5_1,hfz5_2⟩:=fr3 BK484.out))
 refine bodyPost_ret (results_cell_row rfl _ _ gb484 63 #[.bool false,.slice none 0 0,.slice Ao4 y485.length co4] (0,0) _ rfl (pT BK484.out) Try.underlying63 rfl (by kernel_rfl)) rfl ?_;exact ⟨_,_,eW,by first|exact Kd.R_nil _ _ _ _ _|exact Kd.N_nil _ _ _ _ _|exact Kd.V_nil _ _ _ _ _|exact Kd.Q_nil _ _ _ _ _|exact Kd.S_nil _ _ _ _ _,by (with_reducible repeat (first|apply Ra|apply Rn|apply Rd));exact Kd.R_mono (Kd.R_far (p:=⟨gb484,2,none⟩) (Kd.R_far (p:=⟨gb484,1,none⟩) (Kd.R_far (p:=⟨gb484,0,none⟩) (Kd.R_types HO487.out BK484.out (by decide)) (fun _ hk=>hk.2) (.bool false)) (fun _ hk=>hk.2) (.slice none 0 0)) (fun _ hk=>hk.2) (.slice Ao4 y485.length co4)) (fun _ hk=>(by simp [Value.ownBlock])),bL HB.out⟩
theorem penumbraref03_Read.calls (k : Nat) (a0_0 : Bool) (A0_1 : Option Addr) (c0_1 : Nat) (l0_1 : List Int) (A0_2 : Option Addr) (c0_2 : Nat) (l0_2 : List Int) (r1 : Bool) (r2 : List Int) (r3 : List Int) (w : World) (hr0_1 : Kd.C (Kd.int .u32) w A0_1 l0_1.length l0_1) (hc0_1 : l0_1.length≤c0_1) (hr0_2 : Kd.C (Kd.int .u32) w A0_2 l0_2.length l0_2) (hc0_2 : l0_2.length≤c0_2) (h : penumbraref03_Read.f k a0_0 l0_1 l0_2=some (r1,r2,r3)) :
  Calls Try.prog 51 #[.agg #[.bool a0_0,.slice A0_1 l0_1.length c0_1,.slice A0_2 l0_2.length c0_2]] w fun e w'=>∃ v1_ v2_ : Value,e=.returned (.agg #[.bool r1,v1_,v2_])∧Kd.R (Kd.int .u32) 82 w' w.heap.size (fun k_=>some k_≠(v2_ : Value).ownBlock) v1_ r2∧Kd.R (Kd.int .u32) 82 w' w.heap.size (fun k_=>some k_≠(v1_ : Value).ownBlock) v2_ r3∧Below w.heap.size w w':=by
 have hu63:=Try.underlying63;have HR0_1:=Aside0.mk hr0_1;have HC0_1:=Aside0.mk hc0_1;clear hr0_1 hc0_1;have HR0_2:=Aside0.mk hr0_2;have HC0_2:=Aside0.mk hc0_2;clear hr0_2 hc0_2;have HB:=Aside0.mk (Below.refl w.heap.size w);have H : ((penumbraref01_Zero.f k l0_2).bind fun t651=>(if t651=true then (penumbraref03_Read.j0 k true a0_0 l0_1 l0_2) else ((penumbraref01_Zero.f k l0_1).bind fun t652=>(penumbraref03_Read.j0 k t652 a0_0 l0_1 l0_2))))=some (r1,r2,r3):=h;clear h;have HC2:=Aside0.mk H;clear H
 go_enter Try.func51,Try.ntmps51
 go_upto_region 1 with (first|((with_reducible refine gate_dst (N:=1) rfl ?_);refine boxA #[.bool a0_0,.slice A0_1 l0_1.length c0_1,.slice A0_2 l0_2.length c0_2] 63 ?_;intro gb649 hg w3 hbox hb;have BK649:=Aside0.mk hbox;have GW649:=Aside0.mk ((by rw [hg];exact (below_size (bL HB.out)) : w.heap.size≤gb649));have GE649:=Aside0.mk ((by rw [hg];exact (below_size (bL HB.out)) : w.heap.size≤gb649));replace HB:=bH HB hb;clear hb hbox hg)|((with_reducible refine gate_dst (N:=2) rfl ?_);refine boxA #[.bool false,.slice none 0 0,.slice none 0 0] 63 ?_;intro gb650 hg w4 hbox hb;have BK650:=Aside0.mk hbox;have GW650:=Aside0.mk ((by rw [hg];exact (below_size (bL HB.out)) : w.heap.size≤gb650));have GE650:=Aside0.mk ((by rw [hg];exact (below_size (bL HB.out)) : w.heap.size≤gb650));replace HB:=bH HB hb;have NB649_650:=Aside0.mk ((by rw [hg];exact Nat.ne_of_lt (blk_lt (Bu BK649.out)) : gb649≠gb650));have NB650_649:=Aside0.mk ((by rw [hg];exact Nat.ne_of_gt (blk_lt (Bu BK649.out)) : gb650≠gb649));replace BK649:=bK BK649 hb;clear hb hbox hg))
 (try simp only [Act.put,s0,s1,s2])
 go_cut [17] (fun v17 wc=>∃ (kq : Nat) (x17_1 : Bool),v17=.bool x17_1∧Aside0 (penumbraref03_Read.j0 kq x17_1 a0_0 l0_1 l0_2=some (r1,r2,r3))∧Aside0 (kq≤k)∧Aside0 (wc.heap[gb649]? = some (.cells #[.bool a0_0,(.slice A0_1 l0_1.length c0_1),(.slice A0_2 l0_2.length c0_2)] 63 (0,0)))∧Aside0 (wc.heap[gb650]? = some (.cells #[.bool false,(.slice none 0 0),(.slice none 0 0)] 63 (0,0)))∧Aside0 (Below w.heap.size w wc))
 case first =>
  have H:=HC2.out;clear HC2;refine biT H ?_;clear H;intro t651 A5 H;(try dsimp only at H);replace A5:=Aside0.mk A5
  by_cases c6 : t651=true
  ·subst c6
   rw [if_pos rfl] at H;have H':=Aside0.mk H;clear H;have hnb7:=NB649_650.out;have hnc7:=NB650_649.out;obtain ⟨hcz8_0,hcz8_1,hcz8_2⟩:=cl3 BK649.out;obtain ⟨hfz8_0,hfz8_1,hfz8_2⟩:=fr3 BK649.out
   go_wp2_with (first|((with_reducible refine gate_callee (f:=64) rfl ?_);refine gL (some 12) Try.func64 #[.slice A0_2 l0_2.length c0_2] ?_;(with_reducible refine (penumbraref01_Zero.calls k _ _ l0_2 true _ ?s1_ ?s2_ A5.out).mono ?_);(case s1_=>exact Cu (Kd.C_below HR0_2.out HB.out));(case s2_=>exact HC0_2.out);rintro e w9 ⟨rfl,hb⟩;refine ⟨_,rfl,?_⟩;replace BK649:=bK BK649 hb;replace BK650:=bK BK650 hb;replace HB:=bH HB hb))
   go_meet
   case rel=>exact ⟨_,(true),sD,H',⟨by first|omega|exact Nat.le_refl _⟩,⟨Bu BK649.out⟩,⟨Bu BK650.out⟩,⟨bL HB.out⟩⟩
  ·replace c6:=Bool.eq_false_iff.mpr c6
   subst c6;rw [if_neg (show ¬ (false=true) by decide)] at H;refine biT H ?_;clear H;intro t652 A10 H;(try dsimp only at H);replace A10:=Aside0.mk A10;have H':=Aside0.mk H;clear H;have hnb11:=NB649_650.out;have hnc11:=NB650_649.out;obtain ⟨hcz12_0,hcz12_1,hcz12_2⟩:=cl3 BK649.out;obtain ⟨hfz12_0,hfz12_1,hfz12_2⟩:=fr3 BK649.out
   go_wp2_with (first|((with_reducible refine gate_callee (f:=64) rfl ?_);refine gL (some 12) Try.func64 #[.slice A0_2 l0_2.length c0_2] ?_;(with_reducible refine (penumbraref01_Zero.calls k _ _ l0_2 false _ ?s1_ ?s2_ A5.out).mono ?_);(case s1_=>exact Cu (Kd.C_below HR0_2.out HB.out));(case s2_=>exact HC0_2.out);rintro e w13 ⟨rfl,hb⟩;refine ⟨_,rfl,?_⟩;replace BK649:=bK BK649 hb;replace BK650:=bK BK650 hb;replace HB:=bH HB hb;obtain ⟨hcz14_0,hcz14_1,hcz14_2⟩:=cl3 BK649.out;obtain ⟨hfz14_0,hfz14_1,hfz14_2⟩:=fr3 BK649.out)|(go_at_call 64;(with_reducible refine (penumbraref01_Zero.calls k _ _ l0_1 t652 _ ?s1_ ?s2_ A10.out).mono ?_);(case s1_=>exact Cu (Kd.C_below HR0_1.out HB.out));(case s2_=>exact HC0_1.out);rintro e w15 ⟨rfl,hb⟩;replace BK649:=bK BK649 hb;replace BK650:=bK BK650 hb;replace HB:=bH HB hb))
   go_meet
   case rel=>exact ⟨_,(t652),sD,H',⟨by first|omega|exact Nat.le_refl _⟩,⟨Bu BK649.out⟩,⟨Bu BK650.out⟩,⟨bL HB.out⟩⟩
 case rest =>
  clear HC2;obtain ⟨kq,x17_1,rfl,HA,HJ1,BK649,BK650,HB⟩:=hcut
  cases kq with
  | zero=>exact absurd HA.out (by simp [penumbraref03_Read.j0])
  | succ kj1 =>
   have H:=HA.out;clear HA;simp only [penumbraref03_Read.j0] at H
   by_cases c16 : x17_1=true
   ·subst c16
    rw [if_pos rfl] at H;refine biT H ?_;clear H;rintro ⟨t653,t654,t657⟩ A17 H;(try dsimp only at H);replace A17:=Aside0.mk A17;simp only [Option.some.injEq,Prod.mk.injEq] at H;obtain ⟨rfl,rfl,rfl⟩:=H
    go_wp2_with (first|((with_reducible refine gate_callee (f:=36) rfl ?_);refine gL (some 18) Try.func36 #[] ?_;(with_reducible refine (penumbraref03_Zero.calls  t653 t654 t657 _ A17.out).mono ?_);rintro e w18 ⟨v655,v658,rfl,ho0,ho1,hb⟩;refine ⟨_,rfl,?_⟩;have HO656:=Aside0.mk (Kd.R_lower ho0 (below_size (bL HB.out)));have HO659:=Aside0.mk (Kd.R_lower ho1 (below_size (bL HB.out)));replace BK649:=bK BK649 hb;replace BK650:=bK BK650 hb;replace HB:=bH HB hb;have hnb19:=NB650_649.out;have hnc19:=NB649_650.out;obtain ⟨hcz20_0,hcz20_1,hcz20_2⟩:=cl3 BK650.out;obtain ⟨hfz20_0,hfz20_1,hfz20_2⟩:=fr3 BK650.out;obtain ⟨Ao21,co21,eo21⟩:=Kd.R_slice HO656.out;subst eo21;obtain ⟨Ao22,co22,eo22⟩:=Kd.R_slice HO659.out;subst eo22))
    refine bodyPost_ret (results_cell_row rfl _ _ gb650 63 #[.bool t653,.slice Ao21 t654.length co21,.slice Ao22 t657.length co22] (0,0) _ rfl (pT BK650.out) Try.underlying63 rfl (by kernel_rfl)) rfl ?_;exact ⟨_,_,eW,by (with_reducible repeat (first|apply Ra|apply Rn|apply Rd));exact R3 HO656.out (Nat.le_refl _) BK650.out (by decide) _ _ _,by (with_reducible repeat (first|apply Ra|apply Rn|apply Rd));exact R3 HO659.out (Nat.le_refl _) BK650.out (by decide) _ _ _,bL HB.out⟩
   ·replace c16:=Bool.eq_false_iff.mpr c16
    subst c16;rw [if_neg (show ¬ (false=true) by decide)] at H;refine biT H ?_;clear H;intro t660 A23 H;(try dsimp only at H);replace A23:=Aside0.mk A23;refine biT H ?_;clear H;rintro ⟨t663,t664,t665⟩ A24 H;(try dsimp only at H);replace A24:=Aside0.mk A24;refine biT H ?_;clear H;rintro ⟨t670,t671,t672⟩ A25 H;(try dsimp only at H);replace A25:=Aside0.mk A25;simp only [Option.some.injEq,Prod.mk.injEq] at H;obtain ⟨rfl,rfl,rfl⟩:=H;have hnb26:=NB649_650.out;have hnc26:=NB650_649.out;obtain ⟨hcz27_0,hcz27_1,hcz27_2⟩:=cl3 BK649.out;obtain ⟨hfz27_0,hfz27_1,hfz27_2⟩:=fr3 BK649.out
    go_wp2_with (first|((with_reducible refine gate_callee (f:=65) rfl ?_);refine gL (some 23) Try.func65 #[.slice A0_1 l0_1.length c0_1,.slice A0_2 l0_2.length c0_2] ?_;(with_reducible refine (penumbraref02_Gcd.calls kj1 (fun k_=>k_ < w.heap.size) _ _ l0_1 (fun k_=>k_ < w.heap.size) _ _ l0_2 t660 _ ?s1_ ?s2_ A23.out).mono ?_);(case s1_=>exact Kd.V_mk HC0_1.out (Kd.F_below (Kd.C_F (Kd.heap_int .u32) HR0_1.out) (bL HB.out)));(case s2_=>exact Kd.V_mk HC0_2.out (Kd.F_below (Kd.C_F (Kd.heap_int .u32) HR0_2.out) (bL HB.out)));rintro e w28 ⟨v661,rfl,ho0,hb⟩;refine ⟨_,rfl,?_⟩;have HO662:=Aside0.mk (Kd.R_lower (Kd.R_mono (ok':=fun k_=>True) ho0 (fun _ hk_=>trivial)) (below_size (bL HB.out)));replace BK649:=bK BK649 hb;replace BK650:=bK BK650 hb;replace HB:=bH HB hb;obtain ⟨hcz29_0,hcz29_1,hcz29_2⟩:=cl3 BK649.out;obtain ⟨hfz29_0,hfz29_1,hfz29_2⟩:=fr3 BK649.out;obtain ⟨Ao30,co30,eo30⟩:=Kd.R_slice HO662.out;subst eo30)|((with_reducible refine gate_callee (f:=66) rfl ?_);refine gL (some 28) Try.func66 #[.slice A0_1 l0_1.length c0_1,.slice Ao30 t660.length co30] ?_;(with_reducible refine (penumbraref01_DivMod.calls kj1 _ _ l0_1 _ _ t660 t663 t664 t665 _ ?s1_ ?s2_ ?s3_ ?s4_ A24.out).mono ?_);(case s1_=>exact Cu (Kd.C_below HR0_1.out HB.out));(case s2_=>exact HC0_1.out);(case s3_=>exact Cu (Kd.R_reads' HO662.out).2.2);(case s4_=>exact (Kd.R_reads' HO662.out).2.1);rintro e w31 ⟨v666,v668,rfl,ho0,ho1,hb⟩;refine ⟨_,rfl,?_⟩;have HO667:=Aside0.mk (Kd.R_lower (Kd.R_new' ho0 (Kd.R_lt (Ru HO662.out))) (below_size (bL HB.out)));have HO669:=Aside0.mk (Kd.R_lower (Kd.R_new' ho1 (Kd.R_lt (Ru HO662.out))) (below_size (bL HB.out)));replace HO662:=Aside0.mk (Kd.R_mono (Kd.R_told (Kd.R_told (Kd.R_old (Ru HO662.out) hb) (Kd.R_base ho0)) (Kd.R_base ho1)) (fun _ h_=>h_.1));replace BK649:=bK BK649 hb;replace BK650:=bK BK650 hb;replace HB:=bH HB hb;obtain ⟨hcz32_0,hcz32_1,hcz32_2⟩:=cl3 BK649.out;obtain ⟨hfz32_0,hfz32_1,hfz32_2⟩:=fr3 BK649.out)|((with_reducible refine gate_callee (f:=66) rfl ?_);refine gL (some 36) Try.func66 #[.slice A0_2 l0_2.length c0_2,.slice Ao30 t660.length co30] ?_;(with_reducible refine (penumbraref01_DivMod.calls kj1 _ _ l0_2 _ _ t660 t670 t671 t672 _ ?s1_ ?s2_ ?s3_ ?s4_ A25.out).mono ?_);(case s1_=>exact Cu (Kd.C_below HR0_2.out HB.out));(case s2_=>exact HC0_2.out);(case s3_=>exact Cu (Kd.R_reads' HO662.out).2.2);(case s4_=>exact (Kd.R_reads' HO662.out).2.1);rintro e w33 ⟨v673,v675,rfl,ho0,ho1,hb⟩;refine ⟨_,rfl,?_⟩;have HO674:=Aside0.mk (Kd.R_lower (Kd.R_new' (Kd.R_new' (Kd.R_new' ho0 (Kd.R_lt (Ru HO662.out))) (Kd.R_lt (Ru HO667.out))) (Kd.R_lt (Ru HO669.out))) (below_size (bL HB.out)));have HO676:=Aside0.mk (Kd.R_lower (Kd.R_new' (Kd.R_new' (Kd.R_new' ho1 (Kd.R_lt (Ru HO662.out))) (Kd.R_lt (Ru HO667.out))) (Kd.R_lt (Ru HO669.out))) (below_size (bL HB.out)));replace HO662:=Aside0.mk (Kd.R_mono (Kd.R_told (Kd.R_told (Kd.R_old (Ru HO662.out) hb) (Kd.R_base ho0)) (Kd.R_base ho1)) (fun _ h_=>h_.1));replace HO667:=Aside0.mk (Kd.R_mono (Kd.R_told (Kd.R_told (Kd.R_old (Ru HO667.out) hb) (Kd.R_base ho0)) (Kd.R_base ho1)) (fun _ h_=>h_.1));replace HO669:=Aside0.mk (Kd.R_mono (Kd.R_told (Kd.R_told (Kd.R_old (Ru HO669.out) hb) (Kd.R_base ho0)) (Kd.R_base ho1)) (fun _ h_=>h_.1));replace BK649:=bK BK649 hb;replace BK650:=bK BK650 hb;replace HB:=bH HB hb;obtain ⟨hcz34_0,hcz34_1,hcz34_2⟩:=cl3 BK649.out;obtain ⟨hfz34_0,hfz34_1,hfz34_2⟩:=fr3 BK649.out;obtain ⟨Ao35,co35,eo35⟩:=Kd.R_slice HO674.out;subst eo35;obtain ⟨Ao36,co36,eo36⟩:=Kd.R_slice HO667.out;subst eo36;obtain ⟨hcz37_0,hcz37_1,hcz37_2⟩:=cl3 BK650.out;obtain ⟨hfz37_0,hfz37_1,hfz37_2⟩:=fr3 BK650.out))
    refine bodyPost_ret (results_cell_row rfl _ _ gb650 63 #[.bool a0_0,.slice Ao36 t663.length co36,.slice Ao35 t670.length co35] (0,0) _ rfl (pT BK650.out) Try.underlying63 rfl (by kernel_rfl)) rfl ?_;exact ⟨_,_,eW,by (with_reducible repeat (first|apply Ra|apply Rn|apply Rd));exact Kd.R_mono (Kd.R_far (p:=⟨gb650,2,none⟩) (Kd.R_far (p:=⟨gb650,1,none⟩) (Kd.R_far (p:=⟨gb650,0,none⟩) (Kd.R_types HO667.out BK650.out (by decide)) (fun _ hk=>hk.2) (.bool a0_0)) (fun _ hk=>hk.2) (.slice Ao36 t663.length co36)) (fun _ hk=>hk.2) (.slice Ao35 t670.length co35)) (fun _ hk=>hk.1.1.2),by (with_reducible repeat (first|apply Ra|apply Rn|apply Rd));exact Kd.R_mono (Kd.R_far (p:=⟨gb650,2,none⟩) (Kd.R_far (p:=⟨gb650,1,none⟩) (Kd.R_far (p:=⟨gb650,0,none⟩) (Kd.R_types HO674.out BK650.out (by decide)) (fun _ hk=>hk.2) (.bool a0_0)) (fun _ hk=>hk.2) (.slice Ao36 t663.length co36)) (fun _ hk=>hk.2) (.slice Ao35 t670.length co35)) (fun _ hk=>hk.1.1.2),bL HB.out⟩
theorem penumbraref03_Sign.calls (k : Nat) (a0_0 : Bool) (A0_1 : Option Addr) (c0_1 : Nat) (l0_1 : List Int) (A0_2 : Option Addr) (c0_2 : Nat) (l0_2 : List Int) (r : Int) (w : World) (hr0_1 : Kd.C (Kd.int .u32) w A0_1 l0_1.length l0_1) (hc0_1 : l0_1.length≤c0_1) (hr0_2 : Kd.C (Kd.int .u32) w A0_2 l0_2.length l0_2) (hc0_2 : l0_2.length≤c0_2) (h : penumbraref03_Sign.f k a0_0 l0_1 l0_2=some r) :
  Calls Try.prog 50 #[.agg #[.bool a0_0,.slice A0_1 l0_1.length c0_1,.slice A0_2 l0_2.length c0_2]] w fun e w'=>e=.returned (.int .i64 r)∧Below w.heap.size w w':=by
 have hu63:=Try.underlying63;have HR0_1:=Aside0.mk hr0_1;have HC0_1:=Aside0.mk hc0_1;clear hr0_1 hc0_1;have HR0_2:=Aside0.mk hr0_2;have HC0_2:=Aside0.mk hc0_2;clear hr0_2 hc0_2;have HB:=Aside0.mk (Below.refl w.heap.size w);have H : ((penumbraref01_Zero.f k l0_1).bind fun t693=>(if t693=true then (penumbraref03_Sign.j0 k true a0_0 l0_1 l0_2) else ((penumbraref01_Zero.f k l0_2).bind fun t694=>(penumbraref03_Sign.j0 k t694 a0_0 l0_1 l0_2))))=some r:=h;clear h;have HC2:=Aside0.mk H;clear H
 go_enter Try.func50,Try.ntmps50
 go_upto_region 1 with (first|((with_reducible refine gate_dst (N:=1) rfl ?_);refine boxA #[.bool a0_0,.slice A0_1 l0_1.length c0_1,.slice A0_2 l0_2.length c0_2] 63 ?_;intro gb692 hg w3 hbox hb;have BK692:=Aside0.mk hbox;have GW692:=Aside0.mk ((by rw [hg];exact (below_size (bL HB.out)) : w.heap.size≤gb692));have GE692:=Aside0.mk ((by rw [hg];exact (below_size (bL HB.out)) : w.heap.size≤gb692));replace HB:=bH HB hb;clear hb hbox hg))
 (try simp only [Act.put,s0,s1,s2])
 go_cut [10] (fun v10 wc=>∃ (kq : Nat) (x10_1 : Bool),v10=.bool x10_1∧Aside0 (penumbraref03_Sign.j0 kq x10_1 a0_0 l0_1 l0_2=some r)∧Aside0 (kq≤k)∧Aside0 (wc.heap[gb692]? = some (.cells #[.bool a0_0,(.slice A0_1 l0_1.length c0_1),(.slice A0_2 l0_2.length c0_2)] 63 (0,0)))∧Aside0 (Below w.heap.size w wc))
 case first =>
  have H:=HC2.out;clear HC2;refine biT H ?_;clear H;intro t693 A4 H;(try dsimp only at H);replace A4:=Aside0.mk A4
  by_cases c5 : t693=true
  ·subst c5
   rw [if_pos rfl] at H;have H':=Aside0.mk H;clear H;obtain ⟨hcz6_0,hcz6_1,hcz6_2⟩:=cl3 BK692.out;obtain ⟨hfz6_0,hfz6_1,hfz6_2⟩:=fr3 BK692.out
   go_wp2_with (first|((with_reducible refine gate_callee (f:=64) rfl ?_);refine gL (some 5) Try.func64 #[.slice A0_1 l0_1.length c0_1] ?_;(with_reducible refine (penumbraref01_Zero.calls k _ _ l0_1 true _ ?s1_ ?s2_ A4.out).mono ?_);(case s1_=>exact Cu (Kd.C_below HR0_1.out HB.out));(case s2_=>exact HC0_1.out);rintro e w7 ⟨rfl,hb⟩;refine ⟨_,rfl,?_⟩;replace BK692:=bK BK692 hb;replace HB:=bH HB hb))
   go_meet
   case rel=>exact ⟨_,(true),sD,H',⟨by first|omega|exact Nat.le_refl _⟩,⟨Bu BK692.out⟩,⟨bL HB.out⟩⟩
  ·replace c5:=Bool.eq_false_iff.mpr c5
   subst c5;rw [if_neg (show ¬ (false=true) by decide)] at H;refine biT H ?_;clear H;intro t694 A8 H;(try dsimp only at H);replace A8:=Aside0.mk A8;have H':=Aside0.mk H;clear H;obtain ⟨hcz9_0,hcz9_1,hcz9_2⟩:=cl3 BK692.out;obtain ⟨hfz9_0,hfz9_1,hfz9_2⟩:=fr3 BK692.out
   go_wp2_with (first|((with_reducible refine gate_callee (f:=64) rfl ?_);refine gL (some 5) Try.func64 #[.slice A0_1 l0_1.length c0_1] ?_;(with_reducible refine (penumbraref01_Zero.calls k _ _ l0_1 false _ ?s1_ ?s2_ A4.out).mono ?_);(case s1_=>exact Cu (Kd.C_below HR0_1.out HB.out));(case s2_=>exact HC0_1.out);rintro e w10 ⟨rfl,hb⟩;refine ⟨_,rfl,?_⟩;replace BK692:=bK BK692 hb;replace HB:=bH HB hb;obtain ⟨hcz11_0,hcz11_1,hcz11_2⟩:=cl3 BK692.out;obtain ⟨hfz11_0,hfz11_1,hfz11_2⟩:=fr3 BK692.out)|(go_at_call 64;(with_reducible refine (penumbraref01_Zero.calls k _ _ l0_2 t694 _ ?s1_ ?s2_ A8.out).mono ?_);(case s1_=>exact Cu (Kd.C_below HR0_2.out HB.out));(case s2_=>exact HC0_2.out);rintro e w12 ⟨rfl,hb⟩;replace BK692:=bK BK692 hb;replace HB:=bH HB hb))
   go_meet
   case rel=>exact ⟨_,(t694),sD,H',⟨by first|omega|exact Nat.le_refl _⟩,⟨Bu BK692.out⟩,⟨bL HB.out⟩⟩
 case rest =>
  clear HC2;obtain ⟨kq,x10_1,rfl,HA,HJ1,BK692,HB⟩:=hcut
  cases kq with
  | zero=>exact absurd HA.out (by simp [penumbraref03_Sign.j0])
  | succ kj1 =>
   have H:=HA.out;clear HA;simp only [penumbraref03_Sign.j0] at H
   by_cases c13 : x10_1=true
   ·subst c13
    rw [if_pos rfl] at H;obtain rfl:=Option.some.inj H
    go_wp2
    go_ret
    exact ⟨eW,bL HB.out⟩
   ·replace c13:=Bool.eq_false_iff.mpr c13
    subst c13;rw [if_neg (show ¬ (false=true) by decide)] at H
    by_cases c14 : a0_0=true
    ·subst c14
     rw [if_pos rfl] at H;obtain rfl:=Option.some.inj H;obtain ⟨hcz15_0,hcz15_1,hcz15_2⟩:=cl3 BK692.out;obtain ⟨hfz15_0,hfz15_1,hfz15_2⟩:=fr3 BK692.out
     go_wp2
     go_ret
     exact ⟨eW,bL HB.out⟩
    ·replace c14:=Bool.eq_false_iff.mpr c14
     subst c14;rw [if_neg (show ¬ (false=true) by decide)] at H;obtain rfl:=Option.some.inj H;obtain ⟨hcz16_0,hcz16_1,hcz16_2⟩:=cl3 BK692.out;obtain ⟨hfz16_0,hfz16_1,hfz16_2⟩:=fr3 BK692.out
     go_wp2
     go_ret
     exact ⟨eW,bL HB.out⟩
def penumbraref03_Add.T9 : Bool × List (List Nat × List Nat):=(true,[([],[]),([0],[0]),([],[]),([],[]),([2,3],[2,3]),([],[]),([1,4,5],[1,4,5]),([6,4],[6]),([7,7,0,1,2,3,4,5,6,7],[7])])
def penumbraref03_Add.B9 : List Nat:=[0,1,0,0,12,0,63,127,255]
theorem penumbraref03_Add.tab9 : rtab .any (opsOf Try.f39 9)=penumbraref03_Add.T9:=by kernel_rfl
theorem penumbraref03_Add.bits9 : waitsOk penumbraref03_Add.T9.2 penumbraref03_Add.B9=true:=by kernel_rfl
theorem penumbraref03_Add.calls (k : Nat) (a0_0 : Bool) (A0_1 : Option Addr) (c0_1 : Nat) (l0_1 : List Int) (A0_2 : Option Addr) (c0_2 : Nat) (l0_2 : List Int) (a1_0 : Bool) (A1_1 : Option Addr) (c1_1 : Nat) (l1_1 : List Int) (A1_2 : Option Addr) (c1_2 : Nat) (l1_2 : List Int) (r1 : Bool) (r2 : List Int) (r3 : List Int) (w : World) (hr0_1 : Kd.C (Kd.int .u32) w A0_1 l0_1.length l0_1) (hc0_1 : l0_1.length≤c0_1) (hr0_2 : Kd.C (Kd.int .u32) w A0_2 l0_2.length l0_2) (hc0_2 : l0_2.length≤c0_2) (hr1_1 : Kd.C (Kd.int .u32) w A1_1 l1_1.length l1_1) (hc1_1 : l1_1.length≤c1_1) (hr1_2 : Kd.C (Kd.int .u32) w A1_2 l1_2.length l1_2) (hc1_2 : l1_2.length≤c1_2) (h : penumbraref03_Add.f k a0_0 l0_1 l0_2 a1_0 l1_1 l1_2=some (r1,r2,r3)) :
  Calls Try.prog 39 #[.agg #[.bool a0_0,.slice A0_1 l0_1.length c0_1,.slice A0_2 l0_2.length c0_2],.agg #[.bool a1_0,.slice A1_1 l1_1.length c1_1,.slice A1_2 l1_2.length c1_2]] w fun e w'=>∃ v1_ v2_ : Value,e=.returned (.agg #[.bool r1,v1_,v2_])∧Kd.R (Kd.int .u32) 82 w' w.heap.size (fun k_=>some k_≠(v2_ : Value).ownBlock) v1_ r2∧Kd.R (Kd.int .u32) 82 w' w.heap.size (fun k_=>some k_≠(v1_ : Value).ownBlock) v2_ r3∧Below w.heap.size w w':=by
 have hu63:=Try.underlying63;have HR0_1:=Aside0.mk hr0_1;have HC0_1:=Aside0.mk hc0_1;clear hr0_1 hc0_1;have HR0_2:=Aside0.mk hr0_2;have HC0_2:=Aside0.mk hc0_2;clear hr0_2 hc0_2;have HR1_1:=Aside0.mk hr1_1;have HC1_1:=Aside0.mk hc1_1;clear hr1_1 hc1_1;have HR1_2:=Aside0.mk hr1_2;have HC1_2:=Aside0.mk hc1_2;clear hr1_2 hc1_2;have HB:=Aside0.mk (Below.refl w.heap.size w);have H : ((penumbraref03_Sign.f k a0_0 l0_1 l0_2).bind fun t698=>(if t698=0 then ((penumbraref03_Read.f k a1_0 l1_1 l1_2).bind fun bt699=>(some (bt699.1,bt699.2.1,bt699.2.2))) else ((penumbraref03_Sign.f k a1_0 l1_1 l1_2).bind fun t706=>(if t706=0 then ((penumbraref03_Read.f k a0_0 l0_1 l0_2).bind fun bt707=>(some (bt707.1,bt707.2.1,bt707.2.2))) else ((penumbraref01_Mul.f k l0_1 l1_2).bind fun t714=>((penumbraref01_Mul.f k l1_1 l0_2).bind fun t717=>((penumbraref01_Mul.f k l0_2 l1_2).bind fun t720=>(if (a0_0 == a1_0)=true then ((penumbraref01_Add.f k t714 t717).bind fun t723=>((penumbraref03_Read.f k a0_0 t723 t720).bind fun bt726=>(some (bt726.1,bt726.2.1,bt726.2.2)))) else ((penumbraref01_Cmp.f k t714 t717).bind fun t733=>(if t733 ≥ 0 then ((penumbraref01_Sub.f k t714 t717).bind fun bt734=>((penumbraref03_Read.f k a0_0 bt734.1 t720).bind fun bt738=>(some (bt738.1,bt738.2.1,bt738.2.2)))) else ((penumbraref01_Sub.f k t717 t714).bind fun bt745=>((penumbraref03_Read.f k a1_0 bt745.1 t720).bind fun bt749=>(some (bt749.1,bt749.2.1,bt749.2.2))))))))))))))=some (r1,r2,r3):=h;clear h;refine biT H ?_;clear H;intro t698 A3 H
 (try dsimp only at H);replace A3:=Aside0.mk A3
 by_cases c4 : t698=0
 ·rw [if_pos c4] at H
  have c4b0 : (t698 == 0)=true:=beq_iff_eq.mpr c4;have c4b1 : (t698 != 0)=false:=bne_eq_false_iff_eq.mpr c4;clear c4;refine biT H ?_;clear H;rintro ⟨t699,t700,t703⟩ A5 H;(try dsimp only at H);replace A5:=Aside0.mk A5;simp only [Option.some.injEq,Prod.mk.injEq] at H;obtain ⟨rfl,rfl,rfl⟩:=H
  go_enter Try.func39,Try.ntmps39
  go_wp2_with (first|((with_reducible refine gate_dst (N:=2) rfl ?_);refine boxA #[.bool a0_0,.slice A0_1 l0_1.length c0_1,.slice A0_2 l0_2.length c0_2] 63 ?_;intro gb695 hg w6 hbox hb;have BK695:=Aside0.mk hbox;have GW695:=Aside0.mk ((by rw [hg];exact (below_size (bL HB.out)) : w.heap.size≤gb695));have GE695:=Aside0.mk ((by rw [hg];exact (below_size (bL HB.out)) : w.heap.size≤gb695));replace HB:=bH HB hb;clear hb hbox hg)|((with_reducible refine gate_dst (N:=3) rfl ?_);refine boxA #[.bool a1_0,.slice A1_1 l1_1.length c1_1,.slice A1_2 l1_2.length c1_2] 63 ?_;intro gb696 hg w7 hbox hb;have BK696:=Aside0.mk hbox;have GW696:=Aside0.mk ((by rw [hg];exact (below_size (bL HB.out)) : w.heap.size≤gb696));have GE696:=Aside0.mk ((by rw [hg];exact (below_size (bL HB.out)) : w.heap.size≤gb696));replace HB:=bH HB hb;have NB695_696:=Aside0.mk ((by rw [hg];exact Nat.ne_of_lt (blk_lt (Bu BK695.out)) : gb695≠gb696));have NB696_695:=Aside0.mk ((by rw [hg];exact Nat.ne_of_gt (blk_lt (Bu BK695.out)) : gb696≠gb695));replace BK695:=bK BK695 hb;clear hb hbox hg)|((with_reducible refine gate_dst (N:=4) rfl ?_);refine boxA #[.bool false,.slice none 0 0,.slice none 0 0] 63 ?_;intro gb697 hg w8 hbox hb;have BK697:=Aside0.mk hbox;have GW697:=Aside0.mk ((by rw [hg];exact (below_size (bL HB.out)) : w.heap.size≤gb697));have GE697:=Aside0.mk ((by rw [hg];exact (below_size (bL HB.out)) : w.heap.size≤gb697));replace HB:=bH HB hb;have NB695_697:=Aside0.mk ((by rw [hg];exact Nat.ne_of_lt (blk_lt (Bu BK695.out)) : gb695≠gb697));have NB697_695:=Aside0.mk ((by rw [hg];exact Nat.ne_of_gt (blk_lt (Bu BK695.out)) : gb697≠gb695));replace BK695:=bK BK695 hb;have NB696_697:=Aside0.mk ((by rw [hg];exact Nat.ne_of_lt (blk_lt (Bu BK696.out)) : gb696≠gb697));have NB697_696:=Aside0.mk ((by rw [hg];exact Nat.ne_of_gt (blk_lt (Bu BK696.out)) : gb697≠gb696));replace BK696:=bK BK696 hb;clear hb hbox hg;have hnb9:=NB695_696.out;have hnc9:=NB696_695.out;have hnb10:=NB695_697.out;have hnc10:=NB697_695.out;obtain ⟨hcz11_0,hcz11_1,hcz11_2⟩:=cl3 BK695.out;obtain ⟨hfz11_0,hfz11_1,hfz11_2⟩:=fr3 BK695.out)|((with_reducible refine gate_callee (f:=50) rfl ?_);refine gL (some 13) Try.func50 #[.agg #[.bool a0_0,.slice A0_1 l0_1.length c0_1,.slice A0_2 l0_2.length c0_2]] ?_;(with_reducible refine (penumbraref03_Sign.calls k a0_0 _ _ l0_1 _ _ l0_2 t698 _ ?s1_ ?s2_ ?s3_ ?s4_ A3.out).mono ?_);(case s1_=>exact Cu (Kd.C_below HR0_1.out HB.out));(case s2_=>exact HC0_1.out);(case s3_=>exact Cu (Kd.C_below HR0_2.out HB.out));(case s4_=>exact HC0_2.out);rintro e w12 ⟨rfl,hb⟩;refine ⟨_,rfl,?_⟩;replace BK695:=bK BK695 hb;replace BK696:=bK BK696 hb;replace BK697:=bK BK697 hb;replace HB:=bH HB hb;have hnb13:=NB696_697.out;have hnc13:=NB697_696.out;obtain ⟨hcz14_0,hcz14_1,hcz14_2⟩:=cl3 BK696.out;obtain ⟨hfz14_0,hfz14_1,hfz14_2⟩:=fr3 BK696.out)|((with_reducible refine gate_callee (f:=51) rfl ?_);refine gL (some 16) Try.func51 #[.agg #[.bool a1_0,.slice A1_1 l1_1.length c1_1,.slice A1_2 l1_2.length c1_2]] ?_;(with_reducible refine (penumbraref03_Read.calls k a1_0 _ _ l1_1 _ _ l1_2 t699 t700 t703 _ ?s1_ ?s2_ ?s3_ ?s4_ A5.out).mono ?_);(case s1_=>exact Cu (Kd.C_below HR1_1.out HB.out));(case s2_=>exact HC1_1.out);(case s3_=>exact Cu (Kd.C_below HR1_2.out HB.out));(case s4_=>exact HC1_2.out);rintro e w15 ⟨v701,v704,rfl,ho0,ho1,hb⟩;refine ⟨_,rfl,?_⟩;have HO702:=Aside0.mk (Kd.R_lower ho0 (below_size (bL HB.out)));have HO705:=Aside0.mk (Kd.R_lower ho1 (below_size (bL HB.out)));replace BK695:=bK BK695 hb;replace BK696:=bK BK696 hb;replace BK697:=bK BK697 hb;replace HB:=bH HB hb;obtain ⟨hcz16_0,hcz16_1,hcz16_2⟩:=cl3 BK697.out;obtain ⟨hfz16_0,hfz16_1,hfz16_2⟩:=fr3 BK697.out;obtain ⟨Ao17,co17,eo17⟩:=Kd.R_slice HO702.out;subst eo17;obtain ⟨Ao18,co18,eo18⟩:=Kd.R_slice HO705.out;subst eo18))
  refine bodyPost_ret (results_cell_row rfl _ _ gb697 63 #[.bool t699,.slice Ao17 t700.length co17,.slice Ao18 t703.length co18] (0,0) _ rfl (pT BK697.out) Try.underlying63 rfl (by kernel_rfl)) rfl ?_;exact ⟨_,_,eW,by (with_reducible repeat (first|apply Ra|apply Rn|apply Rd));exact R3 HO702.out (Nat.le_refl _) BK697.out (by decide) _ _ _,by (with_reducible repeat (first|apply Ra|apply Rn|apply Rd));exact R3 HO705.out (Nat.le_refl _) BK697.out (by decide) _ _ _,bL HB.out⟩
 ·rw [if_neg c4] at H
  have c4b0 : (t698 == 0)=false:=beq_eq_false_iff_ne.mpr c4;have c4b1 : (t698 != 0)=true:=bne_iff_ne.mpr c4;refine biT H ?_;clear H;intro t706 A19 H;(try dsimp only at H);replace A19:=Aside0.mk A19
  by_cases c20 : t706=0
  ·rw [if_pos c20] at H
   have c20b0 : (t706 == 0)=true:=beq_iff_eq.mpr c20;have c20b1 : (t706 != 0)=false:=bne_eq_false_iff_eq.mpr c20;clear c20;refine biT H ?_;clear H;rintro ⟨t707,t708,t711⟩ A21 H;(try dsimp only at H);replace A21:=Aside0.mk A21;simp only [Option.some.injEq,Prod.mk.injEq] at H;obtain ⟨rfl,rfl,rfl⟩:=H
   go_enter Try.func39,Try.ntmps39
   go_wp2_with (first|((with_reducible refine gate_dst (N:=2) rfl ?_);refine boxA #[.bool a0_0,.slice A0_1 l0_1.length c0_1,.slice A0_2 l0_2.length c0_2] 63 ?_;intro gb695 hg w22 hbox hb;have BK695:=Aside0.mk hbox;have GW695:=Aside0.mk ((by rw [hg];exact (below_size (bL HB.out)) : w.heap.size≤gb695));have GE695:=Aside0.mk ((by rw [hg];exact (below_size (bL HB.out)) : w.heap.size≤gb695));replace HB:=bH HB hb;clear hb hbox hg)|((with_reducible refine gate_dst (N:=3) rfl ?_);refine boxA #[.bool a1_0,.slice A1_1 l1_1.length c1_1,.slice A1_2 l1_2.length c1_2] 63 ?_;intro gb696 hg w23 hbox hb;have BK696:=Aside0.mk hbox;have GW696:=Aside0.mk ((by rw [hg];exact (below_size (bL HB.out)) : w.heap.size≤gb696));have GE696:=Aside0.mk ((by rw [hg];exact (below_size (bL HB.out)) : w.heap.size≤gb696));replace HB:=bH HB hb;have NB695_696:=Aside0.mk ((by rw [hg];exact Nat.ne_of_lt (blk_lt (Bu BK695.out)) : gb695≠gb696));have NB696_695:=Aside0.mk ((by rw [hg];exact Nat.ne_of_gt (blk_lt (Bu BK695.out)) : gb696≠gb695));replace BK695:=bK BK695 hb;clear hb hbox hg)|((with_reducible refine gate_dst (N:=4) rfl ?_);refine boxA #[.bool false,.slice none 0 0,.slice none 0 0] 63 ?_;intro gb697 hg w24 hbox hb;have BK697:=Aside0.mk hbox;have GW697:=Aside0.mk ((by rw [hg];exact (below_size (bL HB.out)) : w.heap.size≤gb697));have GE697:=Aside0.mk ((by rw [hg];exact (below_size (bL HB.out)) : w.heap.size≤gb697));replace HB:=bH HB hb;have NB695_697:=Aside0.mk ((by rw [hg];exact Nat.ne_of_lt (blk_lt (Bu BK695.out)) : gb695≠gb697));have NB697_695:=Aside0.mk ((by rw [hg];exact Nat.ne_of_gt (blk_lt (Bu BK695.out)) : gb697≠gb695));replace BK695:=bK BK695 hb;have NB696_697:=Aside0.mk ((by rw [hg];exact Nat.ne_of_lt (blk_lt (Bu BK696.out)) : gb696≠gb697));have NB697_696:=Aside0.mk ((by rw [hg];exact Nat.ne_of_gt (blk_lt (Bu BK696.out)) : gb697≠gb696));replace BK696:=bK BK696 hb;clear hb hbox hg;have hnb25:=NB695_696.out;have hnc25:=NB696_695.out;have hnb26:=NB695_697.out;have hnc26:=NB697_695.out;obtain ⟨hcz27_0,hcz27_1,hcz27_2⟩:=cl3 BK695.out;obtain ⟨hfz27_0,hfz27_1,hfz27_2⟩:=fr3 BK695.out)|((with_reducible refine gate_callee (f:=50) rfl ?_);refine gL (some 13) Try.func50 #[.agg #[.bool a0_0,.slice A0_1 l0_1.length c0_1,.slice A0_2 l0_2.length c0_2]] ?_;(with_reducible refine (penumbraref03_Sign.calls k a0_0 _ _ l0_1 _ _ l0_2 t698 _ ?s1_ ?s2_ ?s3_ ?s4_ A3.out).mono ?_);(case s1_=>exact Cu (Kd.C_below HR0_1.out HB.out));(case s2_=>exact HC0_1.out);(case s3_=>exact Cu (Kd.C_below HR0_2.out HB.out));(case s4_=>exact HC0_2.out);rintro e w28 ⟨rfl,hb⟩;refine ⟨_,rfl,?_⟩;replace BK695:=bK BK695 hb;replace BK696:=bK BK696 hb;replace BK697:=bK BK697 hb;replace HB:=bH HB hb;have hnb29:=NB696_697.out;have hnc29:=NB697_696.out;obtain ⟨hcz30_0,hcz30_1,hcz30_2⟩:=cl3 BK696.out;obtain ⟨hfz30_0,hfz30_1,hfz30_2⟩:=fr3 BK696.out)|((with_reducible refine gate_callee (f:=50) rfl ?_);refine gL (some 18) Try.func50 #[.agg #[.bool a1_0,.slice A1_1 l1_1.length c1_1,.slice A1_2 l1_2.length c1_2]] ?_;(with_reducible refine (penumbraref03_Sign.calls k a1_0 _ _ l1_1 _ _ l1_2 t706 _ ?s1_ ?s2_ ?s3_ ?s4_ A19.out).mono ?_);(case s1_=>exact Cu (Kd.C_below HR1_1.out HB.out));(case s2_=>exact HC1_1.out);(case s3_=>exact Cu (Kd.C_below HR1_2.out HB.out));(case s4_=>exact HC1_2.out);rintro e w31 ⟨rfl,hb⟩;refine ⟨_,rfl,?_⟩;replace BK695:=bK BK695 hb;replace BK696:=bK BK696 hb;replace BK697:=bK BK697 hb;replace HB:=bH HB hb;obtain ⟨hcz32_0,hcz32_1,hcz32_2⟩:=cl3 BK695.out;obtain ⟨hfz32_0,hfz32_1,hfz32_2⟩:=fr3 BK695.out)|((with_reducible refine gate_callee (f:=51) rfl ?_);refine gL (some 21) Try.func51 #[.agg #[.bool a0_0,.slice A0_1 l0_1.length c0_1,.slice A0_2 l0_2.length c0_2]] ?_;(with_reducible refine (penumbraref03_Read.calls k a0_0 _ _ l0_1 _ _ l0_2 t707 t708 t711 _ ?s1_ ?s2_ ?s3_ ?s4_ A21.out).mono ?_);(case s1_=>exact Cu (Kd.C_below HR0_1.out HB.out));(case s2_=>exact HC0_1.out);(case s3_=>exact Cu (Kd.C_below HR0_2.out HB.out));(case s4_=>exact HC0_2.out);rintro e w33 ⟨v709,v712,rfl,ho0,ho1,hb⟩;refine ⟨_,rfl,?_⟩;have HO710:=Aside0.mk (Kd.R_lower ho0 (below_size (bL HB.out)));have HO713:=Aside0.mk (Kd.R_lower ho1 (below_size (bL HB.out)));replace BK695:=bK BK695 hb;replace BK696:=bK BK696 hb;replace BK697:=bK BK697 hb;replace HB:=bH HB hb;obtain ⟨hcz34_0,hcz34_1,hcz34_2⟩:=cl3 BK697.out;obtain ⟨hfz34_0,hfz34_1,hfz34_2⟩:=fr3 BK697.out;obtain ⟨Ao35,co35,eo35⟩:=Kd.R_slice HO710.out;subst eo35;obtain ⟨Ao36,co36,eo36⟩:=Kd.R_slice HO713.out;subst eo36))
   refine bodyPost_ret (results_cell_row rfl _ _ gb697 63 #[.bool t707,.slice Ao35 t708.length co35,.slice Ao36 t711.length co36] (0,0) _ rfl (pT BK697.out) Try.underlying63 rfl (by kernel_rfl)) rfl ?_;exact ⟨_,_,eW,by (with_reducible repeat (first|apply Ra|apply Rn|apply Rd));exact R3 HO710.out (Nat.le_refl _) BK697.out (by decide) _ _ _,by (with_reducible repeat (first|apply Ra|apply Rn|apply Rd));exact R3 HO713.out (Nat.le_refl _) BK697.out (by decide) _ _ _,bL HB.out⟩
  ·rw [if_neg c20] at H
   have c20b0 : (t706 == 0)=false:=beq_eq_false_iff_ne.mpr c20;have c20b1 : (t706 != 0)=true:=bne_iff_ne.mpr c20;refine biT H ?_;clear H;intro t714 A37 H;(try dsimp only at H);replace A37:=Aside0.mk A37;refine biT H ?_;clear H;intro t717 A38 H;(try dsimp only at H);replace A38:=Aside0.mk A38;refine biT H ?_;clear H;intro t720 A39 H;(try dsimp only at H);replace A39:=Aside0.mk A39
   by_cases c40 : (a0_0 == a1_0)=true
   ·rw [if_pos c40] at H
    have c40b0 : (a0_0 == a1_0)=true:=c40
    (try (have c40b1 : decide (a0_0=a1_0)=true:=by simpa using c40))
    (try (have c40b2 : (a0_0 == a1_0)=true:=by simpa using c40))
    clear c40;refine biT H ?_;clear H;intro t723 A41 H;(try dsimp only at H);replace A41:=Aside0.mk A41;refine biT H ?_;clear H;rintro ⟨t726,t727,t730⟩ A42 H;(try dsimp only at H);replace A42:=Aside0.mk A42;simp only [Option.some.injEq,Prod.mk.injEq] at H;obtain ⟨rfl,rfl,rfl⟩:=H
    go_enter Try.func39,Try.ntmps39
    try go_wp2_with (first|((with_reducible refine gate_dst (N:=2) rfl ?_);refine boxA #[.bool a0_0,.slice A0_1 l0_1.length c0_1,.slice A0_2 l0_2.length c0_2] 63 ?_;intro gb695 hg w43 hbox hb;have BK695:=Aside0.mk hbox;have GW695:=Aside0.mk ((by rw [hg];exact (below_size (bL HB.out)) : w.heap.size≤gb695));have GE695:=Aside0.mk ((by rw [hg];exact (below_size (bL HB.out)) : w.heap.size≤gb695));replace HB:=bH HB hb;clear hb hbox hg)|((with_reducible refine gate_dst (N:=3) rfl ?_);refine boxA #[.bool a1_0,.slice A1_1 l1_1.length c1_1,.slice A1_2 l1_2.length c1_2] 63 ?_;intro gb696 hg w44 hbox hb;have BK696:=Aside0.mk hbox;have GW696:=Aside0.mk ((by rw [hg];exact (below_size (bL HB.out)) : w.heap.size≤gb696));have GE696:=Aside0.mk ((by rw [hg];exact (below_size (bL HB.out)) : w.heap.size≤gb696));replace HB:=bH HB hb;have NB695_696:=Aside0.mk ((by rw [hg];exact Nat.ne_of_lt (blk_lt (Bu BK695.out)) : gb695≠gb696));have NB696_695:=Aside0.mk ((by rw [hg];exact Nat.ne_of_gt (blk_lt (Bu BK695.out)) : gb696≠gb695));replace BK695:=bK BK695 hb;clear hb hbox hg)|((with_reducible refine gate_dst (N:=4) rfl ?_);refine boxA #[.bool false,.slice none 0 0,.slice none 0 0] 63 ?_;intro gb697 hg w45 hbox hb;have BK697:=Aside0.mk hbox;have GW697:=Aside0.mk ((by rw [hg];exact (below_size (bL HB.out)) : w.heap.size≤gb697));have GE697:=Aside0.mk ((by rw [hg];exact (below_size (bL HB.out)) : w.heap.size≤gb697));replace HB:=bH HB hb;have NB695_697:=Aside0.mk ((by rw [hg];exact Nat.ne_of_lt (blk_lt (Bu BK695.out)) : gb695≠gb697));have NB697_695:=Aside0.mk ((by rw [hg];exact Nat.ne_of_gt (blk_lt (Bu BK695.out)) : gb697≠gb695));replace BK695:=bK BK695 hb;have NB696_697:=Aside0.mk ((by rw [hg];exact Nat.ne_of_lt (blk_lt (Bu BK696.out)) : gb696≠gb697));have NB697_696:=Aside0.mk ((by rw [hg];exact Nat.ne_of_gt (blk_lt (Bu BK696.out)) : gb697≠gb696));replace BK696:=bK BK696 hb;clear hb hbox hg;have hnb46:=NB695_696.out;have hnc46:=NB696_695.out;have hnb47:=NB695_697.out;have hnc47:=NB697_695.out;obtain ⟨hcz48_0,hcz48_1,hcz48_2⟩:=cl3 BK695.out;obtain ⟨hfz48_0,hfz48_1,hfz48_2⟩:=fr3 BK695.out)|((with_reducible refine gate_callee (f:=50) rfl ?_);refine gL (some 13) Try.func50 #[.agg #[.bool a0_0,.slice A0_1 l0_1.length c0_1,.slice A0_2 l0_2.length c0_2]] ?_;(with_reducible refine (penumbraref03_Sign.calls k a0_0 _ _ l0_1 _ _ l0_2 t698 _ ?s1_ ?s2_ ?s3_ ?s4_ A3.out).mono ?_);(case s1_=>exact Cu (Kd.C_below HR0_1.out HB.out));(case s2_=>exact HC0_1.out);(case s3_=>exact Cu (Kd.C_below HR0_2.out HB.out));(case s4_=>exact HC0_2.out);rintro e w49 ⟨rfl,hb⟩;refine ⟨_,rfl,?_⟩;replace BK695:=bK BK695 hb;replace BK696:=bK BK696 hb;replace BK697:=bK BK697 hb;replace HB:=bH HB hb;have hnb50:=NB696_697.out;have hnc50:=NB697_696.out;obtain ⟨hcz51_0,hcz51_1,hcz51_2⟩:=cl3 BK696.out;obtain ⟨hfz51_0,hfz51_1,hfz51_2⟩:=fr3 BK696.out)|((with_reducible refine gate_callee (f:=50) rfl ?_);refine gL (some 18) Try.func50 #[.agg #[.bool a1_0,.slice A1_1 l1_1.length c1_1,.slice A1_2 l1_2.length c1_2]] ?_;(with_reducible refine (penumbraref03_Sign.calls k a1_0 _ _ l1_1 _ _ l1_2 t706 _ ?s1_ ?s2_ ?s3_ ?s4_ A19.out).mono ?_);(case s1_=>exact Cu (Kd.C_below HR1_1.out HB.out));(case s2_=>exact HC1_1.out);(case s3_=>exact Cu (Kd.C_below HR1_2.out HB.out));(case s4_=>exact HC1_2.out);rintro e w52 ⟨rfl,hb⟩;refine ⟨_,rfl,?_⟩;replace BK695:=bK BK695 hb;replace BK696:=bK BK696 hb;replace BK697:=bK BK697 hb;replace HB:=bH HB hb;obtain ⟨hcz53_0,hcz53_1,hcz53_2⟩:=cl3 BK695.out;obtain ⟨hfz53_0,hfz53_1,hfz53_2⟩:=fr3 BK695.out;obtain ⟨hcz54_0,hcz54_1,hcz54_2⟩:=cl3 BK696.out;obtain ⟨hfz54_0,hfz54_1,hfz54_2⟩:=fr3 BK696.out)|((with_reducible refine gate_callee (f:=52) rfl ?_);refine gL (some 26) Try.func52 #[.slice A0_1 l0_1.length c0_1,.slice A1_2 l1_2.length c1_2] ?_;(with_reducible refine (penumbraref01_Mul.calls k _ _ l0_1 _ _ l1_2 t714 _ ?s1_ ?s2_ ?s3_ ?s4_ A37.out).mono ?_);(case s1_=>exact Cu (Kd.C_below HR0_1.out HB.out));(case s2_=>exact HC0_1.out);(case s3_=>exact Cu (Kd.C_below HR1_2.out HB.out));(case s4_=>exact HC1_2.out);rintro e w55 ⟨v715,rfl,ho0,hb⟩;refine ⟨_,rfl,?_⟩;have HO716:=Aside0.mk (Kd.R_lower ho0 (below_size (bL HB.out)));replace BK695:=bK BK695 hb;replace BK696:=bK BK696 hb;replace BK697:=bK BK697 hb;replace HB:=bH HB hb;obtain ⟨hcz56_0,hcz56_1,hcz56_2⟩:=cl3 BK696.out;obtain ⟨hfz56_0,hfz56_1,hfz56_2⟩:=fr3 BK696.out;obtain ⟨hcz57_0,hcz57_1,hcz57_2⟩:=cl3 BK695.out;obtain ⟨hfz57_0,hfz57_1,hfz57_2⟩:=fr3 BK695.out)|((with_reducible refine gate_callee (f:=52) rfl ?_);refine gL (some 31) Try.func52 #[.slice A1_1 l1_1.length c1_1,.slice A0_2 l0_2.length c0_2] ?_;(with_reducible refine (penumbraref01_Mul.calls k _ _ l1_1 _ _ l0_2 t717 _ ?s1_ ?s2_ ?s3_ ?s4_ A38.out).mono ?_);(case s1_=>exact Cu (Kd.C_below HR1_1.out HB.out));(case s2_=>exact HC1_1.out);(case s3_=>exact Cu (Kd.C_below HR0_2.out HB.out));(case s4_=>exact HC0_2.out);rintro e w58 ⟨v718,rfl,ho0,hb⟩;refine ⟨_,rfl,?_⟩;have HO719:=Aside0.mk (Kd.R_lower (Kd.R_new' ho0 (Kd.R_lt (Ru HO716.out))) (below_size (bL HB.out)));replace HO716:=Aside0.mk (Kd.R_elder' (Ru HO716.out) (Kd.R_base ho0) hb);replace BK695:=bK BK695 hb;replace BK696:=bK BK696 hb;replace BK697:=bK BK697 hb;replace HB:=bH HB hb;obtain ⟨hcz59_0,hcz59_1,hcz59_2⟩:=cl3 BK695.out;obtain ⟨hfz59_0,hfz59_1,hfz59_2⟩:=fr3 BK695.out;obtain ⟨hcz60_0,hcz60_1,hcz60_2⟩:=cl3 BK696.out;obtain ⟨hfz60_0,hfz60_1,hfz60_2⟩:=fr3 BK696.out)|((with_reducible refine gate_callee (f:=52) rfl ?_);refine gL (some 36) Try.func52 #[.slice A0_2 l0_2.length c0_2,.slice A1_2 l1_2.length c1_2] ?_;(with_reducible refine (penumbraref01_Mul.calls k _ _ l0_2 _ _ l1_2 t720 _ ?s1_ ?s2_ ?s3_ ?s4_ A39.out).mono ?_);(case s1_=>exact Cu (Kd.C_below HR0_2.out HB.out));(case s2_=>exact HC0_2.out);(case s3_=>exact Cu (Kd.C_below HR1_2.out HB.out));(case s4_=>exact HC1_2.out);rintro e w61 ⟨v721,rfl,ho0,hb⟩;refine ⟨_,rfl,?_⟩;have HO722:=Aside0.mk (Kd.R_lower (Kd.R_new' (Kd.R_new' ho0 (Kd.R_lt (Ru HO716.out))) (Kd.R_lt (Ru HO719.out))) (below_size (bL HB.out)));replace HO716:=Aside0.mk (Kd.R_elder' (Ru HO716.out) (Kd.R_base ho0) hb);replace HO719:=Aside0.mk (Kd.R_elder' (Ru HO719.out) (Kd.R_base ho0) hb);replace BK695:=bK BK695 hb;replace BK696:=bK BK696 hb;replace BK697:=bK BK697 hb;replace HB:=bH HB hb;obtain ⟨hcz62_0,hcz62_1,hcz62_2⟩:=cl3 BK695.out;obtain ⟨hfz62_0,hfz62_1,hfz62_2⟩:=fr3 BK695.out;obtain ⟨hcz63_0,hcz63_1,hcz63_2⟩:=cl3 BK696.out;obtain ⟨hfz63_0,hfz63_1,hfz63_2⟩:=fr3 BK696.out))
    replace HO716:=Aside0.mk (Rd HO716.out);replace HO719:=Aside0.mk (Rd HO719.out);replace HO722:=Aside0.mk (Rd HO722.out);replace BK695:=Aside0.mk (blk_drew BK695.out);replace BK696:=Aside0.mk (blk_drew BK696.out);replace BK697:=Aside0.mk (blk_drew BK697.out);replace HB:=Aside0.mk (b1 HB.out);obtain ⟨Ao65,co65,eo65⟩:=Kd.R_slice HO716.out
    (first|subst eo65|(injection eo65 with f1_ f2_ f3_;have f4_:=f1_.symm;have f5_:=f3_.symm;clear f1_ f2_ f3_;subst f4_;subst f5_))
    obtain ⟨Ao66,co66,eo66⟩:=Kd.R_slice HO719.out
    (first|subst eo66|(injection eo66 with f1_ f2_ f3_;have f4_:=f1_.symm;have f5_:=f3_.symm;clear f1_ f2_ f3_;subst f4_;subst f5_))
    refine sT (n:=9) (S:=fun w'=>w'.cell? ⟨gb695,0,none⟩=some (.bool a0_0)∧w'.cell? ⟨gb695,1,none⟩=some (.slice A0_1 l0_1.length c0_1)∧w'.cell? ⟨gb695,2,none⟩=some (.slice A0_2 l0_2.length c0_2)) (ds:=[]) (by kernel_rfl) rfl (cl3 BK695.out) (fun hHeld=>?_);refine with_tabW penumbraref03_Add.tab9 penumbraref03_Add.bits9 (fun HT_ HW_=>?_);generalize w61.drew=w64 at HO716 HO719 HO722 BK695 BK696 BK697 HB hHeld ⊢;refine zp 0 42 ?_;refine zp 2 44 ?_;refine zp 3 45 ?_;refine zp 5 47 ?_;refine zt 1 43 ?_
    refine oN 4 (some 46) rfl rfl fun K hK=>?_
    refine gS Try.func53 #[.slice Ao65 t714.length co65,.slice Ao66 t717.length co66] ?_
    with_reducible refine (penumbraref01_Add.calls k _ _ t714 _ _ t717 t723 _ ?s1_ ?s2_ ?s3_ ?s4_ A41.out).mono ?_
    (case s1_=>exact Cu (Kd.R_reads' HO716.out).2.2)
    (case s2_=>exact (Kd.R_reads' HO716.out).2.1)
    (case s3_=>exact Cu (Kd.R_reads' HO719.out).2.2)
    (case s4_=>exact (Kd.R_reads' HO719.out).2.1)
    rintro e w67 ⟨v724,rfl,ho0,hb⟩;refine ⟨_,rfl,?_⟩;have HO725:=Aside0.mk (Kd.R_lower (Kd.R_new' (Kd.R_new' (Kd.R_new' ho0 (Kd.R_lt (Ru HO716.out))) (Kd.R_lt (Ru HO719.out))) (Kd.R_lt (Ru HO722.out))) (below_size (bL HB.out)));replace HO716:=Aside0.mk (Kd.R_elder' (Ru HO716.out) (Kd.R_base ho0) hb);replace HO719:=Aside0.mk (Kd.R_elder' (Ru HO719.out) (Kd.R_base ho0) hb);replace HO722:=Aside0.mk (Kd.R_elder' (Ru HO722.out) (Kd.R_base ho0) hb);replace BK695:=bK BK695 hb;replace BK696:=bK BK696 hb;replace BK697:=bK BK697 hb;replace HB:=bH HB hb
    (try clear hb)
    (try clear hb2)
    (try clear hk)
    (try clear hi)
    (try clear ho0)
    obtain ⟨Ao68,co68,eo68⟩:=Kd.R_slice HO722.out
    (first|subst eo68|(injection eo68 with f1_ f2_ f3_;have f4_:=f1_.symm;have f5_:=f3_.symm;clear f1_ f2_ f3_;subst f4_;subst f5_))
    obtain ⟨Ao69,co69,eo69⟩:=Kd.R_slice HO725.out
    (first|subst eo69|(injection eo69 with f1_ f2_ f3_;have f4_:=f1_.symm;have f5_:=f3_.symm;clear f1_ f2_ f3_;subst f4_;subst f5_))
    refine hK.out _ _ (cl3 BK695.out) (fun hHeld=>?_);clear hK K;refine nZ ?_;refine zp 6 48 ?_
    refine oN 7 (some 49) rfl rfl fun K hK=>?_
    refine gS Try.func51 #[.agg #[.bool a0_0,.slice Ao69 t723.length co69,.slice Ao68 t720.length co68]] ?_
    with_reducible refine (penumbraref03_Read.calls k a0_0 _ _ t723 _ _ t720 t726 t727 t730 _ ?s1_ ?s2_ ?s3_ ?s4_ A42.out).mono ?_
    (case s1_=>exact Cu (Kd.R_reads' HO725.out).2.2)
    (case s2_=>exact (Kd.R_reads' HO725.out).2.1)
    (case s3_=>exact Cu (Kd.R_reads' HO722.out).2.2)
    (case s4_=>exact (Kd.R_reads' HO722.out).2.1)
    rintro e w70 ⟨v728,v731,rfl,ho0,ho1,hb⟩;refine ⟨_,rfl,?_⟩;have HO729:=Aside0.mk (Kd.R_lower (Kd.R_new' (Kd.R_new' (Kd.R_new' (Kd.R_new' ho0 (Kd.R_lt (Ru HO716.out))) (Kd.R_lt (Ru HO719.out))) (Kd.R_lt (Ru HO722.out))) (Kd.R_lt (Ru HO725.out))) (below_size (bL HB.out)));have HO732:=Aside0.mk (Kd.R_lower (Kd.R_new' (Kd.R_new' (Kd.R_new' (Kd.R_new' ho1 (Kd.R_lt (Ru HO716.out))) (Kd.R_lt (Ru HO719.out))) (Kd.R_lt (Ru HO722.out))) (Kd.R_lt (Ru HO725.out))) (below_size (bL HB.out)));replace HO716:=Aside0.mk (Kd.R_mono (Kd.R_told (Kd.R_told (Kd.R_old (Ru HO716.out) hb) (Kd.R_base ho0)) (Kd.R_base ho1)) (fun _ h_=>h_.1));replace HO719:=Aside0.mk (Kd.R_mono (Kd.R_told (Kd.R_told (Kd.R_old (Ru HO719.out) hb) (Kd.R_base ho0)) (Kd.R_base ho1)) (fun _ h_=>h_.1));replace HO722:=Aside0.mk (Kd.R_mono (Kd.R_told (Kd.R_told (Kd.R_old (Ru HO722.out) hb) (Kd.R_base ho0)) (Kd.R_base ho1)) (fun _ h_=>h_.1));replace HO725:=Aside0.mk (Kd.R_mono (Kd.R_told (Kd.R_told (Kd.R_old (Ru HO725.out) hb) (Kd.R_base ho0)) (Kd.R_base ho1)) (fun _ h_=>h_.1));replace BK695:=bK BK695 hb;replace BK696:=bK BK696 hb;replace BK697:=bK BK697 hb;replace HB:=bH HB hb
    (try clear hb)
    (try clear hb2)
    (try clear hk)
    (try clear hi)
    (try clear ho0)
    (try clear ho1)
    obtain ⟨Ao72,co72,eo72⟩:=Kd.R_slice HO729.out
    (first|subst eo72|(injection eo72 with f1_ f2_ f3_;have f4_:=f1_.symm;have f5_:=f3_.symm;clear f1_ f2_ f3_;subst f4_;subst f5_))
    obtain ⟨Ao74,co74,eo74⟩:=Kd.R_slice HO732.out
    (first|subst eo74|(injection eo74 with f1_ f2_ f3_;have f4_:=f1_.symm;have f5_:=f3_.symm;clear f1_ f2_ f3_;subst f4_;subst f5_))
    refine hK.out _ _ (cl3 BK695.out) (fun hHeld=>?_);clear hK K;refine nZ ?_
    refine oN 8 (none) rfl rfl fun K hK=>?_
    have hs71 : w70.cell? ⟨gb697,0,none⟩=some (.bool false):=(blk_cell BK697.out 0).trans rfl;have hfs71:=blk_frozen BK697.out 0;have hns71_0:=NB695_697.out;have hns71_1:=NB696_697.out;have hms71_0:=NB697_695.out;have hms71_1:=NB697_696.out;have hs73 : w70.cell? ⟨gb697,1,none⟩=some (.slice none 0 0):=(blk_cell BK697.out 1).trans rfl;have hfs73:=blk_frozen BK697.out 1;have hns73_0:=NB695_697.out;have hns73_1:=NB696_697.out;have hms73_0:=NB697_695.out;have hms73_1:=NB697_696.out;have hs75 : w70.cell? ⟨gb697,2,none⟩=some (.slice none 0 0):=(blk_cell BK697.out 2).trans rfl;have hfs75:=blk_frozen BK697.out 2;have hns75_0:=NB695_697.out;have hns75_1:=NB696_697.out;have hms75_0:=NB697_695.out;have hms75_1:=NB697_696.out;refine skip_ (w1:=?_) (by rfl) rfl ?_ ?_;rotate_left
    ·go_simp
     rfl
    refine hK.out _ _ ⟨((cell_far (p:=⟨gb697,_,none⟩) NB695_697.out _).trans (((cell_far (p:=⟨gb697,_,none⟩) NB695_697.out _).trans (((cell_far (p:=⟨gb697,_,none⟩) NB695_697.out _).trans (hHeld.1)))))),((cell_far (p:=⟨gb697,_,none⟩) NB695_697.out _).trans (((cell_far (p:=⟨gb697,_,none⟩) NB695_697.out _).trans (((cell_far (p:=⟨gb697,_,none⟩) NB695_697.out _).trans (hHeld.2.1)))))),((cell_far (p:=⟨gb697,_,none⟩) NB695_697.out _).trans (((cell_far (p:=⟨gb697,_,none⟩) NB695_697.out _).trans (((cell_far (p:=⟨gb697,_,none⟩) NB695_697.out _).trans (hHeld.2.2))))))⟩ (fun hHeld=>?_);clear hK K;refine dN ?_
    try go_wp2
    refine bodyPost_ret (results_cell_row rfl _ _ gb697 63 #[.bool t726,.slice Ao72 t727.length co72,.slice Ao74 t730.length co74] (0,0) _ rfl (pT BK697.out) Try.underlying63 rfl (by kernel_rfl)) rfl ?_;exact ⟨_,_,eW,by (with_reducible repeat (first|apply Ra|apply Rn|apply Rd));exact Kd.R_mono (Kd.R_far (p:=⟨gb697,2,none⟩) (Kd.R_far (p:=⟨gb697,1,none⟩) (Kd.R_far (p:=⟨gb697,0,none⟩) (Kd.R_types HO729.out BK697.out (by decide)) (fun _ hk=>hk.2) (.bool t726)) (fun _ hk=>hk.2) (.slice Ao72 t727.length co72)) (fun _ hk=>hk.2) (.slice Ao74 t730.length co74)) (fun _ hk=>hk.1.1.1.1.1),by (with_reducible repeat (first|apply Ra|apply Rn|apply Rd));exact Kd.R_mono (Kd.R_far (p:=⟨gb697,2,none⟩) (Kd.R_far (p:=⟨gb697,1,none⟩) (Kd.R_far (p:=⟨gb697,0,none⟩) (Kd.R_types HO732.out BK697.out (by decide)) (fun _ hk=>hk.2) (.bool t726)) (fun _ hk=>hk.2) (.slice Ao72 t727.length co72)) (fun _ hk=>hk.2) (.slice Ao74 t730.length co74)) (fun _ hk=>hk.1.1.1.1.1),bL HB.out⟩
   ·rw [if_neg c40] at H
    have c40b0 : (a0_0 == a1_0)=false:=by simpa using c40
    (try (have c40b1 : decide (a0_0=a1_0)=false:=by simpa using c40))
    (try (have c40b2 : (a0_0 == a1_0)=false:=by simpa using c40))
    (try (have c40b3 : ¬ (a0_0=a1_0):=by simpa using c40))
    clear c40;refine biT H ?_;clear H;intro t733 A76 H;(try dsimp only at H);replace A76:=Aside0.mk A76
    by_cases c77 : t733 ≥ 0
    ·rw [if_pos c77] at H
     have c77b0 : decide (0≤t733)=true:=decide_eq_true c77;clear c77;refine biT H ?_;clear H;rintro ⟨t734,t735⟩ A78 H;(try dsimp only at H);replace A78:=Aside0.mk A78;refine biT H ?_;clear H;rintro ⟨t738,t739,t742⟩ A79 H;(try dsimp only at H);replace A79:=Aside0.mk A79;simp only [Option.some.injEq,Prod.mk.injEq] at H;obtain ⟨rfl,rfl,rfl⟩:=H
     go_enter Try.func39,Try.ntmps39
     go_wp2_with (first|((with_reducible refine gate_dst (N:=2) rfl ?_);refine boxA #[.bool a0_0,.slice A0_1 l0_1.length c0_1,.slice A0_2 l0_2.length c0_2] 63 ?_;intro gb695 hg w80 hbox hb;have BK695:=Aside0.mk hbox;have GW695:=Aside0.mk ((by rw [hg];exact (below_size (bL HB.out)) : w.heap.size≤gb695));have GE695:=Aside0.mk ((by rw [hg];exact (below_size (bL HB.out)) : w.heap.size≤gb695));replace HB:=bH HB hb;clear hb hbox hg)|((with_reducible refine gate_dst (N:=3) rfl ?_);refine boxA #[.bool a1_0,.slice A1_1 l1_1.length c1_1,.slice A1_2 l1_2.length c1_2] 63 ?_;intro gb696 hg w81 hbox hb;have BK696:=Aside0.mk hbox;have GW696:=Aside0.mk ((by rw [hg];exact (below_size (bL HB.out)) : w.heap.size≤gb696));have GE696:=Aside0.mk ((by rw [hg];exact (below_size (bL HB.out)) : w.heap.size≤gb696));replace HB:=bH HB hb;have NB695_696:=Aside0.mk ((by rw [hg];exact Nat.ne_of_lt (blk_lt (Bu BK695.out)) : gb695≠gb696));have NB696_695:=Aside0.mk ((by rw [hg];exact Nat.ne_of_gt (blk_lt (Bu BK695.out)) : gb696≠gb695));replace BK695:=bK BK695 hb;clear hb hbox hg)|((with_reducible refine gate_dst (N:=4) rfl ?_);refine boxA #[.bool false,.slice none 0 0,.slice none 0 0] 63 ?_;intro gb697 hg w82 hbox hb;have BK697:=Aside0.mk hbox;have GW697:=Aside0.mk ((by rw [hg];exact (below_size (bL HB.out)) : w.heap.size≤gb697));have GE697:=Aside0.mk ((by rw [hg];exact (below_size (bL HB.out)) : w.heap.size≤gb697));replace HB:=bH HB hb;have NB695_697:=Aside0.mk ((by rw [hg];exact Nat.ne_of_lt (blk_lt (Bu BK695.out)) : gb695≠gb697));have NB697_695:=Aside0.mk ((by rw [hg];exact Nat.ne_of_gt (blk_lt (Bu BK695.out)) : gb697≠gb695));replace BK695:=bK BK695 hb;have NB696_697:=Aside0.mk ((by rw [hg];exact Nat.ne_of_lt (blk_lt (Bu BK696.out)) : gb696≠gb697));have NB697_696:=Aside0.mk ((by rw [hg];exact Nat.ne_of_gt (blk_lt (Bu BK696.out)) : gb697≠gb696));replace BK696:=bK BK696 hb;clear hb hbox hg;have hnb83:=NB695_696.out;have hnc83:=NB696_695.out;have hnb84:=NB695_697.out;have hnc84:=NB697_695.out;obtain ⟨hcz85_0,hcz85_1,hcz85_2⟩:=cl3 BK695.out;obtain ⟨hfz85_0,hfz85_1,hfz85_2⟩:=fr3 BK695.out)|((with_reducible refine gate_callee (f:=50) rfl ?_);refine gL (some 13) Try.func50 #[.agg #[.bool a0_0,.slice A0_1 l0_1.length c0_1,.slice A0_2 l0_2.length c0_2]] ?_;(with_reducible refine (penumbraref03_Sign.calls k a0_0 _ _ l0_1 _ _ l0_2 t698 _ ?s1_ ?s2_ ?s3_ ?s4_ A3.out).mono ?_);(case s1_=>exact Cu (Kd.C_below HR0_1.out HB.out));(case s2_=>exact HC0_1.out);(case s3_=>exact Cu (Kd.C_below HR0_2.out HB.out));(case s4_=>exact HC0_2.out);rintro e w86 ⟨rfl,hb⟩;refine ⟨_,rfl,?_⟩;replace BK695:=bK BK695 hb;replace BK696:=bK BK696 hb;replace BK697:=bK BK697 hb;replace HB:=bH HB hb;have hnb87:=NB696_697.out;have hnc87:=NB697_696.out;obtain ⟨hcz88_0,hcz88_1,hcz88_2⟩:=cl3 BK696.out;obtain ⟨hfz88_0,hfz88_1,hfz88_2⟩:=fr3 BK696.out)|((with_reducible refine gate_callee (f:=50) rfl ?_);refine gL (some 18) Try.func50 #[.agg #[.bool a1_0,.slice A1_1 l1_1.length c1_1,.slice A1_2 l1_2.length c1_2]] ?_;(with_reducible refine (penumbraref03_Sign.calls k a1_0 _ _ l1_1 _ _ l1_2 t706 _ ?s1_ ?s2_ ?s3_ ?s4_ A19.out).mono ?_);(case s1_=>exact Cu (Kd.C_below HR1_1.out HB.out));(case s2_=>exact HC1_1.out);(case s3_=>exact Cu (Kd.C_below HR1_2.out HB.out));(case s4_=>exact HC1_2.out);rintro e w89 ⟨rfl,hb⟩;refine ⟨_,rfl,?_⟩;replace BK695:=bK BK695 hb;replace BK696:=bK BK696 hb;replace BK697:=bK BK697 hb;replace HB:=bH HB hb;obtain ⟨hcz90_0,hcz90_1,hcz90_2⟩:=cl3 BK695.out;obtain ⟨hfz90_0,hfz90_1,hfz90_2⟩:=fr3 BK695.out;obtain ⟨hcz91_0,hcz91_1,hcz91_2⟩:=cl3 BK696.out;obtain ⟨hfz91_0,hfz91_1,hfz91_2⟩:=fr3 BK696.out)|((with_reducible refine gate_callee (f:=52) rfl ?_);refine gL (some 26) Try.func52 #[.slice A0_1 l0_1.length c0_1,.slice A1_2 l1_2.length c1_2] ?_;(with_reducible refine (penumbraref01_Mul.calls k _ _ l0_1 _ _ l1_2 t714 _ ?s1_ ?s2_ ?s3_ ?s4_ A37.out).mono ?_);(case s1_=>exact Cu (Kd.C_below HR0_1.out HB.out));(case s2_=>exact HC0_1.out);(case s3_=>exact Cu (Kd.C_below HR1_2.out HB.out));(case s4_=>exact HC1_2.out);rintro e w92 ⟨v715,rfl,ho0,hb⟩;refine ⟨_,rfl,?_⟩;have HO716:=Aside0.mk (Kd.R_lower ho0 (below_size (bL HB.out)));replace BK695:=bK BK695 hb;replace BK696:=bK BK696 hb;replace BK697:=bK BK697 hb;replace HB:=bH HB hb;obtain ⟨hcz93_0,hcz93_1,hcz93_2⟩:=cl3 BK696.out;obtain ⟨hfz93_0,hfz93_1,hfz93_2⟩:=fr3 BK696.out;obtain ⟨hcz94_0,hcz94_1,hcz94_2⟩:=cl3 BK695.out;obtain ⟨hfz94_0,hfz94_1,hfz94_2⟩:=fr3 BK695.out)|((with_reducible refine gate_callee (f:=52) rfl ?_);refine gL (some 31) Try.func52 #[.slice A1_1 l1_1.length c1_1,.slice A0_2 l0_2.length c0_2] ?_;(with_reducible refine (penumbraref01_Mul.calls k _ _ l1_1 _ _ l0_2 t717 _ ?s1_ ?s2_ ?s3_ ?s4_ A38.out).mono ?_);(case s1_=>exact Cu (Kd.C_below HR1_1.out HB.out));(case s2_=>exact HC1_1.out);(case s3_=>exact Cu (Kd.C_below HR0_2.out HB.out));(case s4_=>exact HC0_2.out);rintro e w95 ⟨v718,rfl,ho0,hb⟩;refine ⟨_,rfl,?_⟩;have HO719:=Aside0.mk (Kd.R_lower (Kd.R_new' ho0 (Kd.R_lt (Ru HO716.out))) (below_size (bL HB.out)));replace HO716:=Aside0.mk (Kd.R_elder' (Ru HO716.out) (Kd.R_base ho0) hb);replace BK695:=bK BK695 hb;replace BK696:=bK BK696 hb;replace BK697:=bK BK697 hb;replace HB:=bH HB hb;obtain ⟨hcz96_0,hcz96_1,hcz96_2⟩:=cl3 BK695.out;obtain ⟨hfz96_0,hfz96_1,hfz96_2⟩:=fr3 BK695.out;obtain ⟨hcz97_0,hcz97_1,hcz97_2⟩:=cl3 BK696.out;obtain ⟨hfz97_0,hfz97_1,hfz97_2⟩:=fr3 BK696.out)|((with_reducible refine gate_callee (f:=52) rfl ?_);refine gL (some 36) Try.func52 #[.slice A0_2 l0_2.length c0_2,.slice A1_2 l1_2.length c1_2] ?_;(with_reducible refine (penumbraref01_Mul.calls k _ _ l0_2 _ _ l1_2 t720 _ ?s1_ ?s2_ ?s3_ ?s4_ A39.out).mono ?_);(case s1_=>exact Cu (Kd.C_below HR0_2.out HB.out));(case s2_=>exact HC0_2.out);(case s3_=>exact Cu (Kd.C_below HR1_2.out HB.out));(case s4_=>exact HC1_2.out);rintro e w98 ⟨v721,rfl,ho0,hb⟩;refine ⟨_,rfl,?_⟩;have HO722:=Aside0.mk (Kd.R_lower (Kd.R_new' (Kd.R_new' ho0 (Kd.R_lt (Ru HO716.out))) (Kd.R_lt (Ru HO719.out))) (below_size (bL HB.out)));replace HO716:=Aside0.mk (Kd.R_elder' (Ru HO716.out) (Kd.R_base ho0) hb);replace HO719:=Aside0.mk (Kd.R_elder' (Ru HO719.out) (Kd.R_base ho0) hb);replace BK695:=bK BK695 hb;replace BK696:=bK BK696 hb;replace BK697:=bK BK697 hb;replace HB:=bH HB hb;obtain ⟨hcz99_0,hcz99_1,hcz99_2⟩:=cl3 BK695.out;obtain ⟨hfz99_0,hfz99_1,hfz99_2⟩:=fr3 BK695.out;obtain ⟨hcz100_0,hcz100_1,hcz100_2⟩:=cl3 BK696.out;obtain ⟨hfz100_0,hfz100_1,hfz100_2⟩:=fr3 BK696.out;obtain ⟨Ao101,co101,eo101⟩:=Kd.R_slice HO716.out;subst eo101;obtain ⟨Ao102,co102,eo102⟩:=Kd.R_slice HO719.out;subst eo102)|((with_reducible refine gate_callee (f:=54) rfl ?_);refine gL (some 52) Try.func54 #[.slice Ao101 t714.length co101,.slice Ao102 t717.length co102] ?_;(with_reducible refine (penumbraref01_Cmp.calls k _ _ t714 _ _ t717 t733 _ ?s1_ ?s2_ ?s3_ ?s4_ A76.out).mono ?_);(case s1_=>exact Cu (Kd.R_reads' HO716.out).2.2);(case s2_=>exact (Kd.R_reads' HO716.out).2.1);(case s3_=>exact Cu (Kd.R_reads' HO719.out).2.2);(case s4_=>exact (Kd.R_reads' HO719.out).2.1);rintro e w103 ⟨rfl,hb⟩;refine ⟨_,rfl,?_⟩;replace HO716:=Aside0.mk (Kd.R_below (Ru HO716.out) hb);replace HO719:=Aside0.mk (Kd.R_below (Ru HO719.out) hb);replace HO722:=Aside0.mk (Kd.R_below (Ru HO722.out) hb);replace BK695:=bK BK695 hb;replace BK696:=bK BK696 hb;replace BK697:=bK BK697 hb;replace HB:=bH HB hb)|((with_reducible refine gate_callee (f:=55) rfl ?_);refine gL (some 57) Try.func55 #[.slice Ao101 t714.length co101,.slice Ao102 t717.length co102] ?_;(with_reducible refine (penumbraref01_Sub.calls k _ _ t714 _ _ t717 t734 t735 _ ?s1_ ?s2_ ?s3_ ?s4_ A78.out).mono ?_);(case s1_=>exact Cu (Kd.R_reads' HO716.out).2.2);(case s2_=>exact (Kd.R_reads' HO716.out).2.1);(case s3_=>exact Cu (Kd.R_reads' HO719.out).2.2);(case s4_=>exact (Kd.R_reads' HO719.out).2.1);rintro e w104 ⟨v736,rfl,ho0,hb⟩;refine ⟨_,rfl,?_⟩;have HO737:=Aside0.mk (Kd.R_lower (Kd.R_new' (Kd.R_new' (Kd.R_new' ho0 (Kd.R_lt (Ru HO716.out))) (Kd.R_lt (Ru HO719.out))) (Kd.R_lt (Ru HO722.out))) (below_size (bL HB.out)));replace HO716:=Aside0.mk (Kd.R_elder' (Ru HO716.out) (Kd.R_base ho0) hb);replace HO719:=Aside0.mk (Kd.R_elder' (Ru HO719.out) (Kd.R_base ho0) hb);replace HO722:=Aside0.mk (Kd.R_elder' (Ru HO722.out) (Kd.R_base ho0) hb);replace BK695:=bK BK695 hb;replace BK696:=bK BK696 hb;replace BK697:=bK BK697 hb;replace HB:=bH HB hb;obtain ⟨hcz105_0,hcz105_1,hcz105_2⟩:=cl3 BK695.out;obtain ⟨hfz105_0,hfz105_1,hfz105_2⟩:=fr3 BK695.out;obtain ⟨Ao106,co106,eo106⟩:=Kd.R_slice HO722.out;subst eo106;obtain ⟨Ao107,co107,eo107⟩:=Kd.R_slice HO737.out;subst eo107)|((with_reducible refine gate_callee (f:=51) rfl ?_);refine gL (some 65) Try.func51 #[.agg #[.bool a0_0,.slice Ao107 t734.length co107,.slice Ao106 t720.length co106]] ?_;(with_reducible refine (penumbraref03_Read.calls k a0_0 _ _ t734 _ _ t720 t738 t739 t742 _ ?s1_ ?s2_ ?s3_ ?s4_ A79.out).mono ?_);(case s1_=>exact Cu (Kd.R_reads' HO737.out).2.2);(case s2_=>exact (Kd.R_reads' HO737.out).2.1);(case s3_=>exact Cu (Kd.R_reads' HO722.out).2.2);(case s4_=>exact (Kd.R_reads' HO722.out).2.1);rintro e w108 ⟨v740,v743,rfl,ho0,ho1,hb⟩;refine ⟨_,rfl,?_⟩;have HO741:=Aside0.mk (Kd.R_lower (Kd.R_new' (Kd.R_new' (Kd.R_new' (Kd.R_new' ho0 (Kd.R_lt (Ru HO716.out))) (Kd.R_lt (Ru HO719.out))) (Kd.R_lt (Ru HO722.out))) (Kd.R_lt (Ru HO737.out))) (below_size (bL HB.out)));have HO744:=Aside0.mk (Kd.R_lower (Kd.R_new' (Kd.R_new' (Kd.R_new' (Kd.R_new' ho1 (Kd.R_lt (Ru HO716.out))) (Kd.R_lt (Ru HO719.out))) (Kd.R_lt (Ru HO722.out))) (Kd.R_lt (Ru HO737.out))) (below_size (bL HB.out)));replace HO716:=Aside0.mk (Kd.R_mono (Kd.R_told (Kd.R_told (Kd.R_old (Ru HO716.out) hb) (Kd.R_base ho0)) (Kd.R_base ho1)) (fun _ h_=>h_.1));replace HO719:=Aside0.mk (Kd.R_mono (Kd.R_told (Kd.R_told (Kd.R_old (Ru HO719.out) hb) (Kd.R_base ho0)) (Kd.R_base ho1)) (fun _ h_=>h_.1));replace HO722:=Aside0.mk (Kd.R_mono (Kd.R_told (Kd.R_told (Kd.R_old (Ru HO722.out) hb) (Kd.R_base ho0)) (Kd.R_base ho1)) (fun _ h_=>h_.1));replace HO737:=Aside0.mk (Kd.R_mono (Kd.R_told (Kd.R_told (Kd.R_old (Ru HO737.out) hb) (Kd.R_base ho0)) (Kd.R_base ho1)) (fun _ h_=>h_.1));replace BK695:=bK BK695 hb;replace BK696:=bK BK696 hb;replace BK697:=bK BK697 hb;replace HB:=bH HB hb;obtain ⟨hcz109_0,hcz109_1,hcz109_2⟩:=cl3 BK697.out;obtain ⟨hfz109_0,hfz109_1,hfz109_2⟩:=fr3 BK697.out;obtain ⟨Ao110,co110,eo110⟩:=Kd.R_slice HO741.out;subst eo110;obtain ⟨Ao111,co111,eo111⟩:=Kd.R_slice HO744.out;subst eo111))
     refine bodyPost_ret (results_cell_row rfl _ _ gb697 63 #[.bool t738,.slice Ao110 t739.length co110,.slice Ao111 t742.length co111] (0,0) _ rfl (pT BK697.out) Try.underlying63 rfl (by kernel_rfl)) rfl ?_;exact ⟨_,_,eW,by (with_reducible repeat (first|apply Ra|apply Rn|apply Rd));exact Kd.R_mono (Kd.R_far (p:=⟨gb697,2,none⟩) (Kd.R_far (p:=⟨gb697,1,none⟩) (Kd.R_far (p:=⟨gb697,0,none⟩) (Kd.R_types HO741.out BK697.out (by decide)) (fun _ hk=>hk.2) (.bool t738)) (fun _ hk=>hk.2) (.slice Ao110 t739.length co110)) (fun _ hk=>hk.2) (.slice Ao111 t742.length co111)) (fun _ hk=>hk.1.1.1.1.1),by (with_reducible repeat (first|apply Ra|apply Rn|apply Rd));exact Kd.R_mono (Kd.R_far (p:=⟨gb697,2,none⟩) (Kd.R_far (p:=⟨gb697,1,none⟩) (Kd.R_far (p:=⟨gb697,0,none⟩) (Kd.R_types HO744.out BK697.out (by decide)) (fun _ hk=>hk.2) (.bool t738)) (fun _ hk=>hk.2) (.slice Ao110 t739.length co110)) (fun _ hk=>hk.2) (.slice Ao111 t742.length co111)) (fun _ hk=>hk.1.1.1.1.1),bL HB.out⟩
    ·rw [if_neg c77] at H
     have c77b0 : decide (0≤t733)=false:=decide_eq_false c77;clear c77;refine biT H ?_;clear H;rintro ⟨t745,t746⟩ A112 H;(try dsimp only at H);replace A112:=Aside0.mk A112;refine biT H ?_;clear H;rintro ⟨t749,t750,t753⟩ A113 H;(try dsimp only at H);replace A113:=Aside0.mk A113;simp only [Option.some.injEq,Prod.mk.injEq] at H;obtain ⟨rfl,rfl,rfl⟩:=H
     go_enter Try.func39,Try.ntmps39
     go_wp2_with (first|((with_reducible refine gate_dst (N:=2) rfl ?_);refine boxA #[.bool a0_0,.slice A0_1 l0_1.length c0_1,.slice A0_2 l0_2.length c0_2] 63 ?_;intro gb695 hg w114 hbox hb;have BK695:=Aside0.mk hbox;have GW695:=Aside0.mk ((by rw [hg];exact (below_size (bL HB.out)) : w.heap.size≤gb695));have GE695:=Aside0.mk ((by rw [hg];exact (below_size (bL HB.out)) : w.heap.size≤gb695));replace HB:=bH HB hb;clear hb hbox hg)|((with_reducible refine gate_dst (N:=3) rfl ?_);refine boxA #[.bool a1_0,.slice A1_1 l1_1.length c1_1,.slice A1_2 l1_2.length c1_2] 63 ?_;intro gb696 hg w115 hbox hb;have BK696:=Aside0.mk hbox;have GW696:=Aside0.mk ((by rw [hg];exact (below_size (bL HB.out)) : w.heap.size≤gb696));have GE696:=Aside0.mk ((by rw [hg];exact (below_size (bL HB.out)) : w.heap.size≤gb696));replace HB:=bH HB hb;have NB695_696:=Aside0.mk ((by rw [hg];exact Nat.ne_of_lt (blk_lt (Bu BK695.out)) : gb695≠gb696));have NB696_695:=Aside0.mk ((by rw [hg];exact Nat.ne_of_gt (blk_lt (Bu BK695.out)) : gb696≠gb695));replace BK695:=bK BK695 hb;clear hb hbox hg)|((with_reducible refine gate_dst (N:=4) rfl ?_);refine boxA #[.bool false,.slice none 0 0,.slice none 0 0] 63 ?_;intro gb697 hg w116 hbox hb;have BK697:=Aside0.mk hbox;have GW697:=Aside0.mk ((by rw [hg];exact (below_size (bL HB.out)) : w.heap.size≤gb697));have GE697:=Aside0.mk ((by rw [hg];exact (below_size (bL HB.out)) : w.heap.size≤gb697));replace HB:=bH HB hb;have NB695_697:=Aside0.mk ((by rw [hg];exact Nat.ne_of_lt (blk_lt (Bu BK695.out)) : gb695≠gb697));have NB697_695:=Aside0.mk ((by rw [hg];exact Nat.ne_of_gt (blk_lt (Bu BK695.out)) : gb697≠gb695));replace BK695:=bK BK695 hb;have NB696_697:=Aside0.mk ((by rw [hg];exact Nat.ne_of_lt (blk_lt (Bu BK696.out)) : gb696≠gb697));have NB697_696:=Aside0.mk ((by rw [hg];exact Nat.ne_of_gt (blk_lt (Bu BK696.out)) : gb697≠gb696));replace BK696:=bK BK696 hb;clear hb hbox hg;have hnb117:=NB695_696.out;have hnc117:=NB696_695.out;have hnb118:=NB695_697.out;have hnc118:=NB697_695.out;obtain ⟨hcz119_0,hcz119_1,hcz119_2⟩:=cl3 BK695.out;obtain ⟨hfz119_0,hfz119_1,hfz119_2⟩:=fr3 BK695.out)|((with_reducible refine gate_callee (f:=50) rfl ?_);refine gL (some 13) Try.func50 #[.agg #[.bool a0_0,.slice A0_1 l0_1.length c0_1,.slice A0_2 l0_2.length c0_2]] ?_;(with_reducible refine (penumbraref03_Sign.calls k a0_0 _ _ l0_1 _ _ l0_2 t698 _ ?s1_ ?s2_ ?s3_ ?s4_ A3.out).mono ?_);(case s1_=>exact Cu (Kd.C_below HR0_1.out HB.out));(case s2_=>exact HC0_1.out);(case s3_=>exact Cu (Kd.C_below HR0_2.out HB.out));(case s4_=>exact HC0_2.out);rintro e w120 ⟨rfl,hb⟩;refine ⟨_,rfl,?_⟩;replace BK695:=bK BK695 hb;replace BK696:=bK BK696 hb;replace BK697:=bK BK697 hb;replace HB:=bH HB hb;have hnb121:=NB696_697.out;have hnc121:=NB697_696.out;obtain ⟨hcz122_0,hcz122_1,hcz122_2⟩:=cl3 BK696.out;obtain ⟨hfz122_0,hfz122_1,hfz122_2⟩:=fr3 BK696.out)|((with_reducible refine gate_callee (f:=50) rfl ?_);refine gL (some 18) Try.func50 #[.agg #[.bool a1_0,.slice A1_1 l1_1.length c1_1,.slice A1_2 l1_2.length c1_2]] ?_;(with_reducible refine (penumbraref03_Sign.calls k a1_0 _ _ l1_1 _ _ l1_2 t706 _ ?s1_ ?s2_ ?s3_ ?s4_ A19.out).mono ?_);(case s1_=>exact Cu (Kd.C_below HR1_1.out HB.out));(case s2_=>exact HC1_1.out);(case s3_=>exact Cu (Kd.C_below HR1_2.out HB.out));(case s4_=>exact HC1_2.out);rintro e w123 ⟨rfl,hb⟩;refine ⟨_,rfl,?_⟩;replace BK695:=bK BK695 hb;replace BK696:=bK BK696 hb;replace BK697:=bK BK697 hb;replace HB:=bH HB hb;obtain ⟨hcz124_0,hcz124_1,hcz124_2⟩:=cl3 BK695.out;obtain ⟨hfz124_0,hfz124_1,hfz124_2⟩:=fr3 BK695.out;obtain ⟨hcz125_0,hcz125_1,hcz125_2⟩:=cl3 BK696.out;obtain ⟨hfz125_0,hfz125_1,hfz125_2⟩:=fr3 BK696.out)|((with_reducible refine gate_callee (f:=52) rfl ?_);refine gL (some 26) Try.func52 #[.slice A0_1 l0_1.length c0_1,.slice A1_2 l1_2.length c1_2] ?_;(with_reducible refine (penumbraref01_Mul.calls k _ _ l0_1 _ _ l1_2 t714 _ ?s1_ ?s2_ ?s3_ ?s4_ A37.out).mono ?_);(case s1_=>exact Cu (Kd.C_below HR0_1.out HB.out));(case s2_=>exact HC0_1.out);(case s3_=>exact Cu (Kd.C_below HR1_2.out HB.out));(case s4_=>exact HC1_2.out);rintro e w126 ⟨v715,rfl,ho0,hb⟩;refine ⟨_,rfl,?_⟩;have HO716:=Aside0.mk (Kd.R_lower ho0 (below_size (bL HB.out)));replace BK695:=bK BK695 hb;replace BK696:=bK BK696 hb;replace BK697:=bK BK697 hb;replace HB:=bH HB hb;obtain ⟨hcz127_0,hcz127_1,hcz127_2⟩:=cl3 BK696.out;obtain ⟨hfz127_0,hfz127_1,hfz127_2⟩:=fr3 BK696.out;obtain ⟨hcz128_0,hcz128_1,hcz128_2⟩:=cl3 BK695.out;obtain ⟨hfz128_0,hfz128_1,hfz128_2⟩:=fr3 BK695.out)|((with_reducible refine gate_callee (f:=52) rfl ?_);refine gL (some 31) Try.func52 #[.slice A1_1 l1_1.length c1_1,.slice A0_2 l0_2.length c0_2] ?_;(with_reducible refine (penumbraref01_Mul.calls k _ _ l1_1 _ _ l0_2 t717 _ ?s1_ ?s2_ ?s3_ ?s4_ A38.out).mono ?_);(case s1_=>exact Cu (Kd.C_below HR1_1.out HB.out));(case s2_=>exact HC1_1.out);(case s3_=>exact Cu (Kd.C_below HR0_2.out HB.out));(case s4_=>exact HC0_2.out);rintro e w129 ⟨v718,rfl,ho0,hb⟩;refine ⟨_,rfl,?_⟩;have HO719:=Aside0.mk (Kd.R_lower (Kd.R_new' ho0 (Kd.R_lt (Ru HO716.out))) (below_size (bL HB.out)));replace HO716:=Aside0.mk (Kd.R_elder' (Ru HO716.out) (Kd.R_base ho0) hb);replace BK695:=bK BK695 hb;replace BK696:=bK BK696 hb;replace BK697:=bK BK697 hb;replace HB:=bH HB hb;obtain ⟨hcz130_0,hcz130_1,hcz130_2⟩:=cl3 BK695.out;obtain ⟨hfz130_0,hfz130_1,hfz130_2⟩:=fr3 BK695.out;obtain ⟨hcz131_0,hcz131_1,hcz131_2⟩:=cl3 BK696.out;obtain ⟨hfz131_0,hfz131_1,hfz131_2⟩:=fr3 BK696.out)|((with_reducible refine gate_callee (f:=52) rfl ?_);refine gL (some 36) Try.func52 #[.slice A0_2 l0_2.length c0_2,.slice A1_2 l1_2.length c1_2] ?_;(with_reducible refine (penumbraref01_Mul.calls k _ _ l0_2 _ _ l1_2 t720 _ ?s1_ ?s2_ ?s3_ ?s4_ A39.out).mono ?_);(case s1_=>exact Cu (Kd.C_below HR0_2.out HB.out));(case s2_=>exact HC0_2.out);(case s3_=>exact Cu (Kd.C_below HR1_2.out HB.out));(case s4_=>exact HC1_2.out);rintro e w132 ⟨v721,rfl,ho0,hb⟩;refine ⟨_,rfl,?_⟩;have HO722:=Aside0.mk (Kd.R_lower (Kd.R_new' (Kd.R_new' ho0 (Kd.R_lt (Ru HO716.out))) (Kd.R_lt (Ru HO719.out))) (below_size (bL HB.out)));replace HO716:=Aside0.mk (Kd.R_elder' (Ru HO716.out) (Kd.R_base ho0) hb);replace HO719:=Aside0.mk (Kd.R_elder' (Ru HO719.out) (Kd.R_base ho0) hb);replace BK695:=bK BK695 hb;replace BK696:=bK BK696 hb;replace BK697:=bK BK697 hb;replace HB:=bH HB hb;obtain ⟨hcz133_0,hcz133_1,hcz133_2⟩:=cl3 BK695.out;obtain ⟨hfz133_0,hfz133_1,hfz133_2⟩:=fr3 BK695.out;obtain ⟨hcz134_0,hcz134_1,hcz134_2⟩:=cl3 BK696.out;obtain ⟨hfz134_0,hfz134_1,hfz134_2⟩:=fr3 BK696.out;obtain ⟨Ao135,co135,eo135⟩:=Kd.R_slice HO716.out;subst eo135;obtain ⟨Ao136,co136,eo136⟩:=Kd.R_slice HO719.out;subst eo136)|((with_reducible refine gate_callee (f:=54) rfl ?_);refine gL (some 52) Try.func54 #[.slice Ao135 t714.length co135,.slice Ao136 t717.length co136] ?_;(with_reducible refine (penumbraref01_Cmp.calls k _ _ t714 _ _ t717 t733 _ ?s1_ ?s2_ ?s3_ ?s4_ A76.out).mono ?_);(case s1_=>exact Cu (Kd.R_reads' HO716.out).2.2);(case s2_=>exact (Kd.R_reads' HO716.out).2.1);(case s3_=>exact Cu (Kd.R_reads' HO719.out).2.2);(case s4_=>exact (Kd.R_reads' HO719.out).2.1);rintro e w137 ⟨rfl,hb⟩;refine ⟨_,rfl,?_⟩;replace HO716:=Aside0.mk (Kd.R_below (Ru HO716.out) hb);replace HO719:=Aside0.mk (Kd.R_below (Ru HO719.out) hb);replace HO722:=Aside0.mk (Kd.R_below (Ru HO722.out) hb);replace BK695:=bK BK695 hb;replace BK696:=bK BK696 hb;replace BK697:=bK BK697 hb;replace HB:=bH HB hb)|((with_reducible refine gate_callee (f:=55) rfl ?_);refine gL (some 69) Try.func55 #[.slice Ao136 t717.length co136,.slice Ao135 t714.length co135] ?_;(with_reducible refine (penumbraref01_Sub.calls k _ _ t717 _ _ t714 t745 t746 _ ?s1_ ?s2_ ?s3_ ?s4_ A112.out).mono ?_);(case s1_=>exact Cu (Kd.R_reads' HO719.out).2.2);(case s2_=>exact (Kd.R_reads' HO719.out).2.1);(case s3_=>exact Cu (Kd.R_reads' HO716.out).2.2);(case s4_=>exact (Kd.R_reads' HO716.out).2.1);rintro e w138 ⟨v747,rfl,ho0,hb⟩;refine ⟨_,rfl,?_⟩;have HO748:=Aside0.mk (Kd.R_lower (Kd.R_new' (Kd.R_new' (Kd.R_new' ho0 (Kd.R_lt (Ru HO716.out))) (Kd.R_lt (Ru HO719.out))) (Kd.R_lt (Ru HO722.out))) (below_size (bL HB.out)));replace HO716:=Aside0.mk (Kd.R_elder' (Ru HO716.out) (Kd.R_base ho0) hb);replace HO719:=Aside0.mk (Kd.R_elder' (Ru HO719.out) (Kd.R_base ho0) hb);replace HO722:=Aside0.mk (Kd.R_elder' (Ru HO722.out) (Kd.R_base ho0) hb);replace BK695:=bK BK695 hb;replace BK696:=bK BK696 hb;replace BK697:=bK BK697 hb;replace HB:=bH HB hb;obtain ⟨hcz139_0,hcz139_1,hcz139_2⟩:=cl3 BK696.out;obtain ⟨hfz139_0,hfz139_1,hfz139_2⟩:=fr3 BK696.out;obtain ⟨Ao140,co140,eo140⟩:=Kd.R_slice HO722.out;subst eo140;obtain ⟨Ao141,co141,eo141⟩:=Kd.R_slice HO748.out;subst eo141)|((with_reducible refine gate_callee (f:=51) rfl ?_);refine gL (some 77) Try.func51 #[.agg #[.bool a1_0,.slice Ao141 t745.length co141,.slice Ao140 t720.length co140]] ?_;(with_reducible refine (penumbraref03_Read.calls k a1_0 _ _ t745 _ _ t720 t749 t750 t753 _ ?s1_ ?s2_ ?s3_ ?s4_ A113.out).mono ?_);(case s1_=>exact Cu (Kd.R_reads' HO748.out).2.2);(case s2_=>exact (Kd.R_reads' HO748.out).2.1);(case s3_=>exact Cu (Kd.R_reads' HO722.out).2.2);(case s4_=>exact (Kd.R_reads' HO722.out).2.1);rintro e w142 ⟨v751,v754,rfl,ho0,ho1,hb⟩;refine ⟨_,rfl,?_⟩;have HO752:=Aside0.mk (Kd.R_lower (Kd.R_new' (Kd.R_new' (Kd.R_new' (Kd.R_new' ho0 (Kd.R_lt (Ru HO716.out))) (Kd.R_lt (Ru HO719.out))) (Kd.R_lt (Ru HO722.out))) (Kd.R_lt (Ru HO748.out))) (below_size (bL HB.out)));have HO755:=Aside0.mk (Kd.R_lower (Kd.R_new' (Kd.R_new' (Kd.R_new' (Kd.R_new' ho1 (Kd.R_lt (Ru HO716.out))) (Kd.R_lt (Ru HO719.out))) (Kd.R_lt (Ru HO722.out))) (Kd.R_lt (Ru HO748.out))) (below_size (bL HB.out)));replace HO716:=Aside0.mk (Kd.R_mono (Kd.R_told (Kd.R_told (Kd.R_old (Ru HO716.out) hb) (Kd.R_base ho0)) (Kd.R_base ho1)) (fun _ h_=>h_.1));replace HO719:=Aside0.mk (Kd.R_mono (Kd.R_told (Kd.R_told (Kd.R_old (Ru HO719.out) hb) (Kd.R_base ho0)) (Kd.R_base ho1)) (fun _ h_=>h_.1));replace HO722:=Aside0.mk (Kd.R_mono (Kd.R_told (Kd.R_told (Kd.R_old (Ru HO722.out) hb) (Kd.R_base ho0)) (Kd.R_base ho1)) (fun _ h_=>h_.1));replace HO748:=Aside0.mk (Kd.R_mono (Kd.R_told (Kd.R_told (Kd.R_old (Ru HO748.out) hb) (Kd.R_base ho0)) (Kd.R_base ho1)) (fun _ h_=>h_.1));replace BK695:=bK BK695 hb;replace BK696:=bK BK696 hb;replace BK697:=bK BK697 hb;replace HB:=bH HB hb;obtain ⟨hcz143_0,hcz143_1,hcz143_2⟩:=cl3 BK697.out;obtain ⟨hfz143_0,hfz143_1,hfz143_2⟩:=fr3 BK697.out;obtain ⟨Ao144,co144,eo144⟩:=Kd.R_slice HO752.out;subst eo144;obtain ⟨Ao145,co145,eo145⟩:=Kd.R_slice HO755.out;subst eo145))
     refine bodyPost_ret (results_cell_row rfl _ _ gb697 63 #[.bool t749,.slice Ao144 t750.length co144,.slice Ao145 t753.length co145] (0,0) _ rfl (pT BK697.out) Try.underlying63 rfl (by kernel_rfl)) rfl ?_;exact ⟨_,_,eW,by (with_reducible repeat (first|apply Ra|apply Rn|apply Rd));exact Kd.R_mono (Kd.R_far (p:=⟨gb697,2,none⟩) (Kd.R_far (p:=⟨gb697,1,none⟩) (Kd.R_far (p:=⟨gb697,0,none⟩) (Kd.R_types HO752.out BK697.out (by decide)) (fun _ hk=>hk.2) (.bool t749)) (fun _ hk=>hk.2) (.slice Ao144 t750.length co144)) (fun _ hk=>hk.2) (.slice Ao145 t753.length co145)) (fun _ hk=>hk.1.1.1.1.1),by (with_reducible repeat (first|apply Ra|apply Rn|apply Rd));exact Kd.R_mono (Kd.R_far (p:=⟨gb697,2,none⟩) (Kd.R_far (p:=⟨gb697,1,none⟩) (Kd.R_far (p:=⟨gb697,0,none⟩) (Kd.R_types HO755.out BK697.out (by decide)) (fun _ hk=>hk.2) (.bool t749)) (fun _ hk=>hk.2) (.slice Ao144 t750.length co144)) (fun _ hk=>hk.2) (.slice Ao145 t753.length co145)) (fun _ hk=>hk.1.1.1.1.1),bL HB.out⟩
theorem penumbraref03_Check.calls (k : Nat) (a0_0 : Bool) (A0_1 : Option Addr) (c0_1 : Nat) (l0_1 : List Int) (A0_2 : Option Addr) (c0_2 : Nat) (l0_2 : List Int) (r : Bool) (w : World) (hr0_1 : Kd.C (Kd.int .u32) w A0_1 l0_1.length l0_1) (hc0_1 : l0_1.length≤c0_1) (hr0_2 : Kd.C (Kd.int .u32) w A0_2 l0_2.length l0_2) (hc0_2 : l0_2.length≤c0_2) (h : penumbraref03_Check.f k a0_0 l0_1 l0_2=some r) :
  Calls Try.prog 49 #[.agg #[.bool a0_0,.slice A0_1 l0_1.length c0_1,.slice A0_2 l0_2.length c0_2]] w fun e w'=>e=.returned (.bool r)∧Below w.heap.size w w':=by
 have hu63:=Try.underlying63;have HR0_1:=Aside0.mk hr0_1;have HC0_1:=Aside0.mk hc0_1;clear hr0_1 hc0_1;have HR0_2:=Aside0.mk hr0_2;have HC0_2:=Aside0.mk hc0_2;clear hr0_2 hc0_2;have HB:=Aside0.mk (Below.refl w.heap.size w);have H : ((penumbraref03_Read.f k a0_0 l0_1 l0_2).bind fun bt678=>((penumbraref03_Is.f k bt678.1 bt678.2.1 bt678.2.2 a0_0 l0_1 l0_2).bind fun t685=>(some t685)))=some r:=h;clear h;refine biT H ?_;clear H;rintro ⟨t678,t679,t682⟩ A2 H;(try dsimp only at H);replace A2:=Aside0.mk A2;refine biT H ?_;clear H;intro t685 A3 H;(try dsimp only at H);replace A3:=Aside0.mk A3;obtain rfl:=Option.some.inj H
 go_enter Try.func49,Try.ntmps49
 try go_wp2_with (first|((with_reducible refine gate_dst (N:=1) rfl ?_);refine boxA #[.bool a0_0,.slice A0_1 l0_1.length c0_1,.slice A0_2 l0_2.length c0_2] 63 ?_;intro gb677 hg w4 hbox hb;have BK677:=Aside0.mk hbox;have GW677:=Aside0.mk ((by rw [hg];exact (below_size (bL HB.out)) : w.heap.size≤gb677));have GE677:=Aside0.mk ((by rw [hg];exact (below_size (bL HB.out)) : w.heap.size≤gb677));replace HB:=bH HB hb;clear hb hbox hg))
 replace BK677:=Aside0.mk (blk_drew BK677.out);replace HB:=Aside0.mk (b1 HB.out);refine sT (n:=5) (S:=fun w'=>w'.cell? ⟨gb677,0,none⟩=some (.bool a0_0)∧w'.cell? ⟨gb677,1,none⟩=some (.slice A0_1 l0_1.length c0_1)∧w'.cell? ⟨gb677,2,none⟩=some (.slice A0_2 l0_2.length c0_2)) (ds:=[]) (by kernel_rfl) rfl (cl3 BK677.out) (fun hHeld=>?_);generalize w4.drew=w5 at BK677 HB hHeld ⊢;refine zt 0 3 ?_;refine zt 2 5 ?_
 refine oN 1 (some 4) rfl rfl fun K hK=>?_
 refine gS Try.func51 #[.agg #[.bool a0_0,.slice A0_1 l0_1.length c0_1,.slice A0_2 l0_2.length c0_2]] ?_
 with_reducible refine (penumbraref03_Read.calls k a0_0 _ _ l0_1 _ _ l0_2 t678 t679 t682 _ ?s1_ ?s2_ ?s3_ ?s4_ A2.out).mono ?_
 (case s1_=>exact Cu (Kd.C_below HR0_1.out HB.out))
 (case s2_=>exact HC0_1.out)
 (case s3_=>exact Cu (Kd.C_below HR0_2.out HB.out))
 (case s4_=>exact HC0_2.out)
 rintro e w6 ⟨v680,v683,rfl,ho0,ho1,hb⟩;refine ⟨_,rfl,?_⟩;have HO681:=Aside0.mk (Kd.R_lower ho0 (below_size (bL HB.out)));have HO684:=Aside0.mk (Kd.R_lower ho1 (below_size (bL HB.out)));replace BK677:=bK BK677 hb;replace HB:=bH HB hb
 (try clear hb)
 (try clear hb2)
 (try clear hk)
 (try clear hi)
 (try clear ho0)
 (try clear ho1)
 obtain ⟨Ao7,co7,eo7⟩:=Kd.R_slice HO681.out
 (first|subst eo7|(injection eo7 with f1_ f2_ f3_;have f4_:=f1_.symm;have f5_:=f3_.symm;clear f1_ f2_ f3_;subst f4_;subst f5_))
 obtain ⟨Ao8,co8,eo8⟩:=Kd.R_slice HO684.out
 (first|subst eo8|(injection eo8 with f1_ f2_ f3_;have f4_:=f1_.symm;have f5_:=f3_.symm;clear f1_ f2_ f3_;subst f4_;subst f5_))
 refine hK.out _ _ (cl3 BK677.out) (fun hHeld=>?_);clear hK K;refine nZ ?_
 refine oN 3 (some 6) rfl rfl fun K hK=>?_
 refine gS Try.func37 #[.agg #[.bool t678,.slice Ao7 t679.length co7,.slice Ao8 t682.length co8],.agg #[.bool a0_0,.slice A0_1 l0_1.length c0_1,.slice A0_2 l0_2.length c0_2]] ?_
 with_reducible refine (penumbraref03_Is.calls k t678 _ _ t679 _ _ t682 a0_0 _ _ l0_1 _ _ l0_2 t685 _ ?s1_ ?s2_ ?s3_ ?s4_ ?s5_ ?s6_ ?s7_ ?s8_ A3.out).mono ?_
 (case s1_=>exact Cu (Kd.R_reads' HO681.out).2.2)
 (case s2_=>exact (Kd.R_reads' HO681.out).2.1)
 (case s3_=>exact Cu (Kd.R_reads' HO684.out).2.2)
 (case s4_=>exact (Kd.R_reads' HO684.out).2.1)
 (case s5_=>exact Cu (Kd.C_below HR0_1.out HB.out))
 (case s6_=>exact HC0_1.out)
 (case s7_=>exact Cu (Kd.C_below HR0_2.out HB.out))
 (case s8_=>exact HC0_2.out)
 rintro e w9 ⟨rfl,hb⟩;refine ⟨_,rfl,?_⟩;replace HO681:=Aside0.mk (Kd.R_below (Ru HO681.out) hb);replace HO684:=Aside0.mk (Kd.R_below (Ru HO684.out) hb);replace BK677:=bK BK677 hb;replace HB:=bH HB hb
 (try clear hb)
 (try clear hb2)
 (try clear hk)
 (try clear hi)
 refine hK.out _ _ (cl3 BK677.out) (fun hHeld=>?_);clear hK K;refine nZ ?_;refine zp 4 2 ?_;refine dN ?_
 try go_wp2
 go_ret
 exact ⟨eW,bL HB.out⟩
end Go.Proofs.Ytjiaobcoeegioaa.Pq
end
section
namespace Go.Proofs.Ytjiaobcoeegioaa.N
open Go Go.RowKit Go.Proofs.YtjiaobcoeegioaaW.PrintWords Go.Proofs.YtjiaobcoeegioaaW.PrintLast Go.Proofs.YtjiaobcoeegioaaW.PrintMore Go.Proofs.Ytjiaobcoeegioaa.Pq
theorem rread_cq {a b : List Int} {m n : Nat} {x y : Int} (h : Nm a m x) (k : Nm b n y) (hm : m < 1000000000) (hn : n < 1000000000) (neg : Bool) : Ev (fun r=>penumbraref03_Read.f r neg a b) (cq (qv neg x y)) :=
 Ev_eq (rread_f h k hm hn neg) (cq_qv h.pos k.pos)
theorem rsign_f {a b : List Int} {m n : Nat} {x y : Int} (h : Nm a m x) (k : Nm b n y) (hm : m < 1000000000) (hn : n < 1000000000) (neg : Bool) : Ev (fun r=>penumbraref03_Sign.f r neg a b) (if x=0∨y=0 then 0 else if neg=true then -1 else 1):=by
 unfold penumbraref03_Sign.f;refine Ev.bind (h.rzero (by omega)) ?_
 by_cases hx : x=0
 ·rw [decide_eq_true hx,if_pos (.inl hx)]
  refine Ev_pos rfl ?_;refine Ev_up ?_;simp only [penumbraref03_Sign.j0];exact Ev_pos trivial (Ev.now _)
 ·rw [decide_eq_false hx]
  refine Ev_neg (by simp) ?_;refine Ev.bind (k.rzero (by omega)) ?_
  by_cases hy : y=0
  ·rw [decide_eq_true hy,if_pos (Or.inr hy)]
   refine Ev_up ?_;simp only [penumbraref03_Sign.j0];exact Ev_pos trivial (Ev.now _)
  ·rw [decide_eq_false hy,if_neg (show ¬ (x=0∨y=0) by omega)]
   refine Ev_up ?_;cases neg
   ·simp only [penumbraref03_Sign.j0]
    exact Ev_neg (by simp) (Ev_neg (by simp) (Ev.now _))
   ·simp only [penumbraref03_Sign.j0]
    exact Ev_neg (by simp) (Ev_pos trivial (Ev.now _))
theorem add03_f {a b c d : List Int} {i j k l : Nat} {x y u v : Int} (ha : Nm a i x) (hb : Nm b j y) (hc : Nm c k u) (hd : Nm d l v) (hi : i < 100000000) (hj : j < 100000000) (hk : k < 100000000) (hl : l < 100000000) (n m : Bool) :
  Ev (fun r=>penumbraref03_Add.f r n a b m c d) (cq (qv n x y+qv m u v)):=by
 have hx:=ha.pos;have hy:=hb.pos;have hu:=hc.pos;have hv:=hd.pos;unfold penumbraref03_Add.f;refine Ev.bind (rsign_f ha hb (by omega) (by omega) n) ?_
 by_cases h1 : x=0∨y=0
 ·rw [if_pos h1,qv_zero h1,Rat.zero_add]
  refine Ev_pos rfl ?_;refine Ev.bind (rread_cq hc hd (by omega) (by omega) m) ?_;exact Ev.now _
 have s1 : (if n=true then (-1 : Int) else 1)≠0:=by cases n <;> decide
 rw [if_neg h1];refine Ev_neg s1 ?_;refine Ev.bind (rsign_f hc hd (by omega) (by omega) m) ?_
 by_cases h2 : u=0∨v=0
 ·rw [if_pos h2,qv_zero h2,Rat.add_zero]
  refine Ev_pos rfl ?_;refine Ev.bind (rread_cq ha hb (by omega) (by omega) n) ?_;exact Ev.now _
 have s2 : (if m=true then (-1 : Int) else 1)≠0:=by cases m <;> decide
 rw [if_neg h2];refine Ev_neg s2 ?_;rw [plus_val (by omega) (by omega)];have p1:=ha.mulL hd;have p2:=hc.mulL hb;have p3:=hb.mulL hd;refine Ev.bind (ha.rmul hd (by omega)) ?_;refine Ev.bind (hc.rmul hb (by omega)) ?_;refine Ev.bind (hb.rmul hd (by omega)) ?_
 by_cases h : n=m
 ·refine Ev_pos (by simpa using h) ?_
  rw [if_pos h];refine Ev.bind (p1.radd p2 (by omega) (by omega)) ?_;refine Ev.bind (rread_cq (p1.sumL p2) p3 (by omega) (by omega) n) ?_;exact Ev.now _
 ·refine Ev_neg (by simpa using h) ?_
  rw [if_neg h];refine Ev.bind (p1.rcmp p2 (by omega) (by omega)) ?_
  by_cases hl : x * v < u * y
  ·have e : cm (x * v) (u * y) = -1:=by unfold cm;rw [if_pos hl]
   rw [e,if_neg (by omega)];refine Ev_neg (by decide) ?_;refine Ev.bind (p2.rsub p1 (by omega) (by omega)) ?_;unfold subS;rw [if_neg (by omega)];refine Ev.bind (rread_cq (Nm.L (n:=k+j) (by omega) (by have:=p2.lt;have:=p1.pos;omega)) p3 (by omega) (by omega) m) ?_;exact Ev.now _
  ·have e : 0≤cm (x * v) (u * y):=by unfold cm;rw [if_neg hl];split <;> omega
   rw [if_pos (by omega)];refine Ev_pos e ?_;refine Ev.bind (p1.rsub p2 (by omega) (by omega)) ?_;unfold subS;rw [if_neg hl];refine Ev.bind (rread_cq (Nm.L (n:=i+l) (by omega) (by have:=p1.lt;have:=p2.pos;omega)) p3 (by omega) (by omega) n) ?_;exact Ev.now _
theorem add03 {m n : Nat} {x y : RatS} (hx : Wf m x) (hy : Wf n y) (hm : m < 10000000) (hn : n < 10000000) : Ev (fun k=>penumbraref03_Add.f k x.f0 x.f1 x.f2 y.f0 y.f1 y.f2) (cq (qOf x+qOf y)) :=
 add03_f hx.a hx.b hy.a hy.b (by omega) (by omega) (by omega) (by omega) x.f0 y.f0
theorem same01_l {a b : List Int} (hl : a.length=b.length) (ha : a.length < 4611686018427387904) : ∀ (d i : Nat),a.length - i=d→i≤a.length→(∀ j,j < i→a.getD j 0=b.getD j 0) →
  Ev (fun k=>penumbraref01_Same.l0 k a b (i : Int)) (a == b):=by
 intro d
 induction d with
 | zero =>
  intro i hd hi hj
  obtain rfl : i=a.length:=by omega
  refine Ev_up ?_;simp only [penumbraref01_Same.l0];refine Ev_neg (by omega) ?_
  have e : a=b:=by
   apply List.ext_getElem hl;intro j h1 h2;have:=hj j h1
   rwa [List.getD_eq_getElem?_getD,List.getD_eq_getElem?_getD,List.getElem?_eq_getElem h1,List.getElem?_eq_getElem h2] at this
  rw [e,beq_self_eq_true];exact Ev.now _
 | succ d ih =>
  intro i hd hi hj
  have h1 : i < a.length:=by omega
  have r1 : rd a (i : Int)=a.getD i 0:=by unfold rd;rw [Int.toNat_natCast]
  have r2 : rd b (i : Int)=b.getD i 0:=by unfold rd;rw [Int.toNat_natCast]
  have g1 : (i : Int) < (a.length : Int):=by omega
  have g2 : 0≤(i : Int):=by omega
  have g3 : (i : Int) < (b.length : Int):=by omega
  have hw : wrap64 ((i : Int)+1)=((i+1 : Nat) : Int):=by clear ih hj;unfold wrap64;omega
  refine Ev_up ?_;simp only [penumbraref01_Same.l0];refine Ev_pos g1 (Ev_pos g2 (Ev_pos g3 ?_));rw [r1,r2,hw]
  by_cases he : a.getD i 0=b.getD i 0
  ·refine Ev_pos he ?_
   exact ih (i+1) (by omega) (by omega) (fun j hj'=>by
    rcases Nat.lt_or_ge j i with h|h
    ·exact hj j h
    ·obtain rfl : j=i:=by omega
     exact he)
  ·refine Ev_neg he ?_
   rw [show (a == b)=false from beq_eq_false_iff_ne.mpr (fun e=>he (by rw [e]))];exact Ev.now _
theorem same01 {a b : List Int} (ha : a.length < 4611686018427387904) : Ev (fun k=>penumbraref01_Same.f k a b) (a == b):=by
 unfold penumbraref01_Same.f
 by_cases hl : a.length=b.length
 ·exact Ev_pos (by omega) (same01_l hl ha a.length 0 rfl (Nat.zero_le _) (fun j hj=>by omega))
 ·refine Ev_neg (by omega) ?_
  rw [show (a == b)=false from beq_eq_false_iff_ne.mpr (fun e=>hl (by rw [e]))];exact Ev.now _
theorem check03 {n : Nat} {x : RatS} (h : Wf n x) (hn : n < 10000000) : Ev (fun k=>penumbraref03_Check.f k x.f0 x.f1 x.f2) (chk x):=by
 have h1:=(h.sz).nums
 have e : ∀ (a b : Bool),(a == b)=(b == a):=fun a b=>by cases a <;> cases b <;> rfl
 have e2 : ∀ (a b : List Int),(a == b)=(b == a):=fun a b=>by
  by_cases h : a=b
  ·rw [h]
  ·rw [beq_eq_false_iff_ne.mpr h,beq_eq_false_iff_ne.mpr (fun e=>h e.symm)]
 unfold penumbraref03_Check.f chk;refine Ev.bind (rread_cq h.a h.b (by omega) (by omega) x.f0) ?_
 have l1 : (cq (qOf x)).2.1.length < 4611686018427387904:=by have:=h1.1.le;unfold cq;dsimp only;omega
 have l2 : (cq (qOf x)).2.2.length < 4611686018427387904:=by have:=h1.2.le;unfold cq;dsimp only;omega
 have his : Ev (fun k=>penumbraref03_Is.f k (cq (qOf x)).1 (cq (qOf x)).2.1 (cq (qOf x)).2.2 x.f0 x.f1 x.f2) ((x.f0 == (cq (qOf x)).1) && (x.f1 == (cq (qOf x)).2.1) && (x.f2 == (cq (qOf x)).2.2)):=by
  unfold penumbraref03_Is.f;rw [e x.f0,e2 x.f1,e2 x.f2];cases hb : (cq (qOf x)).1 == x.f0
  ·exact Ev_neg (by simp) (Ev.now _)
  ·refine Ev_pos rfl ?_
   refine Ev.bind (same01 l1) ?_;cases hb2 : (cq (qOf x)).2.1 == x.f1
   ·exact Ev_neg (by simp) (Ev.now _)
   ·refine Ev_pos rfl ?_
    refine Ev.bind (same01 l2) ?_;exact Ev.now _
 refine Ev.bind his ?_;exact Ev.now _
end Go.Proofs.Ytjiaobcoeegioaa.N
end
section
namespace Go.Proofs.Ytjiaobcoeegioaa.Pq
open Go.RowKit Go.Proofs.YtjiaobcoeegioaaW.PrintWords Go.Proofs.YtjiaobcoeegioaaW.PrintLast Go.Proofs.YtjiaobcoeegioaaW.PrintMore
attribute [local go_sem] max2_int min2_int max_two min_two max_three min_three max_four min_four
set_option maxHeartbeats 8000000
set_option maxRecDepth 100000
theorem penumbraref20_Sizes.calls (a0 : Int) (a1 : Int) (a2 : Int) (r : Bool) (w : World) (h : penumbraref20_Sizes.f a0 a1 a2=some r) :
  Calls Try.prog 35 #[.int .i64 a0,.int .i64 a1,.int .i64 a2] w fun e w'=>e=.returned (.bool r)∧Drawn0 w w':=by
 have H : (if a0 ≥ 1 then (if a0≤16 then (if a1 ≥ 1 then (if a1≤16 then (if a2 ≥ 1 then (some (decide (a2≤8))) else (some false)) else (some false)) else (some false)) else (some false)) else (some false))=some r:=h;clear h
 by_cases c4 : a0 ≥ 1
 ·rw [if_pos c4] at H
  have c4b0 : decide (1≤a0)=true:=decide_eq_true c4;clear c4
  by_cases c5 : a0≤16
  ·rw [if_pos c5] at H
   have c5b0 : decide (a0≤16)=true:=decide_eq_true c5;clear c5
   by_cases c6 : a1 ≥ 1
   ·rw [if_pos c6] at H
    have c6b0 : decide (1≤a1)=true:=decide_eq_true c6;clear c6
    by_cases c7 : a1≤16
    ·rw [if_pos c7] at H
     have c7b0 : decide (a1≤16)=true:=decide_eq_true c7;clear c7
     by_cases c8 : a2 ≥ 1
     ·rw [if_pos c8] at H
      have c8b0 : decide (1≤a2)=true:=decide_eq_true c8;clear c8;obtain rfl:=Option.some.inj H
      go_enter Try.func35,Try.ntmps35
      go_wp2
      go_ret
      exact ⟨sD,by repeat (first|exact Drawn0.refl _|apply Drawn0.step)⟩
     ·rw [if_neg c8] at H
      have c8b0 : decide (1≤a2)=false:=decide_eq_false c8;clear c8;obtain rfl:=Option.some.inj H
      go_enter Try.func35,Try.ntmps35
      go_wp2
      go_ret
      exact ⟨sD,by repeat (first|exact Drawn0.refl _|apply Drawn0.step)⟩
    ·rw [if_neg c7] at H
     have c7b0 : decide (a1≤16)=false:=decide_eq_false c7;clear c7;obtain rfl:=Option.some.inj H
     go_enter Try.func35,Try.ntmps35
     go_wp2
     go_ret
     exact ⟨sD,by repeat (first|exact Drawn0.refl _|apply Drawn0.step)⟩
   ·rw [if_neg c6] at H
    have c6b0 : decide (1≤a1)=false:=decide_eq_false c6;clear c6;obtain rfl:=Option.some.inj H
    go_enter Try.func35,Try.ntmps35
    go_wp2
    go_ret
    exact ⟨sD,by repeat (first|exact Drawn0.refl _|apply Drawn0.step)⟩
  ·rw [if_neg c5] at H
   have c5b0 : decide (a0≤16)=false:=decide_eq_false c5;clear c5;obtain rfl:=Option.some.inj H
   go_enter Try.func35,Try.ntmps35
   go_wp2
   go_ret
   exact ⟨sD,by repeat (first|exact Drawn0.refl _|apply Drawn0.step)⟩
 ·rw [if_neg c4] at H
  have c4b0 : decide (1≤a0)=false:=decide_eq_false c4;clear c4;obtain rfl:=Option.some.inj H
  go_enter Try.func35,Try.ntmps35
  go_wp2
  go_ret
  exact ⟨sD,by repeat (first|exact Drawn0.refl _|apply Drawn0.step)⟩
theorem penumbraref20_Check.calls (k : Nat) (a0_0 : Int) (a0_1 : Int) (a0_2 : Int) (A0_3 : Option Addr) (c0_3 : Nat) (l0_3 : List (S63)) (A0_4 : Option Addr) (c0_4 : Nat) (l0_4 : List (S63)) (r : Bool) (w : World) (hr0_3 : Kd.C k63 w A0_3 l0_3.length l0_3) (hc0_3 : l0_3.length≤c0_3) (hr0_4 : Kd.C k63 w A0_4 l0_4.length l0_4) (hc0_4 : l0_4.length≤c0_4) (h : penumbraref20_Check.f k a0_0 a0_1 a0_2 l0_3 l0_4=some r) :
  Calls Try.prog 38 #[.agg #[.int .i64 a0_0,.int .i64 a0_1,.int .i64 a0_2,.slice A0_3 l0_3.length c0_3,.slice A0_4 l0_4.length c0_4]] w fun e w'=>e=.returned (.bool r)∧Below w.heap.size w w':=by
 have hu27:=Try.underlying27;have hu63:=Try.underlying63;have HR0_3:=Aside0.mk hr0_3;have HC0_3:=Aside0.mk hc0_3;clear hr0_3 hc0_3;have HR0_4:=Aside0.mk hr0_4;have HC0_4:=Aside0.mk hc0_4;clear hr0_4 hc0_4;have HB:=Aside0.mk (Below.refl w.heap.size w);have H : ((penumbraref20_Sizes.f a0_0 a0_1 a0_2).bind fun t687=>(if t687=true then (if (l0_3.length : Int)=(wrap64 ((wrap64 (a0_0 * a0_1)) * a0_2)) then (penumbraref20_Check.j0 k ((l0_4.length : Int) != (l0_3.length : Int)) a0_0 a0_1 a0_2 l0_3 l0_4) else (penumbraref20_Check.j0 k true a0_0 a0_1 a0_2 l0_3 l0_4)) else (penumbraref20_Check.j0 k true a0_0 a0_1 a0_2 l0_3 l0_4)))=some r:=h;clear h;have HC2:=Aside0.mk H;clear H
 go_enter Try.func38,Try.ntmps38
 go_upto_region 1 with (first|((with_reducible refine gate_dst (N:=1) rfl ?_);(try (refine gate_guard (by rfl) ?_;dsimp only));refine boxA #[.int .i64 a0_0,.int .i64 a0_1,.int .i64 a0_2,.slice A0_3 l0_3.length c0_3,.slice A0_4 l0_4.length c0_4] 27 ?_;intro gb686 hg w3 hbox hb;have BK686:=Aside0.mk hbox;have GW686:=Aside0.mk ((by rw [hg];exact (below_size (bL HB.out)) : w.heap.size≤gb686));have GE686:=Aside0.mk ((by rw [hg];exact (below_size (bL HB.out)) : w.heap.size≤gb686));replace HB:=bH HB hb;clear hb hbox hg))
 (try simp only [Act.put,s0,s1,s2])
 go_cut [34] (fun v34 wc=>∃ (kq : Nat) (x34_1 : Bool),v34=.bool x34_1∧Aside0 (penumbraref20_Check.j0 kq x34_1 a0_0 a0_1 a0_2 l0_3 l0_4=some r)∧Aside0 (kq≤k)∧Aside0 (wc.heap[gb686]? = some (.cells #[.int .i64 a0_0,.int .i64 a0_1,.int .i64 a0_2,(.slice A0_3 l0_3.length c0_3),(.slice A0_4 l0_4.length c0_4)] 27 (0,0)))∧Aside0 (Below w.heap.size w wc))
 case first =>
  have H:=HC2.out;clear HC2;refine biT H ?_;clear H;intro t687 A4 H;(try dsimp only at H);replace A4:=Aside0.mk A4
  by_cases c5 : t687=true
  ·subst c5
   rw [if_pos rfl] at H
   by_cases c6 : (l0_3.length : Int)=(wrap64 ((wrap64 (a0_0 * a0_1)) * a0_2))
   ·rw [if_pos c6] at H
    have c6b0 : ((l0_3.length : Int) == (wrap64 ((wrap64 (a0_0 * a0_1)) * a0_2)))=true:=beq_iff_eq.mpr c6;have c6b1 : ((l0_3.length : Int) != (wrap64 ((wrap64 (a0_0 * a0_1)) * a0_2)))=false:=bne_eq_false_iff_eq.mpr c6;clear c6
    (first|rw [c6b0]|(simp only [i64_w,i32_w];rw [c6b0])|skip)
    have H':=Aside0.mk H;clear H;obtain ⟨hcz7_0,hcz7_1,hcz7_2,hcz7_3,hcz7_4⟩:=cl5 BK686.out;obtain ⟨hfz7_0,hfz7_1,hfz7_2,hfz7_3,hfz7_4⟩:=fr5 BK686.out
    go_wp2_with (first|((with_reducible refine gate_callee (f:=35) rfl ?_);refine gL (some 10) Try.func35 #[.int .i64 a0_0,.int .i64 a0_1,.int .i64 a0_2] ?_;(with_reducible refine (penumbraref20_Sizes.calls a0_0 a0_1 a0_2 true _ A4.out).mono ?_);rintro e w' ⟨rfl,⟨nd,rfl⟩⟩;refine ⟨_,rfl,?_⟩))
    go_meet
    case rel=>exact ⟨_,(((l0_4.length : Int) != (l0_3.length : Int))),sD,H',⟨by first|omega|exact Nat.le_refl _⟩,⟨Bu BK686.out⟩,⟨bL HB.out⟩⟩
   ·rw [if_neg c6] at H
    have c6b0 : ((l0_3.length : Int) == (wrap64 ((wrap64 (a0_0 * a0_1)) * a0_2)))=false:=beq_eq_false_iff_ne.mpr c6;have c6b1 : ((l0_3.length : Int) != (wrap64 ((wrap64 (a0_0 * a0_1)) * a0_2)))=true:=bne_iff_ne.mpr c6
    (first|rw [c6b0]|(simp only [i64_w,i32_w];rw [c6b0])|skip)
    have H':=Aside0.mk H;clear H;obtain ⟨hcz8_0,hcz8_1,hcz8_2,hcz8_3,hcz8_4⟩:=cl5 BK686.out;obtain ⟨hfz8_0,hfz8_1,hfz8_2,hfz8_3,hfz8_4⟩:=fr5 BK686.out
    go_wp2_with (first|((with_reducible refine gate_callee (f:=35) rfl ?_);refine gL (some 10) Try.func35 #[.int .i64 a0_0,.int .i64 a0_1,.int .i64 a0_2] ?_;(with_reducible refine (penumbraref20_Sizes.calls a0_0 a0_1 a0_2 true _ A4.out).mono ?_);rintro e w' ⟨rfl,⟨nd,rfl⟩⟩;refine ⟨_,rfl,?_⟩))
    go_meet
    case rel=>exact ⟨_,(true),sD,H',⟨by first|omega|exact Nat.le_refl _⟩,⟨Bu BK686.out⟩,⟨bL HB.out⟩⟩
  ·replace c5:=Bool.eq_false_iff.mpr c5
   subst c5;rw [if_neg (show ¬ (false=true) by decide)] at H;have H':=Aside0.mk H;clear H;obtain ⟨hcz9_0,hcz9_1,hcz9_2,hcz9_3,hcz9_4⟩:=cl5 BK686.out;obtain ⟨hfz9_0,hfz9_1,hfz9_2,hfz9_3,hfz9_4⟩:=fr5 BK686.out
   go_wp2_with (first|((with_reducible refine gate_callee (f:=35) rfl ?_);refine gL (some 10) Try.func35 #[.int .i64 a0_0,.int .i64 a0_1,.int .i64 a0_2] ?_;(with_reducible refine (penumbraref20_Sizes.calls a0_0 a0_1 a0_2 false _ A4.out).mono ?_);rintro e w' ⟨rfl,⟨nd,rfl⟩⟩;refine ⟨_,rfl,?_⟩))
   go_meet
   case rel=>exact ⟨_,(true),sD,H',⟨by first|omega|exact Nat.le_refl _⟩,⟨Bu BK686.out⟩,⟨bL HB.out⟩⟩
 case rest =>
  clear HC2;obtain ⟨kq,x34_1,rfl,HA,HJ1,BK686,HB⟩:=hcut
  cases kq with
  | zero=>exact absurd HA.out (by simp [penumbraref20_Check.j0])
  | succ kj1 =>
   have H:=HA.out;clear HA;simp only [penumbraref20_Check.j0] at H
   by_cases c10 : x34_1=true
   ·subst c10
    rw [if_pos rfl] at H;obtain rfl:=Option.some.inj H
    go_wp2
    go_ret
    exact ⟨eW,bL HB.out⟩
   ·replace c10:=Bool.eq_false_iff.mpr c10
    subst c10;rw [if_neg (show ¬ (false=true) by decide)] at H;have H':=Aside0.mk H;clear H
    go_wp2
    go_loopg [3] kj1 (fun kq v3 w'=>∃ (x3_2 : Int),v3=.int .i64 x3_2∧Aside0 (penumbraref20_Check.l0 kq x3_2 a0_0 a0_1 a0_2 l0_3 l0_4=some r)∧Aside0 (kq≤kj1)∧Aside0 (w'.heap[gb686]? = some (.cells #[.int .i64 a0_0,.int .i64 a0_1,.int .i64 a0_2,(.slice A0_3 l0_3.length c0_3),(.slice A0_4 l0_4.length c0_4)] 27 (0,0)))∧Aside0 (Below w.heap.size w w'))
    case atStart=>exact ⟨(0),sD,H',⟨Nat.le_refl _⟩,⟨Bu BK686.out⟩,⟨bL HB.out⟩⟩
    case round =>
     clear H';obtain ⟨x3_2,rfl,HA,HK2,BK686,HB⟩:=hrel
     cases gk with
     | zero=>exact absurd HA.out (by simp [penumbraref20_Check.l0])
     | succ k2 =>
      have H:=HA.out;clear HA;simp only [penumbraref20_Check.l0] at H
      by_cases c11 : x3_2 < (l0_3.length : Int)
      ·rw [if_pos c11] at H
       have c11b0 : decide (x3_2 < (l0_3.length : Int))=true:=decide_eq_true c11;clear c11;refine ifT H ?_;clear H;intro c12 H;have c12b0 : decide (0≤x3_2)=true:=decide_eq_true c12;clear c12;refine biT H ?_;clear H;intro t689 A13 H;(try dsimp only at H);replace A13:=Aside0.mk A13
       by_cases c14 : t689=true
       ·subst c14
        rw [if_pos rfl] at H;refine ifT H ?_;clear H;intro c15 H;have c15b0 : decide (x3_2 < (l0_4.length : Int))=true:=decide_eq_true c15;clear c15;refine biT H ?_;clear H;intro t691 A16 H;(try dsimp only at H);replace A16:=Aside0.mk A16
        by_cases c17 : t691=true
        ·subst c17
         rw [if_pos rfl] at H;have H':=Aside0.mk H;clear H;obtain ⟨hcz18_0,hcz18_1,hcz18_2,hcz18_3,hcz18_4⟩:=cl5 BK686.out;obtain ⟨hfz18_0,hfz18_1,hfz18_2,hfz18_3,hfz18_4⟩:=fr5 BK686.out;have p688 : 0≤(x3_2 : Int):=oA;have q688 : x3_2 < (l0_3.length : Int):=oA;obtain ⟨ad688,A688_1,c688_1,A688_2,c688_2,e688,hx688_0,hx688_1,hx688_2,hl688_1,hi688_1,hl688_2,hi688_2⟩:=at_T63 HR0_3.out x3_2 p688 q688;cases e688;replace hx688_0:=(HB.out.cell (World.block_lt_of_cell? w _ hx688_0)).trans hx688_0;replace hx688_1:=(HB.out.cell (World.block_lt_of_cell? w _ hx688_1)).trans hx688_1;replace hx688_2:=(HB.out.cell (World.block_lt_of_cell? w _ hx688_2)).trans hx688_2;have HR688_1:=Aside0.mk hi688_1;have HC688_1:=Aside0.mk hl688_1;clear hi688_1 hl688_1;have HR688_2:=Aside0.mk hi688_2;have HC688_2:=Aside0.mk hl688_2;clear hi688_2 hl688_2;replace p688:=eq_true p688;replace q688:=eq_true q688
         go_wp2_with (first|((with_reducible refine gate_callee (f:=49) rfl ?_);refine gL (some 47) Try.func49 #[.agg #[.bool ((rd_T63 l0_3 x3_2).f0),.slice A688_1 ((rd_T63 l0_3 x3_2).f1).length c688_1,.slice A688_2 ((rd_T63 l0_3 x3_2).f2).length c688_2]] ?_;(with_reducible refine (penumbraref03_Check.calls k2 ((rd_T63 l0_3 x3_2).f0) _ _ ((rd_T63 l0_3 x3_2).f1) _ _ ((rd_T63 l0_3 x3_2).f2) true _ ?s1_ ?s2_ ?s3_ ?s4_ A13.out).mono ?_);(case s1_=>exact Cu (Kd.C_below HR688_1.out HB.out));(case s2_=>exact HC688_1.out);(case s3_=>exact Cu (Kd.C_below HR688_2.out HB.out));(case s4_=>exact HC688_2.out);rintro e w19 ⟨rfl,hb⟩;refine ⟨_,rfl,?_⟩;replace BK686:=bK BK686 hb;replace HB:=bH HB hb;obtain ⟨hcz20_0,hcz20_1,hcz20_2,hcz20_3,hcz20_4⟩:=cl5 BK686.out;obtain ⟨hfz20_0,hfz20_1,hfz20_2,hfz20_3,hfz20_4⟩:=fr5 BK686.out;have p690 : 0≤(x3_2 : Int):=oA;have q690 : x3_2 < (l0_4.length : Int):=oA;obtain ⟨ad690,A690_1,c690_1,A690_2,c690_2,e690,hx690_0,hx690_1,hx690_2,hl690_1,hi690_1,hl690_2,hi690_2⟩:=at_T63 HR0_4.out x3_2 p690 q690;cases e690;replace hx690_0:=(HB.out.cell (World.block_lt_of_cell? w _ hx690_0)).trans hx690_0;replace hx690_1:=(HB.out.cell (World.block_lt_of_cell? w _ hx690_1)).trans hx690_1;replace hx690_2:=(HB.out.cell (World.block_lt_of_cell? w _ hx690_2)).trans hx690_2;have HR690_1:=Aside0.mk hi690_1;have HC690_1:=Aside0.mk hl690_1;clear hi690_1 hl690_1;have HR690_2:=Aside0.mk hi690_2;have HC690_2:=Aside0.mk hl690_2;clear hi690_2 hl690_2;replace p690:=eq_true p690;replace q690:=eq_true q690)|(go_at_call 49;(with_reducible refine (penumbraref03_Check.calls k2 ((rd_T63 l0_4 x3_2).f0) _ _ ((rd_T63 l0_4 x3_2).f1) _ _ ((rd_T63 l0_4 x3_2).f2) true _ ?s1_ ?s2_ ?s3_ ?s4_ A16.out).mono ?_);(case s1_=>exact Cu (Kd.C_below HR690_1.out HB.out));(case s2_=>exact HC690_1.out);(case s3_=>exact Cu (Kd.C_below HR690_2.out HB.out));(case s4_=>exact HC690_2.out);rintro e w21 ⟨rfl,hb⟩;replace BK686:=bK BK686 hb;replace HB:=bH HB hb))
         go_roundg k2
         case measure=>have:=HJ1.out;have:=HK2.out;omega
         case rel=>exact ⟨(wrap64 (x3_2+1)),sD,H',⟨by have:=HJ1.out;have:=HK2.out;omega⟩,⟨Bu BK686.out⟩,⟨bL HB.out⟩⟩
        ·replace c17:=Bool.eq_false_iff.mpr c17
         subst c17;rw [if_neg (show ¬ (false=true) by decide)] at H;obtain rfl:=Option.some.inj H;obtain ⟨hcz22_0,hcz22_1,hcz22_2,hcz22_3,hcz22_4⟩:=cl5 BK686.out;obtain ⟨hfz22_0,hfz22_1,hfz22_2,hfz22_3,hfz22_4⟩:=fr5 BK686.out;have p688 : 0≤(x3_2 : Int):=oA;have q688 : x3_2 < (l0_3.length : Int):=oA;obtain ⟨ad688,A688_1,c688_1,A688_2,c688_2,e688,hx688_0,hx688_1,hx688_2,hl688_1,hi688_1,hl688_2,hi688_2⟩:=at_T63 HR0_3.out x3_2 p688 q688;cases e688;replace hx688_0:=(HB.out.cell (World.block_lt_of_cell? w _ hx688_0)).trans hx688_0;replace hx688_1:=(HB.out.cell (World.block_lt_of_cell? w _ hx688_1)).trans hx688_1;replace hx688_2:=(HB.out.cell (World.block_lt_of_cell? w _ hx688_2)).trans hx688_2;have HR688_1:=Aside0.mk hi688_1;have HC688_1:=Aside0.mk hl688_1;clear hi688_1 hl688_1;have HR688_2:=Aside0.mk hi688_2;have HC688_2:=Aside0.mk hl688_2;clear hi688_2 hl688_2;replace p688:=eq_true p688;replace q688:=eq_true q688
         go_wp2_with (first|((with_reducible refine gate_callee (f:=49) rfl ?_);refine gL (some 47) Try.func49 #[.agg #[.bool ((rd_T63 l0_3 x3_2).f0),.slice A688_1 ((rd_T63 l0_3 x3_2).f1).length c688_1,.slice A688_2 ((rd_T63 l0_3 x3_2).f2).length c688_2]] ?_;(with_reducible refine (penumbraref03_Check.calls k2 ((rd_T63 l0_3 x3_2).f0) _ _ ((rd_T63 l0_3 x3_2).f1) _ _ ((rd_T63 l0_3 x3_2).f2) true _ ?s1_ ?s2_ ?s3_ ?s4_ A13.out).mono ?_);(case s1_=>exact Cu (Kd.C_below HR688_1.out HB.out));(case s2_=>exact HC688_1.out);(case s3_=>exact Cu (Kd.C_below HR688_2.out HB.out));(case s4_=>exact HC688_2.out);rintro e w23 ⟨rfl,hb⟩;refine ⟨_,rfl,?_⟩;replace BK686:=bK BK686 hb;replace HB:=bH HB hb;obtain ⟨hcz24_0,hcz24_1,hcz24_2,hcz24_3,hcz24_4⟩:=cl5 BK686.out;obtain ⟨hfz24_0,hfz24_1,hfz24_2,hfz24_3,hfz24_4⟩:=fr5 BK686.out;have p690 : 0≤(x3_2 : Int):=oA;have q690 : x3_2 < (l0_4.length : Int):=oA;obtain ⟨ad690,A690_1,c690_1,A690_2,c690_2,e690,hx690_0,hx690_1,hx690_2,hl690_1,hi690_1,hl690_2,hi690_2⟩:=at_T63 HR0_4.out x3_2 p690 q690;cases e690;replace hx690_0:=(HB.out.cell (World.block_lt_of_cell? w _ hx690_0)).trans hx690_0;replace hx690_1:=(HB.out.cell (World.block_lt_of_cell? w _ hx690_1)).trans hx690_1;replace hx690_2:=(HB.out.cell (World.block_lt_of_cell? w _ hx690_2)).trans hx690_2;have HR690_1:=Aside0.mk hi690_1;have HC690_1:=Aside0.mk hl690_1;clear hi690_1 hl690_1;have HR690_2:=Aside0.mk hi690_2;have HC690_2:=Aside0.mk hl690_2;clear hi690_2 hl690_2;replace p690:=eq_true p690;replace q690:=eq_true q690)|(go_at_call 49;(with_reducible refine (penumbraref03_Check.calls k2 ((rd_T63 l0_4 x3_2).f0) _ _ ((rd_T63 l0_4 x3_2).f1) _ _ ((rd_T63 l0_4 x3_2).f2) false _ ?s1_ ?s2_ ?s3_ ?s4_ A16.out).mono ?_);(case s1_=>exact Cu (Kd.C_below HR690_1.out HB.out));(case s2_=>exact HC690_1.out);(case s3_=>exact Cu (Kd.C_below HR690_2.out HB.out));(case s4_=>exact HC690_2.out);rintro e w25 ⟨rfl,hb⟩;replace BK686:=bK BK686 hb;replace HB:=bH HB hb))
         go_ret
         exact ⟨eW,bL HB.out⟩
       ·replace c14:=Bool.eq_false_iff.mpr c14
        subst c14;rw [if_neg (show ¬ (false=true) by decide)] at H;obtain rfl:=Option.some.inj H;obtain ⟨hcz26_0,hcz26_1,hcz26_2,hcz26_3,hcz26_4⟩:=cl5 BK686.out;obtain ⟨hfz26_0,hfz26_1,hfz26_2,hfz26_3,hfz26_4⟩:=fr5 BK686.out;have p688 : 0≤(x3_2 : Int):=oA;have q688 : x3_2 < (l0_3.length : Int):=oA;obtain ⟨ad688,A688_1,c688_1,A688_2,c688_2,e688,hx688_0,hx688_1,hx688_2,hl688_1,hi688_1,hl688_2,hi688_2⟩:=at_T63 HR0_3.out x3_2 p688 q688;cases e688;replace hx688_0:=(HB.out.cell (World.block_lt_of_cell? w _ hx688_0)).trans hx688_0;replace hx688_1:=(HB.out.cell (World.block_lt_of_cell? w _ hx688_1)).trans hx688_1;replace hx688_2:=(HB.out.cell (World.block_lt_of_cell? w _ hx688_2)).trans hx688_2;have HR688_1:=Aside0.mk hi688_1;have HC688_1:=Aside0.mk hl688_1;clear hi688_1 hl688_1;have HR688_2:=Aside0.mk hi688_2;have HC688_2:=Aside0.mk hl688_2;clear hi688_2 hl688_2;replace p688:=eq_true p688;replace q688:=eq_true q688
        go_wp2_with (first|((with_reducible refine gate_callee (f:=49) rfl ?_);refine gL (some 47) Try.func49 #[.agg #[.bool ((rd_T63 l0_3 x3_2).f0),.slice A688_1 ((rd_T63 l0_3 x3_2).f1).length c688_1,.slice A688_2 ((rd_T63 l0_3 x3_2).f2).length c688_2]] ?_;(with_reducible refine (penumbraref03_Check.calls k2 ((rd_T63 l0_3 x3_2).f0) _ _ ((rd_T63 l0_3 x3_2).f1) _ _ ((rd_T63 l0_3 x3_2).f2) false _ ?s1_ ?s2_ ?s3_ ?s4_ A13.out).mono ?_);(case s1_=>exact Cu (Kd.C_below HR688_1.out HB.out));(case s2_=>exact HC688_1.out);(case s3_=>exact Cu (Kd.C_below HR688_2.out HB.out));(case s4_=>exact HC688_2.out);rintro e w27 ⟨rfl,hb⟩;refine ⟨_,rfl,?_⟩;replace BK686:=bK BK686 hb;replace HB:=bH HB hb))
        go_ret
        exact ⟨eW,bL HB.out⟩
      ·rw [if_neg c11] at H
       have c11b0 : decide (x3_2 < (l0_3.length : Int))=false:=decide_eq_false c11;clear c11;obtain rfl:=Option.some.inj H;obtain ⟨hcz28_0,hcz28_1,hcz28_2,hcz28_3,hcz28_4⟩:=cl5 BK686.out;obtain ⟨hfz28_0,hfz28_1,hfz28_2,hfz28_3,hfz28_4⟩:=fr5 BK686.out
       go_wp2
       go_ret
       exact ⟨eW,bL HB.out⟩
theorem penumbraref20_New.calls (k : Nat) (a0 : Int) (a1 : Int) (a2 : Int) (r1 : Int) (r2 : Int) (r3 : Int) (r4 : List (S63)) (r5 : List (S63)) (r6 : Bool) (w : World) (h : penumbraref20_New.f k a0 a1 a2=some (r1,r2,r3,r4,r5,r6)) :
  Calls Try.prog 20 #[.int .i64 a0,.int .i64 a1,.int .i64 a2] w fun e w'=>∃ v3_ v4_ : Value,e=.returned (.tuple #[.agg #[.int .i64 r1,.int .i64 r2,.int .i64 r3,v3_,v4_],.bool r6])∧Kd.S k63 63 w' w.heap.size (fun k_=>some k_≠(v4_ : Value).ownBlock) v3_ r4∧Kd.S k63 63 w' w.heap.size (fun k_=>some k_≠(v3_ : Value).ownBlock) v4_ r5∧Below w.heap.size w w':=by
 have hu27:=Try.underlying27;have HB:=Aside0.mk (Below.refl w.heap.size w);have H : ((penumbraref20_Sizes.f a0 a1 a2).bind fun t489=>(if t489=true then (penumbraref20_New.l0 k a0 a1 a2 0 a0 a1 a2 ([] : List (S63)) ([] : List (S63))) else (some (0,0,0,([] : List (S63)),([] : List (S63)),false))))=some (r1,r2,r3,r4,r5,r6):=h;clear h;refine biT H ?_;clear H;intro t489 A4 H;(try dsimp only at H);replace A4:=Aside0.mk A4
 by_cases c5 : t489=true
 ·subst c5
  rw [if_pos rfl] at H;have H':=Aside0.mk H;clear H
  go_enter Try.func20,Try.ntmps20
  go_wp2_with (first|((with_reducible refine gate_dst (N:=6) rfl ?_);refine boxA #[.int .i64 0,.int .i64 0,.int .i64 0,.slice none 0 0,.slice none 0 0] 27 ?_;intro gb488 hg w6 hbox hb;have BK488:=Aside0.mk hbox;have GW488:=Aside0.mk ((by rw [hg];exact (below_size (bL HB.out)) : w.heap.size≤gb488));have GE488:=Aside0.mk ((by rw [hg];exact (below_size (bL HB.out)) : w.heap.size≤gb488));replace HB:=bH HB hb;clear hb hbox hg)|((with_reducible refine gate_callee (f:=35) rfl ?_);refine gL (some 13) Try.func35 #[.int .i64 a0,.int .i64 a1,.int .i64 a2] ?_;(with_reducible refine (penumbraref20_Sizes.calls a0 a1 a2 true _ A4.out).mono ?_);rintro e w' ⟨rfl,⟨nd,rfl⟩⟩;refine ⟨_,rfl,?_⟩;(try (rw [drewN_self w6];generalize hq_ : World.drewN w6 _=w6;have n0_ : Aside0 (w6.heap[gb488]? = some (.cells #[.int .i64 0,.int .i64 0,.int .i64 0,.slice none 0 0,.slice none 0 0] 27 (0,0))):=⟨by rw [← hq_];exact (Bu BK488.out)⟩;have n1_ : Aside0 (Below w.heap.size w w6):=⟨by rw [← hq_];exact (bL HB.out)⟩;clear BK488 HB hq_;have BK488:=n0_;have HB:=n1_;clear n0_ n1_)))|((with_reducible refine gate_dst (N:=8) rfl ?_);refine boxA #[.int .i64 0,.int .i64 0,.int .i64 0,.slice none 0 0,.slice none 0 0] 27 ?_;intro gb490 hg w7 hbox hb;have BK490:=Aside0.mk hbox;have GW490:=Aside0.mk ((by rw [hg];exact (below_size (bL HB.out)) : w.heap.size≤gb490));have GE490:=Aside0.mk ((by rw [hg];exact (below_size (bL HB.out)) : w.heap.size≤gb490));replace HB:=bH HB hb;have NB488_490:=Aside0.mk ((by rw [hg];exact Nat.ne_of_lt (blk_lt (Bu BK488.out)) : gb488≠gb490));have NB490_488:=Aside0.mk ((by rw [hg];exact Nat.ne_of_gt (blk_lt (Bu BK488.out)) : gb490≠gb488));replace BK488:=bK BK488 hb;clear hb hbox hg;have hnb8:=NB490_488.out;have hnc8:=NB488_490.out;obtain ⟨hcz9_0,hcz9_1,hcz9_2,hcz9_3,hcz9_4⟩:=cl5 BK490.out;obtain ⟨hfz9_0,hfz9_1,hfz9_2,hfz9_3,hfz9_4⟩:=fr5 BK490.out))
  go_loopg [9] k (fun kq v9 w'=>∃ (x9_1 : Int) (x491003_1 : List (S63)) (x491004_1 : List (S63)) (u491003 : Value) (u491004 : Value),v9=.int .i64 x9_1∧Aside0 (penumbraref20_New.l0 kq a0 a1 a2 x9_1 a0 a1 a2 x491003_1 x491004_1=some (r1,r2,r3,r4,r5,r6))∧Aside0 (kq≤k)∧Aside0 (Kd.S k63 63 w' w.heap.size (fun k_=>some k_≠(u491004 : Value).ownBlock) u491003 x491003_1)∧Aside0 (Kd.S k63 63 w' w.heap.size (fun k_=>some k_≠(u491003 : Value).ownBlock) u491004 x491004_1)∧Aside0 (w'.heap[gb488]? = some (.cells #[.int .i64 0,.int .i64 0,.int .i64 0,(.slice none 0 0),(.slice none 0 0)] 27 (0,0)))∧Aside0 (w'.heap[gb490]? = some (.cells #[.int .i64 a0,.int .i64 a1,.int .i64 a2,u491003,u491004] 27 (0,0)))∧Aside0 (Below w.heap.size w w'))
  case atStart=>exact ⟨(0),(([] : List (S63))),(([] : List (S63))),(.slice none 0 0),(.slice none 0 0),sD,H',⟨Nat.le_refl _⟩,⟨by first|exact Kd.S_nil _ _ _ _ _|exact Kd.N_nil _ _ _ _ _|exact Kd.V_nil _ _ _ _ _|exact Kd.Q_nil _ _ _ _ _|exact Kd.R_nil _ _ _ _ _⟩,⟨by first|exact Kd.S_nil _ _ _ _ _|exact Kd.N_nil _ _ _ _ _|exact Kd.V_nil _ _ _ _ _|exact Kd.Q_nil _ _ _ _ _|exact Kd.R_nil _ _ _ _ _⟩,⟨fT NB488_490.out BK488.out⟩,⟨pU BK490.out⟩,⟨bL HB.out⟩⟩
  case round =>
   clear H';obtain ⟨x9_1,x491003_1,x491004_1,u491003,u491004,rfl,HA,HK1,HO_491003,HO_491004,BK488,BK490,HB⟩:=hrel
   cases gk with
   | zero=>exact absurd HA.out (by simp [penumbraref20_New.l0])
   | succ k1 =>
    have H:=HA.out;clear HA;simp only [penumbraref20_New.l0] at H
    by_cases c10 : x9_1 < (wrap64 ((wrap64 (a0 * a1)) * a2))
    ·rw [if_pos c10] at H
     have c10b0 : decide (x9_1 < (wrap64 ((wrap64 (a0 * a1)) * a2)))=true:=decide_eq_true c10;clear c10;refine biT H ?_;clear H;rintro ⟨t491,t492,t495⟩ A11 H;(try dsimp only at H);replace A11:=Aside0.mk A11;refine ifT H ?_;clear H;intro c12 H;have LMc12:=Aside0.mk c12;clear c12;obtain ⟨y498,hy_⟩ : ∃ y_ : List (S63),y_=(x491003_1++[(⟨t491,t492,t495⟩ : S63)]):=⟨_,rfl⟩;replace H : ((penumbraref03_Zero.f).bind fun bt501=>(if x491004_1.length < 2513169434916 then (penumbraref20_New.l0 k1 a0 a1 a2 (wrap64 (x9_1+1)) a0 a1 a2 y498 (x491004_1++[(⟨bt501.1,bt501.2.1,bt501.2.2⟩ : S63)])) else (none)))=some (r1,r2,r3,r4,r5,r6):=yH H;have Ny498:=Aside0.mk hy_;clear hy_;refine biT H ?_;clear H;rintro ⟨t501,t502,t505⟩ A13 H;(try dsimp only at H);replace A13:=Aside0.mk A13;refine ifT H ?_;clear H;intro c14 H;have LMc14:=Aside0.mk c14;clear c14;obtain ⟨y508,hy_⟩ : ∃ y_ : List (S63),y_=(x491004_1++[(⟨t501,t502,t505⟩ : S63)]):=⟨_,rfl⟩;replace H : (penumbraref20_New.l0 k1 a0 a1 a2 (wrap64 (x9_1+1)) a0 a1 a2 y498 y508)=some (r1,r2,r3,r4,r5,r6):=yH H;have Ny508:=Aside0.mk hy_;clear hy_;have H':=Aside0.mk H;clear H
     try go_wp2
     replace HO_491003:=Aside0.mk (Kd.S_drew HO_491003.out);replace HO_491004:=Aside0.mk (Kd.S_drew HO_491004.out);replace BK488:=Aside0.mk (blk_drew BK488.out);replace BK490:=Aside0.mk (blk_drew BK490.out);replace HB:=Aside0.mk (b1 HB.out);refine sT (n:=7) (S:=fun w'=>w'.cell? ⟨gb490,0,none⟩=some (.int .i64 a0)∧w'.cell? ⟨gb490,1,none⟩=some (.int .i64 a1)∧w'.cell? ⟨gb490,2,none⟩=some (.int .i64 a2)∧w'.cell? ⟨gb490,3,none⟩=some (u491003)∧w'.cell? ⟨gb490,4,none⟩=some (u491004)) (ds:=[6]) (by kernel_rfl) rfl (cl5 BK490.out) (fun hHeld=>?_);generalize wr.drew=w15 at HO_491003 HO_491004 BK488 BK490 HB hHeld ⊢;refine zp 0 29 ?_;refine zt 1 30 ?_
     refine oN 2 (some 31) rfl rfl fun K hK=>?_
     refine gS Try.func36 #[] ?_
     with_reducible refine (penumbraref03_Zero.calls  t491 t492 t495 _ A11.out).mono ?_
     rintro e w16 ⟨v493,v496,rfl,ho0,ho1,hb⟩;refine ⟨_,rfl,?_⟩;replace HO_491003:=Aside0.mk (Kd.S_mono (Kd.S_told (Kd.S_told (Kd.S_old (by (with_reducible repeat (first|apply Kd.S_alloc|apply Kd.S_drewN|apply Kd.S_drew));exact HO_491003.out) hb) (Kd.R_base ho0)) (Kd.R_base ho1)) (fun _ h_=>h_.1));replace HO_491004:=Aside0.mk (Kd.S_mono (Kd.S_told (Kd.S_told (Kd.S_old (by (with_reducible repeat (first|apply Kd.S_alloc|apply Kd.S_drewN|apply Kd.S_drew));exact HO_491004.out) hb) (Kd.R_base ho0)) (Kd.R_base ho1)) (fun _ h_=>h_.1));have HO494:=Aside0.mk (Kd.R_lower ho0 (below_size (bL HB.out)));have HO497:=Aside0.mk (Kd.R_lower ho1 (below_size (bL HB.out)));replace BK488:=bK BK488 hb;replace BK490:=bK BK490 hb;replace HB:=bH HB hb
     (try clear hb)
     (try clear hb2)
     (try clear hk)
     (try clear hi)
     (try clear ho0)
     (try clear ho1)
     obtain ⟨Ao18,co18,eo18⟩:=Kd.R_slice HO494.out
     (first|subst eo18|(injection eo18 with f1_ f2_ f3_;have f4_:=f1_.symm;have f5_:=f3_.symm;clear f1_ f2_ f3_;subst f4_;subst f5_))
     obtain ⟨Ao19,co19,eo19⟩:=Kd.R_slice HO497.out
     (first|subst eo19|(injection eo19 with f1_ f2_ f3_;have f4_:=f1_.symm;have f5_:=f3_.symm;clear f1_ f2_ f3_;subst f4_;subst f5_))
     refine hK.out _ _ (cl5 BK490.out) (fun hHeld=>?_);clear hK K;refine nZ ?_
     refine oN 3 (some 32) rfl rfl fun K hK=>?_
     refine value_ (w1:=?_) (v:=?_) (by rfl) rfl ?_ ?_;rotate_left 2
     ·go_simp
      constructor
      ·rfl
      ·rfl
     refine hK.out _ _ ⟨(blk_cell (blk_alloc BK490.out _) 0).trans rfl,(blk_cell (blk_alloc BK490.out _) 1).trans rfl,(blk_cell (blk_alloc BK490.out _) 2).trans rfl,(blk_cell (blk_alloc BK490.out _) 3).trans rfl,(blk_cell (blk_alloc BK490.out _) 4).trans rfl⟩ (fun hHeld=>?_);clear hK K;refine nZ ?_
     refine oN 4 (some 33) rfl rfl fun K hK=>?_
     refine Kd.S_append_step k63 (w0:=w) w.heap.size (by rfl) (.tmp 30) (.tmp 32) 25 63 (.agg #[(.bool false),(.slice none 0 0),(.slice none 0 0)]) 56 rfl Try.underlying25 info63 rfl (by decide) (by omega) u491003 x491003_1 (⟨t491,t492,t495⟩ : S63) [.bool t491,.slice Ao18 t492.length co18,.slice Ao19 t495.length co19] (fun k_=>some k_≠(u491004 : Value).ownBlock) (fun k_=>some k_=(.slice Ao18 t492.length co18 : Value).ownBlock∨some k_=(.slice Ao19 t495.length co19 : Value).ownBlock) rfl rfl ?aP (fun k_ hk_=>hk_.elim (fun h_=>((Kd.R_mono (ok':=fun k_=>((fun k_=>some k_≠(u491004 : Value).ownBlock)) k_∧some k_≠(u491003 : Value).ownBlock) (Kd.R_apart' (Kd.R_apart' (HO494.out) (Kd.S_typed HO_491004.out) (by decide)) (Kd.S_typed HO_491003.out) (by decide)) (fun k_ hk=>⟨hk.1.2,hk.2⟩))).1 k_ h_.symm) (fun h_=>((Kd.R_mono (ok':=fun k_=>((fun k_=>some k_≠(u491004 : Value).ownBlock)) k_∧some k_≠(u491003 : Value).ownBlock) (Kd.R_apart' (Kd.R_apart' (HO497.out) (Kd.S_typed HO_491004.out) (by decide)) (Kd.S_typed HO_491003.out) (by decide)) (fun k_ hk=>⟨hk.1.2,hk.2⟩))).1 k_ h_.symm)) ?aF ?aO ?aB ?aS ?aL ?_
     (case aP=>exact k63_mkM _ _ _ (⟨t491,t492,t495⟩ : S63) (Kd.R_mono (Kd.R_tight rfl (Kd.R_mono (ok':=fun k_=>((fun k_=>some k_≠(u491004 : Value).ownBlock)) k_∧some k_≠(u491003 : Value).ownBlock) (Kd.R_apart' (Kd.R_apart' (HO494.out) (Kd.S_typed HO_491004.out) (by decide)) (Kd.S_typed HO_491003.out) (by decide)) (fun k_ hk=>⟨hk.1.2,hk.2⟩))) (fun _ h_=>Or.inl h_)) (Kd.R_mono (Kd.R_tight rfl (Kd.R_mono (ok':=fun k_=>((fun k_=>some k_≠(u491004 : Value).ownBlock)) k_∧some k_≠(u491003 : Value).ownBlock) (Kd.R_apart' (Kd.R_apart' (HO497.out) (Kd.S_typed HO_491004.out) (by decide)) (Kd.S_typed HO_491003.out) (by decide)) (fun k_ hk=>⟨hk.1.2,hk.2⟩))) (fun _ h_=>Or.inr (h_))))
     (case aB=>exact (bL HB.out))
     (case aF=>exact (fun k_ hk=>Kd.fresh' (Kd.S_lt (by (with_reducible repeat (first|apply Kd.S_alloc|apply Kd.S_drewN|apply Kd.S_drew));exact HO_491004.out)) k_ hk))
     (case aO=>exact (by (with_reducible repeat (first|apply Kd.S_alloc|apply Kd.S_drewN|apply Kd.S_drew));exact Kd.S_mono HO_491003.out (fun k_ hk=>⟨hk.1.1,fun e_=>e_.elim (fun h_=>hk.1.2 h_) (fun h_=>hk.2 h_)⟩)))
     (case aS=>exact (below_size (bL HB.out)))
     (case aL=>have:=LMc12.out;omega)
     intro v499 w17 ho hb hg hat;rw [← Ny498.out] at ho;replace HO_491004:=Aside0.mk (Kd.S_after (ok:=(fun k_=>some k_≠(.slice Ao18 t492.length co18 : Value).ownBlock∧some k_≠(.slice Ao19 t495.length co19 : Value).ownBlock)) (by (with_reducible repeat (first|apply Kd.S_alloc|apply Kd.S_drewN|apply Kd.S_drew));exact Kd.S_mono HO_491004.out (fun _ hk=>⟨⟨hk.1.2,hk.2⟩,hk.1.1⟩)) hg hat);replace BK488:=Aside0.mk (blk_grown (g:=gb488) (o:=.cells #[.int .i64 0,.int .i64 0,.int .i64 0,.slice none 0 0,.slice none 0 0] 27 (0,0)) (Bu BK488.out) hg (Kd.S_ne HO_491003.out BK488.out (by decide)));replace BK490:=Aside0.mk (blk_grown (g:=gb490) (o:=.cells #[.int .i64 a0,.int .i64 a1,.int .i64 a2,u491003,u491004] 27 (0,0)) (Bu BK490.out) hg (Kd.S_ne HO_491003.out BK490.out (by decide)));replace HB:=Aside0.mk hb;have HO500:=Aside0.mk ho;clear HO_491003 HO494 HO497;clear ho hb hg hat;obtain ⟨Ao20,co20,eo20⟩:=Kd.S_slice HO500.out
     (first|subst eo20|(injection eo20 with f1_ f2_ f3_;have f4_:=f1_.symm;have f5_:=f3_.symm;clear f1_ f2_ f3_;subst f4_;subst f5_))
     refine hK.out _ _ (cl5 BK490.out) (fun hHeld=>?_);clear hK K;refine nZ ?_;refine zp 5 34 ?_
     refine lN 6 (none) rfl rfl fun K hK=>?_
     have hs21 : w17.cell? ⟨gb490,3,none⟩=some (u491003):=(blk_cell BK490.out 3).trans rfl;have hfs21:=blk_frozen BK490.out 3;have hns21_0:=NB488_490.out;have hms21_0:=NB490_488.out;refine skip_ (w1:=?_) (by rfl) rfl ?_ ?_;rotate_left
     ·go_simp
      rfl
     refine hK.out _ _ ?_;clear hK K;refine dN ?_
     try go_wp2
     have n0_ : Aside0 (Kd.S k63 63 (w17.setCell ⟨gb490,3,none⟩ (.slice Ao20 y498.length co20)) w.heap.size (fun k_=>some k_≠(.slice Ao20 y498.length co20 : Value).ownBlock) u491004 x491004_1):=⟨by (with_reducible repeat (first|apply Kd.S_alloc|apply Kd.S_drewN|apply Kd.S_drew));exact Kd.S_mono (Kd.S_far (p:=⟨gb490,3,none⟩) (Kd.S_types HO_491004.out BK490.out (by decide)) (fun _ hk=>hk.2) (.slice Ao20 y498.length co20)) (fun _ hk=>hk.1.2)⟩;have n1_ : Aside0 (Kd.S k63 63 (w17.setCell ⟨gb490,3,none⟩ (.slice Ao20 y498.length co20)) w.heap.size (fun k_=>some k_≠(u491004 : Value).ownBlock) (.slice Ao20 y498.length co20) y498):=⟨by (with_reducible repeat (first|apply Kd.S_alloc|apply Kd.S_drewN|apply Kd.S_drew));exact Kd.S_mono (Kd.S_far (p:=⟨gb490,3,none⟩) (Kd.S_types HO500.out BK490.out (by decide)) (fun _ hk=>hk.2) (.slice Ao20 y498.length co20)) (fun _ hk=>hk.1)⟩;have n2_ : Aside0 ((w17.setCell ⟨gb490,3,none⟩ (.slice Ao20 y498.length co20)).heap[gb488]? = some (.cells #[.int .i64 0,.int .i64 0,.int .i64 0,.slice none 0 0,.slice none 0 0] 27 (0,0))):=⟨fT NB488_490.out BK488.out⟩;have n3_ : Aside0 ((w17.setCell ⟨gb490,3,none⟩ (.slice Ao20 y498.length co20)).heap[gb490]? = some (.cells #[.int .i64 a0,.int .i64 a1,.int .i64 a2,.slice Ao20 y498.length co20,u491004] 27 (0,0))):=⟨by (with_reducible repeat (first|refine blk_drewN ?_ _|refine blk_drew ?_|refine blk_alloc ?_ _));refine blk_put (cs:=#[.int .i64 a0,.int .i64 a1,.int .i64 a2,u491003,u491004]) ?_ 3 _ rfl;(with_reducible repeat (first|refine blk_drewN ?_ _|refine blk_drew ?_|refine blk_alloc ?_ _));exact BK490.out⟩
     have n4_ : Aside0 (Below w.heap.size w (w17.setCell ⟨gb490,3,none⟩ (.slice Ao20 y498.length co20))):=⟨bL HB.out⟩
     (try clear HO_491004)
     (try clear HO500)
     (try clear BK488)
     (try clear BK490)
     (try clear HB)
     generalize (w17.setCell ⟨gb490,3,none⟩ (.slice Ao20 y498.length co20))=w22 at n0_ n1_ n2_ n3_ n4_ ⊢;have HO_491004:=n0_;have HO500:=n1_;have BK488:=n2_;have BK490:=n3_;have HB:=n4_;clear n0_ n1_ n2_ n3_ n4_;replace HO_491004:=Aside0.mk (Kd.S_drew HO_491004.out);replace HO500:=Aside0.mk (Kd.S_drew HO500.out);replace BK488:=Aside0.mk (blk_drew BK488.out);replace BK490:=Aside0.mk (blk_drew BK490.out);replace HB:=Aside0.mk (b1 HB.out);refine sT (n:=7) (S:=fun w'=>w'.cell? ⟨gb490,0,none⟩=some (.int .i64 a0)∧w'.cell? ⟨gb490,1,none⟩=some (.int .i64 a1)∧w'.cell? ⟨gb490,2,none⟩=some (.int .i64 a2)∧w'.cell? ⟨gb490,3,none⟩=some (.slice Ao20 y498.length co20)∧w'.cell? ⟨gb490,4,none⟩=some (u491004)) (ds:=[6]) (by kernel_rfl) rfl (cl5 BK490.out) (fun hHeld=>?_);generalize w22.drew=w23 at HO_491004 HO500 BK488 BK490 HB hHeld ⊢;refine zp 0 35 ?_;refine zt 1 36 ?_
     refine oN 2 (some 37) rfl rfl fun K hK=>?_
     refine gS Try.func36 #[] ?_
     with_reducible refine (penumbraref03_Zero.calls  t501 t502 t505 _ A13.out).mono ?_
     rintro e w24 ⟨v503,v506,rfl,ho0,ho1,hb⟩;refine ⟨_,rfl,?_⟩;replace HO_491004:=Aside0.mk (Kd.S_mono (Kd.S_told (Kd.S_told (Kd.S_old (by (with_reducible repeat (first|apply Kd.S_alloc|apply Kd.S_drewN|apply Kd.S_drew));exact HO_491004.out) hb) (Kd.R_base ho0)) (Kd.R_base ho1)) (fun _ h_=>h_.1));replace HO500:=Aside0.mk (Kd.S_mono (Kd.S_told (Kd.S_told (Kd.S_old (by (with_reducible repeat (first|apply Kd.S_alloc|apply Kd.S_drewN|apply Kd.S_drew));exact HO500.out) hb) (Kd.R_base ho0)) (Kd.R_base ho1)) (fun _ h_=>h_.1));have HO504:=Aside0.mk (Kd.R_lower ho0 (below_size (bL HB.out)));have HO507:=Aside0.mk (Kd.R_lower ho1 (below_size (bL HB.out)));replace BK488:=bK BK488 hb;replace BK490:=bK BK490 hb;replace HB:=bH HB hb
     (try clear hb)
     (try clear hb2)
     (try clear hk)
     (try clear hi)
     (try clear ho0)
     (try clear ho1)
     obtain ⟨Ao26,co26,eo26⟩:=Kd.R_slice HO504.out
     (first|subst eo26|(injection eo26 with f1_ f2_ f3_;have f4_:=f1_.symm;have f5_:=f3_.symm;clear f1_ f2_ f3_;subst f4_;subst f5_))
     obtain ⟨Ao27,co27,eo27⟩:=Kd.R_slice HO507.out
     (first|subst eo27|(injection eo27 with f1_ f2_ f3_;have f4_:=f1_.symm;have f5_:=f3_.symm;clear f1_ f2_ f3_;subst f4_;subst f5_))
     refine hK.out _ _ (cl5 BK490.out) (fun hHeld=>?_);clear hK K;refine nZ ?_
     refine oN 3 (some 38) rfl rfl fun K hK=>?_
     refine value_ (w1:=?_) (v:=?_) (by rfl) rfl ?_ ?_;rotate_left 2
     ·go_simp
      constructor
      ·rfl
      ·rfl
     refine hK.out _ _ ⟨(blk_cell (blk_alloc BK490.out _) 0).trans rfl,(blk_cell (blk_alloc BK490.out _) 1).trans rfl,(blk_cell (blk_alloc BK490.out _) 2).trans rfl,(blk_cell (blk_alloc BK490.out _) 3).trans rfl,(blk_cell (blk_alloc BK490.out _) 4).trans rfl⟩ (fun hHeld=>?_);clear hK K;refine nZ ?_
     refine oN 4 (some 39) rfl rfl fun K hK=>?_
     refine Kd.S_append_step k63 (w0:=w) w.heap.size (by rfl) (.tmp 36) (.tmp 38) 25 63 (.agg #[(.bool false),(.slice none 0 0),(.slice none 0 0)]) 56 rfl Try.underlying25 info63 rfl (by decide) (by omega) u491004 x491004_1 (⟨t501,t502,t505⟩ : S63) [.bool t501,.slice Ao26 t502.length co26,.slice Ao27 t505.length co27] (fun k_=>some k_≠(.slice Ao20 y498.length co20 : Value).ownBlock) (fun k_=>some k_=(.slice Ao26 t502.length co26 : Value).ownBlock∨some k_=(.slice Ao27 t505.length co27 : Value).ownBlock) rfl rfl ?aP (fun k_ hk_=>hk_.elim (fun h_=>((Kd.R_mono (ok':=fun k_=>((fun k_=>some k_≠(.slice Ao20 y498.length co20 : Value).ownBlock)) k_∧some k_≠(u491004 : Value).ownBlock) (Kd.R_apart' (Kd.R_apart' (HO504.out) (Kd.S_typed HO500.out) (by decide)) (Kd.S_typed HO_491004.out) (by decide)) (fun k_ hk=>⟨hk.1.2,hk.2⟩))).1 k_ h_.symm) (fun h_=>((Kd.R_mono (ok':=fun k_=>((fun k_=>some k_≠(.slice Ao20 y498.length co20 : Value).ownBlock)) k_∧some k_≠(u491004 : Value).ownBlock) (Kd.R_apart' (Kd.R_apart' (HO507.out) (Kd.S_typed HO500.out) (by decide)) (Kd.S_typed HO_491004.out) (by decide)) (fun k_ hk=>⟨hk.1.2,hk.2⟩))).1 k_ h_.symm)) ?aF ?aO ?aB ?aS ?aL ?_
     (case aP=>exact k63_mkM _ _ _ (⟨t501,t502,t505⟩ : S63) (Kd.R_mono (Kd.R_tight rfl (Kd.R_mono (ok':=fun k_=>((fun k_=>some k_≠(.slice Ao20 y498.length co20 : Value).ownBlock)) k_∧some k_≠(u491004 : Value).ownBlock) (Kd.R_apart' (Kd.R_apart' (HO504.out) (Kd.S_typed HO500.out) (by decide)) (Kd.S_typed HO_491004.out) (by decide)) (fun k_ hk=>⟨hk.1.2,hk.2⟩))) (fun _ h_=>Or.inl h_)) (Kd.R_mono (Kd.R_tight rfl (Kd.R_mono (ok':=fun k_=>((fun k_=>some k_≠(.slice Ao20 y498.length co20 : Value).ownBlock)) k_∧some k_≠(u491004 : Value).ownBlock) (Kd.R_apart' (Kd.R_apart' (HO507.out) (Kd.S_typed HO500.out) (by decide)) (Kd.S_typed HO_491004.out) (by decide)) (fun k_ hk=>⟨hk.1.2,hk.2⟩))) (fun _ h_=>Or.inr (h_))))
     (case aB=>exact (bL HB.out))
     (case aF=>exact (fun k_ hk=>Kd.fresh' (Kd.S_lt (by (with_reducible repeat (first|apply Kd.S_alloc|apply Kd.S_drewN|apply Kd.S_drew));exact HO500.out)) k_ hk))
     (case aO=>exact (by (with_reducible repeat (first|apply Kd.S_alloc|apply Kd.S_drewN|apply Kd.S_drew));exact Kd.S_mono HO_491004.out (fun k_ hk=>⟨hk.1.1,fun e_=>e_.elim (fun h_=>hk.1.2 h_) (fun h_=>hk.2 h_)⟩)))
     (case aS=>exact (below_size (bL HB.out)))
     (case aL=>have:=LMc14.out;omega)
     intro v509 w25 ho hb hg hat;rw [← Ny508.out] at ho;replace BK488:=Aside0.mk (blk_grown (g:=gb488) (o:=.cells #[.int .i64 0,.int .i64 0,.int .i64 0,.slice none 0 0,.slice none 0 0] 27 (0,0)) (Bu BK488.out) hg (Kd.S_ne HO_491004.out BK488.out (by decide)));replace BK490:=Aside0.mk (blk_grown (g:=gb490) (o:=.cells #[.int .i64 a0,.int .i64 a1,.int .i64 a2,.slice Ao20 y498.length co20,u491004] 27 (0,0)) (Bu BK490.out) hg (Kd.S_ne HO_491004.out BK490.out (by decide)));replace HO500:=Aside0.mk (Kd.S_after (ok:=(fun k_=>some k_≠(.slice Ao26 t502.length co26 : Value).ownBlock∧some k_≠(.slice Ao27 t505.length co27 : Value).ownBlock)) (by (with_reducible repeat (first|apply Kd.S_alloc|apply Kd.S_drewN|apply Kd.S_drew));exact Kd.S_mono HO500.out (fun _ hk=>⟨⟨hk.1.2,hk.2⟩,hk.1.1⟩)) hg hat);replace HB:=Aside0.mk hb;have HO510:=Aside0.mk ho;clear HO_491004 HO504 HO507;clear ho hb hg hat;obtain ⟨Ao28,co28,eo28⟩:=Kd.S_slice HO510.out
     (first|subst eo28|(injection eo28 with f1_ f2_ f3_;have f4_:=f1_.symm;have f5_:=f3_.symm;clear f1_ f2_ f3_;subst f4_;subst f5_))
     refine hK.out _ _ (cl5 BK490.out) (fun hHeld=>?_);clear hK K;refine nZ ?_;refine zp 5 40 ?_
     refine lN 6 (none) rfl rfl fun K hK=>?_
     have hs29 : w25.cell? ⟨gb490,4,none⟩=some (u491004):=(blk_cell BK490.out 4).trans rfl;have hfs29:=blk_frozen BK490.out 4;have hns29_0:=NB488_490.out;have hms29_0:=NB490_488.out;refine skip_ (w1:=?_) (by rfl) rfl ?_ ?_;rotate_left
     ·go_simp
      rfl
     refine hK.out _ _ ?_;clear hK K;refine dN ?_
     try go_wp2
     go_roundg k1
     case measure=>have:=HK1.out;omega
     case rel=>exact ⟨(wrap64 (x9_1+1)),(y498),(y508),(.slice Ao20 y498.length co20),(.slice Ao28 y508.length co28),sD,H',⟨by have:=HK1.out;omega⟩,⟨by (with_reducible repeat (first|apply Kd.S_alloc|apply Kd.S_drewN|apply Kd.S_drew));exact Kd.S_mono (Kd.S_far (p:=⟨gb490,4,none⟩) (Kd.S_types HO500.out BK490.out (by decide)) (fun _ hk=>hk.2) (.slice Ao28 y508.length co28)) (fun _ hk=>hk.1.2)⟩,⟨by (with_reducible repeat (first|apply Kd.S_alloc|apply Kd.S_drewN|apply Kd.S_drew));exact Kd.S_mono (Kd.S_far (p:=⟨gb490,4,none⟩) (Kd.S_types HO510.out BK490.out (by decide)) (fun _ hk=>hk.2) (.slice Ao28 y508.length co28)) (fun _ hk=>hk.1)⟩,⟨fT NB488_490.out BK488.out⟩,⟨by (with_reducible repeat (first|refine blk_drewN ?_ _|refine blk_drew ?_|refine blk_alloc ?_ _));refine blk_put (cs:=#[.int .i64 a0,.int .i64 a1,.int .i64 a2,.slice Ao20 y498.length co20,u491004]) ?_ 4 _ rfl;(with_reducible repeat (first|refine blk_drewN ?_ _|refine blk_drew ?_|refine blk_alloc ?_ _));exact BK490.out⟩,⟨bL HB.out⟩⟩
    ·rw [if_neg c10] at H
     have c10b0 : decide (x9_1 < (wrap64 ((wrap64 (a0 * a1)) * a2)))=false:=decide_eq_false c10;clear c10;simp only [Option.some.injEq,Prod.mk.injEq] at H;obtain ⟨rfl,rfl,rfl,rfl,rfl,rfl⟩:=H;have hnb30:=NB490_488.out;have hnc30:=NB488_490.out;obtain ⟨hcz31_0,hcz31_1,hcz31_2,hcz31_3,hcz31_4⟩:=cl5 BK490.out;obtain ⟨hfz31_0,hfz31_1,hfz31_2,hfz31_3,hfz31_4⟩:=fr5 BK490.out;obtain ⟨hcz32_0,hcz32_1,hcz32_2,hcz32_3,hcz32_4⟩:=cl5 BK488.out;obtain ⟨hfz32_0,hfz32_1,hfz32_2,hfz32_3,hfz32_4⟩:=fr5 BK488.out;obtain ⟨Ao33,co33,eo33⟩:=Kd.S_slice HO_491003.out;subst eo33;obtain ⟨Ao34,co34,eo34⟩:=Kd.S_slice HO_491004.out;subst eo34
     go_wp2
     refine bodyPost_ret (results_ct rfl _ _ gb488 27 #[.int .i64 a0,.int .i64 a1,.int .i64 a2,.slice Ao33 x491003_1.length co33,.slice Ao34 x491004_1.length co34] (0,0) _ rfl (pU BK488.out) Try.underlying27 rfl (by kernel_rfl)) rfl ?_;exact ⟨_,_,eW,by (with_reducible repeat (first|apply Kd.S_alloc|apply Kd.S_drewN|apply Kd.S_drew));exact Kd.S_mono (Kd.S_far (p:=⟨gb488,4,none⟩) (Kd.S_far (p:=⟨gb488,3,none⟩) (Kd.S_far (p:=⟨gb488,2,none⟩) (Kd.S_far (p:=⟨gb488,1,none⟩) (Kd.S_far (p:=⟨gb488,0,none⟩) (Kd.S_types HO_491003.out BK488.out (by decide)) (fun _ hk=>hk.2) (.int .i64 a0)) (fun _ hk=>hk.2) (.int .i64 a1)) (fun _ hk=>hk.2) (.int .i64 a2)) (fun _ hk=>hk.2) (.slice Ao33 x491003_1.length co33)) (fun _ hk=>hk.2) (.slice Ao34 x491004_1.length co34)) (fun _ hk=>hk.1),by (with_reducible repeat (first|apply Kd.S_alloc|apply Kd.S_drewN|apply Kd.S_drew));exact Kd.S_mono (Kd.S_far (p:=⟨gb488,4,none⟩) (Kd.S_far (p:=⟨gb488,3,none⟩) (Kd.S_far (p:=⟨gb488,2,none⟩) (Kd.S_far (p:=⟨gb488,1,none⟩) (Kd.S_far (p:=⟨gb488,0,none⟩) (Kd.S_types HO_491004.out BK488.out (by decide)) (fun _ hk=>hk.2) (.int .i64 a0)) (fun _ hk=>hk.2) (.int .i64 a1)) (fun _ hk=>hk.2) (.int .i64 a2)) (fun _ hk=>hk.2) (.slice Ao33 x491003_1.length co33)) (fun _ hk=>hk.2) (.slice Ao34 x491004_1.length co34)) (fun _ hk=>hk.1),bL HB.out⟩
 ·replace c5:=Bool.eq_false_iff.mpr c5
  subst c5;rw [if_neg (show ¬ (false=true) by decide)] at H;simp only [Option.some.injEq,Prod.mk.injEq] at H;obtain ⟨rfl,rfl,rfl,rfl,rfl,rfl⟩:=H
  go_enter Try.func20,Try.ntmps20
  go_wp2_with (first|((with_reducible refine gate_dst (N:=6) rfl ?_);refine boxA #[.int .i64 0,.int .i64 0,.int .i64 0,.slice none 0 0,.slice none 0 0] 27 ?_;intro gb488 hg w35 hbox hb;have BK488:=Aside0.mk hbox;have GW488:=Aside0.mk ((by rw [hg];exact (below_size (bL HB.out)) : w.heap.size≤gb488));have GE488:=Aside0.mk ((by rw [hg];exact (below_size (bL HB.out)) : w.heap.size≤gb488));replace HB:=bH HB hb;clear hb hbox hg)|((with_reducible refine gate_callee (f:=35) rfl ?_);refine gL (some 13) Try.func35 #[.int .i64 a0,.int .i64 a1,.int .i64 a2] ?_;(with_reducible refine (penumbraref20_Sizes.calls a0 a1 a2 false _ A4.out).mono ?_);rintro e w' ⟨rfl,⟨nd,rfl⟩⟩;refine ⟨_,rfl,?_⟩;(try (rw [drewN_self w35];generalize hq_ : World.drewN w35 _=w35;have n0_ : Aside0 (w35.heap[gb488]? = some (.cells #[.int .i64 0,.int .i64 0,.int .i64 0,.slice none 0 0,.slice none 0 0] 27 (0,0))):=⟨by rw [← hq_];exact (Bu BK488.out)⟩;have n1_ : Aside0 (Below w.heap.size w w35):=⟨by rw [← hq_];exact (bL HB.out)⟩;clear BK488 HB hq_;have BK488:=n0_;have HB:=n1_;clear n0_ n1_));obtain ⟨hcz36_0,hcz36_1,hcz36_2,hcz36_3,hcz36_4⟩:=cl5 BK488.out;obtain ⟨hfz36_0,hfz36_1,hfz36_2,hfz36_3,hfz36_4⟩:=fr5 BK488.out))
  refine bodyPost_ret (results_ct rfl _ _ gb488 27 #[.int .i64 0,.int .i64 0,.int .i64 0,.slice none 0 0,.slice none 0 0] (0,0) _ rfl (pU BK488.out) Try.underlying27 rfl (by kernel_rfl)) rfl ?_;exact ⟨_,_,eW,by first|exact Kd.S_nil _ _ _ _ _|exact Kd.N_nil _ _ _ _ _|exact Kd.V_nil _ _ _ _ _|exact Kd.Q_nil _ _ _ _ _|exact Kd.R_nil _ _ _ _ _,by first|exact Kd.S_nil _ _ _ _ _|exact Kd.N_nil _ _ _ _ _|exact Kd.V_nil _ _ _ _ _|exact Kd.Q_nil _ _ _ _ _|exact Kd.R_nil _ _ _ _ _,bL HB.out⟩
end Go.Proofs.Ytjiaobcoeegioaa.Pq
end
section
namespace Go.Proofs.Ytjiaobcoeegioaa.N
open Go Go.RowKit Go.Proofs.YtjiaobcoeegioaaW.PrintWords Go.Proofs.YtjiaobcoeegioaaW.PrintLast Go.Proofs.YtjiaobcoeegioaaW.PrintMore Go.Proofs.Ytjiaobcoeegioaa.Pq
theorem sizes20 (w h b : Int) : penumbraref20_Sizes.f w h b=some (szs w h b):=by
 unfold penumbraref20_Sizes.f szs
 by_cases h1 : 1≤w
 ·rw [if_pos h1,decide_eq_true h1]
  by_cases h2 : w≤16
  ·rw [if_pos h2,decide_eq_true h2]
   by_cases h3 : 1≤h
   ·rw [if_pos h3,decide_eq_true h3]
    by_cases h4 : h≤16
    ·rw [if_pos h4,decide_eq_true h4]
     by_cases h5 : 1≤b
     ·rw [if_pos h5,decide_eq_true h5];simp
     ·rw [if_neg h5,decide_eq_false h5];simp
    ·rw [if_neg h4,decide_eq_false h4];simp
   ·rw [if_neg h3,decide_eq_false h3];simp
  ·rw [if_neg h2,decide_eq_false h2];simp
 ·rw [if_neg h1,decide_eq_false h1];simp
theorem check20_l {n : Nat} (hn : n < 10000000) (W h b : Int) {xs ys : List RatS} (hl : xs.length=ys.length) (hm : xs.length < 4611686018427387904) (hx : ∀ x∈xs,Wf n x) (hy : ∀ x∈ys,Wf n x) : ∀ (d i : Nat),xs.length - i=d→i≤xs.length →
  Ev (fun k=>penumbraref20_Check.l0 k (i : Int) W h b xs ys) ((xs.drop i).all chk && (ys.drop i).all chk):=by
 intro d
 induction d with
 | zero =>
  intro i hd hi
  obtain rfl : i=xs.length:=by omega
  refine Ev_up ?_;simp only [penumbraref20_Check.l0];refine Ev_neg (by omega) ?_;rw [List.drop_length,hl,List.drop_length];exact Ev.now _
 | succ d ih =>
  intro i hd hi
  have h1 : i < xs.length:=by omega
  have h2 : i < ys.length:=by omega
  have g1 : (i : Int) < (xs.length : Int):=by omega
  have g2 : 0≤(i : Int):=by omega
  have g3 : (i : Int) < (ys.length : Int):=by omega
  have hw : wrap64 ((i : Int)+1)=((i+1 : Nat) : Int):=by clear ih hx hy;unfold wrap64;omega
  have r1 : rd_T63 xs (i : Int)=xs[i]:=by unfold rd_T63;rw [Int.toNat_natCast,List.getD_eq_getElem?_getD,List.getElem?_eq_getElem h1];rfl
  have r2 : rd_T63 ys (i : Int)=ys[i]:=by unfold rd_T63;rw [Int.toNat_natCast,List.getD_eq_getElem?_getD,List.getElem?_eq_getElem h2];rfl
  refine Ev_up ?_;simp only [penumbraref20_Check.l0];refine Ev_pos g1 (Ev_pos g2 ?_);rw [r1,r2,hw,List.drop_eq_getElem_cons h1,List.drop_eq_getElem_cons h2,List.all_cons,List.all_cons];refine Ev.bind (check03 (hx _ (List.getElem_mem h1)) hn) ?_;cases hc : chk xs[i]
  ·exact Ev_neg (by simp) (Ev.now _)
  ·refine Ev_pos rfl (Ev_pos g3 ?_)
   refine Ev.bind (check03 (hy _ (List.getElem_mem h2)) hn) ?_;cases hc2 : chk ys[i]
   ·rw [Bool.false_and,Bool.and_false]
    exact Ev_neg (by simp) (Ev.now _)
   ·rw [Bool.true_and,Bool.true_and]
    exact Ev_pos rfl (ih (i+1) (by omega) (by omega))
theorem check20_f {n : Nat} (hn : n < 10000000) {F : S27} (hF : WfF n F) (h3 : F.f3.length < 4611686018427387904) (h4 : F.f4.length < 4611686018427387904) : Ev (fun k=>penumbraref20_Check.f k F.f0 F.f1 F.f2 F.f3 F.f4) (chkF F):=by
 obtain ⟨W,h,b,xs,ys⟩:=F;dsimp only at h3 h4 ⊢
 have jT : Ev (fun k=>penumbraref20_Check.j0 k true W h b xs ys) false:=by
  refine Ev_up ?_;simp only [penumbraref20_Check.j0];exact Ev_pos trivial (Ev.now _)
 unfold penumbraref20_Check.f chkF;dsimp only;refine Ev_some (sizes20 W h b) ?_;cases hs : szs W h b
 ·rw [Bool.false_and,Bool.false_and,Bool.false_and,Bool.false_and]
  exact Ev_neg (by simp) jT
 ·rw [Bool.true_and]
  refine Ev_pos rfl ?_
  have hp : 0≤W * h∧W * h≤256∧0≤W * h * b∧W * h * b≤2048:=by
   simp only [szs,Bool.and_eq_true,decide_eq_true_eq] at hs;obtain ⟨⟨⟨⟨⟨h1,h2⟩,h3⟩,h4⟩,h5⟩,h6⟩:=hs;have a1 : W * h≤16 * 16:=Int.mul_le_mul h2 h4 (by omega) (by omega);have a0 : 0≤W * h:=Int.mul_nonneg (by omega) (by omega);have a3 : W * h * b≤256 * 8:=Int.mul_le_mul (by omega) h6 (by omega) (by omega);exact ⟨a0,by omega,Int.mul_nonneg a0 (by omega),by omega⟩
  have w1 : wrap64 (W * h)=W * h:=by have h1:=hp.1;have h2:=hp.2.1;clear hp;unfold wrap64;omega
  have w2 : wrap64 (W * h * b)=W * h * b:=by have h1:=hp.2.2.1;have h2:=hp.2.2.2;clear hp w1;unfold wrap64;omega
  rw [w1,w2]
  by_cases e3 : (xs.length : Int)=W * h * b
  ·rw [decide_eq_true e3,Bool.true_and]
   refine Ev_pos e3 ?_
   by_cases e4 : (ys.length : Int)=W * h * b
   ·rw [decide_eq_true e4,Bool.true_and]
    have he : ((ys.length : Int) != (xs.length : Int))=false:=by rw [e3,e4];simp
    rw [he];refine Ev_up ?_;simp only [penumbraref20_Check.j0];refine Ev_neg (by simp) ?_;have h0:=check20_l hn W h b (xs:=xs) (ys:=ys) (by omega) h3 hF.1 hF.2 xs.length 0 rfl (Nat.zero_le _);rw [List.drop_zero,List.drop_zero] at h0;exact h0
   ·rw [decide_eq_false e4,Bool.false_and,Bool.false_and]
    have he : ((ys.length : Int) != (xs.length : Int))=true:=bne_iff_ne.mpr (by omega);rw [he];exact jT
  ·rw [decide_eq_false e3,Bool.false_and,Bool.false_and,Bool.false_and]
   exact Ev_neg e3 jT
theorem new20_l (W h b : Int) {M : Nat} (hM : (M : Int)=W * h * b) (hm : M≤2048) (w1 : wrap64 (W * h)=W * h) (w2 : wrap64 (W * h * b)=W * h * b) : ∀ (d i : Nat),M - i=d→i≤M →
  Ev (fun k=>penumbraref20_New.l0 k W h b (i : Int) W h b (List.replicate i (mkR 0)) (List.replicate i (mkR 0))) (W,h,b,List.replicate M (mkR 0),List.replicate M (mkR 0),true):=by
 have ez : penumbraref03_Zero.f=some (false,[],[1]):=rfl
 have em : mkR 0=⟨false,[],[1]⟩:=by unfold mkR;rw [cq_zero]
 intro d
 induction d with
 | zero =>
  intro i hd hi
  obtain rfl : i=M:=by omega
  refine Ev_up ?_;simp only [penumbraref20_New.l0];rw [w1,w2];exact Ev_neg (by omega) (Ev.now _)
 | succ d ih =>
  intro i hd hi
  have hw : wrap64 ((i : Int)+1)=((i+1 : Nat) : Int):=by clear ih w1 w2;unfold wrap64;omega
  refine Ev_up ?_;simp only [penumbraref20_New.l0];rw [w1,w2];refine Ev_pos (by omega) ?_;refine Ev_some ez (Ev_pos (by rw [List.length_replicate];omega) (Ev_some ez (Ev_pos (by rw [List.length_replicate];omega) ?_)));rw [hw];have e:=ih (i+1) (by omega) (by omega);rw [List.replicate_succ' (n:=i),em] at e;rw [em];exact e
theorem new20_f {W h b : Int} {M : Nat} (hs : szs W h b=true) (hM : (M : Int)=W * h * b) (hm : M≤2048) (hp : 0≤W * h∧W * h≤256) : Ev (fun k=>penumbraref20_New.f k W h b) (W,h,b,List.replicate M (mkR 0),List.replicate M (mkR 0),true):=by
 have w1 : wrap64 (W * h)=W * h:=by have h1:=hp.1;have h2:=hp.2;clear hp hM;unfold wrap64;omega
 have w2 : wrap64 (W * h * b)=W * h * b:=by rw [← hM];clear w1 hp hM;unfold wrap64;omega
 unfold penumbraref20_New.f;refine Ev_some (sizes20 W h b) ?_;rw [hs];exact Ev_pos rfl (new20_l W h b hM hm w1 w2 M 0 rfl (Nat.zero_le _))
theorem new20_no {W h b : Int} (hs : szs W h b=false) : Ev (fun k=>penumbraref20_New.f k W h b) (0,0,0,[],[],false):=by
 unfold penumbraref20_New.f;refine Ev_some (sizes20 W h b) ?_;rw [hs];exact Ev_neg (by simp) (Ev.now _)
end Go.Proofs.Ytjiaobcoeegioaa.N
end
section
namespace Go.Proofs.Ytjiaobcoeegioaa.Pq
open Go.RowKit Go.Proofs.YtjiaobcoeegioaaW.PrintWords Go.Proofs.YtjiaobcoeegioaaW.PrintLast Go.Proofs.YtjiaobcoeegioaaW.PrintMore Go.Proofs.Ytjiaobcoeegioaa.N
theorem FRow.of_R {w : World} {base : Nat} {ok : Nat→Prop} {v : Value} {xs : List S63} (h : Kd.R k63 63 w base ok v xs) : FRow w base v xs:=by
 obtain ⟨h0,inner,ho,hr⟩:=h;refine ⟨inner,ho,⟨fun W' k=>⟨hr.1,fun j p hj=>?_⟩⟩⟩;have hm:=k63.M_bound (hr.2 j p hj);refine k63.K_of_M (k63.M_move (w1:=W') (fun i hi=>?_) hm);obtain ⟨_,_,_,q,hq,cells,hc⟩:=hi
 exact k.k.2 i cells q (0,0) hc (by
  have : q∈[82,82]:=hq
  simpa using this)
def AddTo (x u X : S63) : Prop:=∀ (A1 A2 B1 B2 : Option Addr) (a1 a2 b1 b2 : Nat) (w : World),k63.K w x [.bool x.f0,.slice A1 x.f1.length a1,.slice A2 x.f2.length a2]→k63.K w u [.bool u.f0,.slice B1 u.f1.length b1,.slice B2 u.f2.length b2] →
 Calls Try.prog 39 #[.agg #[.bool x.f0,.slice A1 x.f1.length a1,.slice A2 x.f2.length a2],.agg #[.bool u.f0,.slice B1 u.f1.length b1,.slice B2 u.f2.length b2]] w fun e w'=>∃ P1 p1 P2 p2,e=.returned (.agg #[.bool X.f0,.slice P1 X.f1.length p1,.slice P2 X.f2.length p2])∧XK w' X [.bool X.f0,.slice P1 X.f1.length p1,.slice P2 X.f2.length p2]∧Below w.heap.size w w'
theorem AddTo.go {x u X : S63} (h : AddTo x u X) {A1 A2 B1 B2 : Option Addr} {a1 a2 b1 b2 : Nat} {w : World} (kx : k63.K w x [.bool x.f0,.slice A1 x.f1.length a1,.slice A2 x.f2.length a2]) (ku : k63.K w u [.bool u.f0,.slice B1 u.f1.length b1,.slice B2 u.f2.length b2]) :
  Calls Try.prog 39 #[.agg #[.bool x.f0,.slice A1 x.f1.length a1,.slice A2 x.f2.length a2],.agg #[.bool u.f0,.slice B1 u.f1.length b1,.slice B2 u.f2.length b2]] w fun e w'=>∃ P1 p1 P2 p2,e=.returned (.agg #[.bool X.f0,.slice P1 X.f1.length p1,.slice P2 X.f2.length p2])∧XK w' X [.bool X.f0,.slice P1 X.f1.length p1,.slice P2 X.f2.length p2]∧Below w.heap.size w w':=h _ _ _ _ _ _ _ _ w kx ku
theorem K63 {w : World} {x : S63} {A1 A2 : Option Addr} {a1 a2 : Nat} (h : k63.K w x [.bool x.f0,.slice A1 x.f1.length a1,.slice A2 x.f2.length a2]) : x.f1.length≤a1∧(Kd.int .u32).C w A1 x.f1.length x.f1∧x.f2.length≤a2∧(Kd.int .u32).C w A2 x.f2.length x.f2:=by
 obtain ⟨B1,b1,B2,b2,e,l1,g1,l2,g2⟩:=k63_open h
 injection e with _ e
 injection e with e1 e
 injection e with e2 _
 injection e1 with h1 _ h2
 injection e2 with h3 _ h4
 subst h1 h2 h3 h4;exact ⟨l1,g1,l2,g2⟩
theorem addR {p r : Rat} (hp : sz1 p < 10000000) (hr : sz1 r < 10000000) : AddTo (mkR p) (mkR r) (mkR (p+r)):=by
 intro A1 A2 B1 B2 a1 a2 b1 b2 w kx ku;obtain ⟨l1,g1,l2,g2⟩:=K63 kx;obtain ⟨l3,g3,l4,g4⟩:=K63 ku;obtain ⟨k,hk⟩:=(add03 (wf_mkR p) (wf_mkR r) hp hr).rounds;rw [qOf_mkR,qOf_mkR] at hk;refine (penumbraref03_Add.calls k _ A1 a1 _ A2 a2 _ _ B1 b1 _ B2 b2 _ _ _ _ w g1 l1 g2 l2 g3 l3 g4 l4 hk).mono ?_;rintro e w1 ⟨v1,v2,rfl,h1,h2,hb⟩;obtain ⟨A3,c3,rfl,l3,g3⟩:=madeT h1;obtain ⟨A4,c4,rfl,l4,g4⟩:=madeT h2;exact ⟨_,_,_,_,rfl,XK.mk (x:=mkR (p+r)) l3 l4 g3 g4,hb⟩
theorem check20_sem {n : Nat} (hn : n < 10000000) {F : S27} (hF : WfF n F) {b : Bool} (hc : chkF F=b) {A3 A4 : Option Addr} {c3 c4 : Nat} {w : World} (l3 : F.f3.length≤c3) (l4 : F.f4.length≤c4) (h3 : Kd.C k63 w A3 F.f3.length F.f3) (h4 : Kd.C k63 w A4 F.f4.length F.f4) (m3 : F.f3.length < 4611686018427387904) (m4 : F.f4.length < 4611686018427387904) :
  Calls Try.prog 38 #[.agg #[.int .i64 F.f0,.int .i64 F.f1,.int .i64 F.f2,.slice A3 F.f3.length c3,.slice A4 F.f4.length c4]] w fun e w'=>e=.returned (.bool b)∧Below w.heap.size w w':=by
 obtain ⟨k,hk⟩:=(check20_f hn hF m3 m4).rounds;rw [hc] at hk;exact penumbraref20_Check.calls k F.f0 F.f1 F.f2 A3 c3 F.f3 A4 c4 F.f4 b w h3 l3 h4 l4 hk
theorem new20_sem {W h b : Int} {M : Nat} (hs : szs W h b=true) (hM : (M : Int)=W * h * b) (w : World) :
  Calls Try.prog 20 #[.int .i64 W,.int .i64 h,.int .i64 b] w fun e w'=>∃ ad c ad2 c2,e=.returned (.tuple #[.agg #[.int .i64 W,.int .i64 h,.int .i64 b,.slice (some ad) M c,.slice (some ad2) M c2],.bool true])∧M≤c∧M≤c2∧Rows w' w.heap.size (zeroQ M) ad c ad2 c2∧Below w.heap.size w w':=by
 have hp:=szs_prod hs;have hp1:=szs_pos hs;obtain ⟨k,hk⟩:=(new20_f hs hM (by omega) ⟨hp.1,hp.2.1⟩).rounds;refine (penumbraref20_New.calls k W h b _ _ _ _ _ _ w hk).mono ?_;rintro e w1 ⟨v3,v4,rfl,h3,h4,hb⟩;have hne:=(Kd.S_R h3).1;have f3:=FRow.of_R (Kd.S_R h3);have f4:=FRow.of_R (Kd.S_R h4);have e1 : (List.replicate M (mkR 0)).length=M:=List.length_replicate;obtain ⟨ad,c,rfl,l1,o1⟩:=f3.orow (by rw [e1];omega);obtain ⟨ad2,c2,rfl,l2,o2⟩:=f4.orow (by rw [e1];omega);rw [e1] at l1 l2 ⊢;refine ⟨ad,c,ad2,c2,rfl,l1,l2,⟨?_,?_,?_⟩,hb⟩
 ·show ORow w1 _ ad c ((List.replicate M (0 : Rat)).map mkR)
  rw [List.map_replicate];exact o1
 ·show ORow w1 _ ad2 c2 ((List.replicate M (0 : Rat)).map mkR)
  rw [List.map_replicate];exact o2
 ·intro e
  rw [o1.z,o2.z] at hne;exact hne ad.block rfl (by simp [Value.ownBlock,e])
theorem new20_none {W h b : Int} (hs : szs W h b=false) (w : World) :
  Calls Try.prog 20 #[.int .i64 W,.int .i64 h,.int .i64 b] w fun e w'=>∃ A n c B m d,e=.returned (.tuple #[.agg #[.int .i64 0,.int .i64 0,.int .i64 0,.slice A n c,.slice B m d],.bool false])∧Below w.heap.size w w':=by
 obtain ⟨k,hk⟩:=(new20_no hs).rounds;refine (penumbraref20_New.calls k W h b _ _ _ _ _ _ w hk).mono ?_;rintro e w1 ⟨v3,v4,rfl,h3,h4,hb⟩;obtain ⟨A,c,rfl,_⟩:=(FRow.of_R (Kd.S_R h3)).slice_;obtain ⟨B,d,rfl,_⟩:=(FRow.of_R (Kd.S_R h4)).slice_;exact ⟨A,_,c,B,_,d,rfl,hb⟩
end Go.Proofs.Ytjiaobcoeegioaa.Pq
end
section
namespace Go.Proofs.Ytjiaobcoeegioaa.Pq
open Go.RowKit Go.Proofs.YtjiaobcoeegioaaW.PrintWords Go.Proofs.YtjiaobcoeegioaaW.PrintLast Go.Proofs.YtjiaobcoeegioaaW.PrintMore Go.Proofs.Ytjiaobcoeegioaa.N
namespace X
def ref20_Sum.T3 : Bool × List (List Nat × List Nat):=(true,[([],[]),([0],[0]),([1],[1]),([2],[2]),([],[]),([4],[4]),([5],[5]),([6],[6]),([],[]),([8],[8]),([9],[9]),([10],[10]),([3,7,11],[3,7,11]),([12],[12]),([13],[13]),([13],[13]),([],[]),([16,14,12,0,1,2,3,4,5,6,7,8,9,10,11,12,13,14,16],[14,16]),([15,17,0,1,2,3,4,5,6,7,8,9,10,11,12,13,14,15,16,17],[15])])
def ref20_Sum.B3 : List Nat:=[0,1,3,7,0,16,48,112,0,256,768,1792,4095,8191,16383,16383,0,98303,262143]
theorem ref20_Sum.tab3 : rtab .any (opsOf Try.f25 3)=ref20_Sum.T3:=by kernel_rfl
theorem ref20_Sum.bits3 : waitsOk ref20_Sum.T3.2 ref20_Sum.B3=true:=by kernel_rfl
def ref20_Sum.T7 : Bool × List (List Nat × List Nat):=(true,[([],[]),([],[]),([0,1],[0,1]),([2],[2]),([3],[3]),([4],[4]),([5,4],[5]),([6],[6]),([6],[6]),([7,8,6],[6,7,8]),([9,6],[6,9]),([10,6],[6,10]),([6],[6]),([12,6],[6,12]),([11,13,6],[6,11,13]),([6,14],[6,14]),([15,6],[15]),([16],[16]),([16],[16]),([17,18,16],[16,17,18]),([19,16],[16,19]),([20,16],[16,20]),([16],[16]),([22,16],[16,22]),([21,23,16],[16,21,23]),([16,24],[16,24]),([25,16],[25]),([26],[26]),([26],[26]),([27,28,26],[26,27,28]),([29,26],[26,29]),([30,26],[26,30]),([26],[26]),([32,26],[26,32]),([31,33,26],[26,31,33]),([26,34],[26,34])])
def ref20_Sum.B7 : List Nat:=[0,0,3,7,15,31,63,127,127,511,1023,2047,127,4223,16383,32767,65535,131071,131071,524287,1048575,2097151,131071,4325375,16777215,33554431,67108863,134217727,134217727,536870911,1073741823,2147483647,134217727,4429185023,17179869183,34359738367]
theorem ref20_Sum.tab7 : rtab .any (opsOf Try.f25 7)=ref20_Sum.T7:=by kernel_rfl
theorem ref20_Sum.bits7 : waitsOk ref20_Sum.T7.2 ref20_Sum.B7=true:=by kernel_rfl
def ref20_Sum.T12 : Bool × List (List Nat × List Nat):=(true,[([],[]),([0],[0]),([],[]),([],[]),([3],[3]),([],[]),([4,5],[4,5]),([6],[6]),([],[]),([],[]),([8,9],[8,9]),([10],[10]),([11],[11]),([],[]),([12,13],[12,13]),([14],[14]),([7,15],[7,15]),([1,2,0,1,2,3,4,5,6,7,8,9,10,11,12,13,14,15,16],[1,2]),([17,16,16,0,1,2,3,4,5,6,7,8,9,10,11,12,13,14,15,16],[16,17])])
def ref20_Sum.B12 : List Nat:=[0,1,0,0,8,0,56,120,0,0,768,1792,3840,0,16128,32512,65528,131071,262143]
theorem ref20_Sum.tab12 : rtab .any (opsOf Try.f25 12)=ref20_Sum.T12:=by kernel_rfl
theorem ref20_Sum.bits12 : waitsOk ref20_Sum.T12.2 ref20_Sum.B12=true:=by kernel_rfl
def ref20_Sum.T13 : Bool × List (List Nat × List Nat):=(true,[([],[]),([0],[0]),([],[]),([],[]),([3],[3]),([],[]),([4,5],[4,5]),([6],[6]),([],[]),([],[]),([8,9],[8,9]),([10],[10]),([11],[11]),([],[]),([12,13],[12,13]),([14],[14]),([7,15],[7,15]),([1,2,0,1,2,3,4,5,6,7,8,9,10,11,12,13,14,15,16],[1,2]),([17,16,16,0,1,2,3,4,5,6,7,8,9,10,11,12,13,14,15,16],[16,17])])
def ref20_Sum.B13 : List Nat:=[0,1,0,0,8,0,56,120,0,0,768,1792,3840,0,16128,32512,65528,131071,262143]
theorem ref20_Sum.tab13 : rtab .any (opsOf Try.f25 13)=ref20_Sum.T13:=by kernel_rfl
theorem ref20_Sum.bits13 : waitsOk ref20_Sum.T13.2 ref20_Sum.B13=true:=by kernel_rfl
end X
open X
theorem cell_set5 {W : World} {p : Addr} {g : Nat} {v x y z u t : Value} (h : W.cell? p=some v) (hne : p.block≠g) : (((((W.setCell ⟨g,0,none⟩ x).setCell ⟨g,1,none⟩ y).setCell ⟨g,2,none⟩ z).setCell ⟨g,3,none⟩ u).setCell ⟨g,4,none⟩ t).cell? p=some v:=cell_set (cell_set (cell_set (cell_set (cell_set h hne) hne) hne) hne) hne
def sumB (Fs : List S27) : Bool :=
 match Fs with
 | []=>false
 | H :: R=>(H :: R).all (good H)
theorem sumB_iff {Fs : List S27} (h0 : 0 < Fs.length) : sumB Fs=true ↔ ∀ i (h : i < Fs.length),good Fs[0] Fs[i]=true:=by
 cases Fs with
 | nil=>exact absurd h0 (Nat.lt_irrefl _)
 | cons H R =>
  unfold sumB;simp only [List.all_eq_true,List.getElem_cons_zero];constructor
  ·intro h i hi
   exact h _ (List.getElem_mem _)
  ·intro h F hF
   obtain ⟨i,hi,rfl⟩:=List.mem_iff_getElem.mp hF;exact h i hi
def NewF (H : S27) (M : Nat) (w : World) (base : Nat) (q : QF) (fW fh fb : Int) (aA : Option Addr) (nA kA : Nat) (aB : Option Addr) (nB kB : Nat) : Prop :=
 szs H.f0 H.f1 H.f2=true→fW=H.f0∧fh=H.f1∧fb=H.f2∧nA=M∧nB=M∧M≤kA∧M≤kB ∧ ∃ ad ad2,aA=some ad∧aB=some ad2∧Rows w base q ad kA ad2 kB
section
variable {H : S27} {M : Nat} {w w1 : World} {base base' : Nat} {q : QF} {fW fh fb : Int} {aA aB : Option Addr} {nA kA nB kB : Nat}
theorem NewF.imp (h : NewF H M w base q fW fh fb aA nA kA aB nB kB) (f : ∀ ad c ad2 c2,Rows w base q ad c ad2 c2→Rows w1 base' q ad c ad2 c2) : NewF H M w1 base' q fW fh fb aA nA kA aB nB kB:=fun hs=>by
 obtain ⟨e1,e2,e3,e4,e5,l1,l2,ad,ad2,e6,e7,hr⟩:=h hs;exact ⟨e1,e2,e3,e4,e5,l1,l2,ad,ad2,e6,e7,f _ _ _ _ hr⟩
theorem NewF.below (h : NewF H M w base q fW fh fb aA nA kA aB nB kB) (hb : Below w.heap.size w w1) : NewF H M w1 base q fW fh fb aA nA kA aB nB kB:=h.imp fun _ _ _ _ hr=>hr.below hb
theorem NewF.lower (h : NewF H M w base q fW fh fb aA nA kA aB nB kB) (hb : base'≤base) : NewF H M w base' q fW fh fb aA nA kA aB nB kB:=h.imp fun _ _ _ _ hr=>hr.lower hb
theorem NewF.tk (h : NewF H M w base q fW fh fb aA nA kA aB nB kB) (k : Tk [63,82] w w1) : NewF H M w1 base q fW fh fb aA nA kA aB nB kB:=h.imp fun _ _ _ _ hr=>hr.tk k
end
theorem new20_any {H : S27} {M : Nat} (hM : szs H.f0 H.f1 H.f2=true→(M : Int)=H.f0 * H.f1 * H.f2) (w : World) :
  Calls Try.prog 20 #[.int .i64 H.f0,.int .i64 H.f1,.int .i64 H.f2] w fun e w'=>∃ fW fh fb aA nA kA aB nB kB ok,e=.returned (.tuple #[.agg #[.int .i64 fW,.int .i64 fh,.int .i64 fb,.slice aA nA kA,.slice aB nB kB],.bool ok])∧NewF H M w' w.heap.size (zeroQ M) fW fh fb aA nA kA aB nB kB∧Below w.heap.size w w':=by
 cases hs : szs H.f0 H.f1 H.f2
 ·refine (new20_none hs w).mono ?_
  rintro e w' ⟨A,n,c,B,m,d,rfl,hb⟩;exact ⟨0,0,0,A,n,c,B,m,d,false,rfl,fun h=>absurd (hs.symm.trans h) (by decide),hb⟩
 ·refine (new20_sem hs (hM hs) w).mono ?_
  rintro e w' ⟨ad,c,ad2,c2,rfl,l1,l2,hr,hb⟩;exact ⟨_,_,_,_,_,_,_,_,_,true,rfl,fun _=>⟨rfl,rfl,rfl,rfl,rfl,l1,l2,ad,ad2,rfl,rfl,hr⟩,hb⟩
theorem at_film1 {Fs : List S27} {w : World} {A : Option Addr} {n : Nat} (hr : Kd.C k27 w A n Fs) {j : Nat} (hj : j < Fs.length) (hn : n=Fs.length) :
  ∃ ad A3 c3 A4 c4,A=some ad∧w.cell? (ad.add (j * 5))=some (.int .i64 Fs[j].f0)∧w.cell? ⟨(ad.add (j * 5)).block,(ad.add (j * 5)).off+1,none⟩=some (.int .i64 Fs[j].f1)∧w.cell? ⟨(ad.add (j * 5)).block,(ad.add (j * 5)).off+2,none⟩=some (.int .i64 Fs[j].f2) ∧
   w.cell? ⟨(ad.add (j * 5)).block,(ad.add (j * 5)).off+3,none⟩=some (.slice A3 Fs[j].f3.length c3)∧w.cell? ⟨(ad.add (j * 5)).block,(ad.add (j * 5)).off+4,none⟩=some (.slice A4 Fs[j].f4.length c4)∧Kd.C k63 w A3 Fs[j].f3.length Fs[j].f3∧Kd.C k63 w A4 Fs[j].f4.length Fs[j].f4∧Fs[j].f3.length≤c3∧Fs[j].f4.length≤c4:=by
 obtain ⟨ad,A3,c3,A4,c4,e,p0,p1,p2,p3,p4,l3,g3,l4,g4⟩:=at_T27 hr (j : Int) (by omega) (by omega);rw [Int.toNat_natCast] at p0 p1 p2 p3 p4
 have hx : rd_T27 Fs (j : Int)=Fs[j]:=by
  unfold rd_T27;rw [Int.toNat_natCast,List.getD_eq_getElem?_getD,List.getElem?_eq_getElem hj];rfl
 rw [hx] at p0 p1 p2 p3 p4 g3 g4 l3 l4;exact ⟨ad,A3,c3,A4,c4,e,p0,p1,p2,p3,p4,g3,g4,l3,l4⟩
def foldQ (M : Nat) (Fs : List S27) (j : Nat) : QF:=((Fs.map qF).take j).foldl QF.add (zeroQ M)
theorem foldQ_succ {M : Nat} {Fs : List S27} {j : Nat} (hj : j < Fs.length) : foldQ M Fs (j+1)=(foldQ M Fs j).add (qF Fs[j]):=by
 unfold foldQ;rw [List.take_succ_eq_append_getElem (by rw [List.length_map];exact hj),List.foldl_append,List.getElem_map];rfl
def NoSum (e : Ending) : Prop:=e=.returned (.tuple #[.agg #[.int .i64 0,.int .i64 0,.int .i64 0,.slice none 0 0,.slice none 0 0],.bool false])
set_option maxHeartbeats 8000000 in
set_option maxRecDepth 100000 in
theorem sum20_sem {n0 : Nat} {Fs : List S27} (H0 : Parts Fs n0) (HL : ∀ F∈Fs,F.f3.length < 4611686018427387904∧F.f4.length < 4611686018427387904) (A0 : Option Addr) (c0 : Nat) (w : World) (hr : Kd.C k27 w A0 Fs.length Fs) :
  Calls Try.prog 25 #[.slice A0 Fs.length c0] w fun e w'=>Below w.heap.size w w'∧((sumB Fs=false∧NoSum e)∨(sumB Fs=true ∧ ∃ (W h b : Int) (M : Nat),szs W h b=true∧(M : Int)=W * h * b∧(∀ F∈Fs,F.f0=W∧F.f1=h∧F.f2=b) ∧ ∃ ad c ad2 c2,e=.returned (.tuple #[.agg #[.int .i64 W,.int .i64 h,.int .i64 b,.slice (some ad) M c,.slice (some ad2) M c2],.bool true])∧M≤c∧M≤c2∧Rows w' w.heap.size (sumQ (Fs.map qF)) ad c ad2 c2)):=by
 have HR:=Aside0.mk hr;have HW0:=Aside0.mk (And.intro H0.wf HL);have HPN:=Aside0.mk H0.n;have HT:=Aside0.mk H0.tot
 have hmax : Fs.length≤9223372036854775807:=by have:=Kd.C_max hr;simpa using this
 clear hr H0 HL
 go_enter Try.func25,Try.ntmps25
 rcases Nat.eq_zero_or_pos Fs.length with h0|h0
 ·have cz : ((Fs.length : Int) == 0)=true:=beq_iff_eq.mpr (by omega)
  have HZ : Aside0 (sumB Fs=false):=⟨by rw [List.length_eq_zero_iff.mp h0];rfl⟩;clear h0
  go_wp2
  obtain ⟨w1,hw1⟩ : ∃ z,w.alloc (.cells #[.int .i64 0,.int .i64 0,.int .i64 0,.slice none 0 0,.slice none 0 0] 27)=z:=⟨_,rfl⟩;rw [hw1];have b0:=blk_new w (.cells #[.int .i64 0,.int .i64 0,.int .i64 0,.slice none 0 0,.slice none 0 0] 27);have b1:=below_alloc (Below.refl w.heap.size w) (.cells #[.int .i64 0,.int .i64 0,.int .i64 0,.slice none 0 0,.slice none 0 0] 27);rw [hw1] at b0 b1;clear hw1;refine bodyPost_ret (results_ct rfl _ _ w.heap.size 27 _ (0,0) _ rfl b0 Try.underlying27 rfl (by kernel_rfl)) rfl ?_;exact ⟨b1,.inl ⟨HZ.out,rfl⟩⟩
 have cz : ((Fs.length : Int) == 0)=false:=beq_eq_false_iff_ne.mpr (by omega);obtain ⟨pa,_,_,_,_,e1,z0,z1,z2,_,_,_,_⟩:=at_film0 HR.out h0 rfl;subst e1;rw [ad_zero] at z0 z1 z2;have HH0:=Aside0.mk h0;obtain ⟨H,eH⟩ : ∃ z,Fs[0]=z:=⟨_,rfl⟩;rw [eH] at z0 z1 z2;have HEH : Aside0 (Fs[0]'HH0.out=H):=⟨eH⟩;clear eH
 go_upto_region 3 with fail
 clear cz;have hba:=below_alloc (Below.refl w.heap.size w) (.cells #[.int .i64 0,.int .i64 0,.int .i64 0,.slice none 0 0,.slice none 0 0] 27);have B2:=Aside0.mk (blk_new w (.cells #[.int .i64 0,.int .i64 0,.int .i64 0,.slice none 0 0,.slice none 0 0] 27));have HZ3:=Aside0.mk (And.intro (keepc hba z0) (And.intro (keepc hba z1) (keepc hba z2)));have HBA:=Aside0.mk hba;obtain ⟨M,hM⟩ : ∃ M : Nat,szs H.f0 H.f1 H.f2=true→(M : Int)=H.f0 * H.f1 * H.f2:=⟨(H.f0 * H.f1 * H.f2).toNat,fun hs=>by have:=szs_pos hs;omega⟩;have HM:=Aside0.mk hM;obtain ⟨wr,hwr⟩ : ∃ z,w.alloc (.cells #[.int .i64 0,.int .i64 0,.int .i64 0,.slice none 0 0,.slice none 0 0] 27)=z:=⟨_,rfl⟩;rw [hwr] at B2 HZ3 HBA ⊢;clear hwr hba z0 z1 z2 hM;have HW : Aside0 (Below wr.heap.size wr wr.drew):=⟨below_drew1 (Below.refl _ _)⟩;refine start_ (n:=19) (S:=fun w'=>w'.cell? pa=some (.int .i64 H.f0)∧w'.cell? ⟨pa.block,pa.off+1,none⟩=some (.int .i64 H.f1)∧w'.cell? ⟨pa.block,pa.off+2,none⟩=some (.int .i64 H.f2)) (ds:=[]) #[false,false,false,false,false,false,false,false,false,false,false,false,false,false,false,false,false,false,false] (by kernel_rfl) rfl rfl HZ3.out (fun hHeld=>?_);refine with_tabW ref20_Sum.tab3 ref20_Sum.bits3 (fun HT_ HW_=>?_);refine zp 0 13 ?_;refine zp 1 14 ?_;refine zp 2 15 ?_;refine zp 4 17 ?_;refine zp 5 18 ?_;refine zp 6 19 ?_;refine zp 8 21 ?_;refine zp 9 22 ?_;refine zp 10 23 ?_;refine zt 3 16 ?_;refine zt 7 20 ?_;refine zt 11 24 ?_;refine join_ (σ:=Int × Int × Int × Option Addr × Nat × Nat × Option Addr × Nat × Nat × Bool × Nat) 2 #[true,true,true,true,true,true,true,true,true,true,true,true,true,true,true,true,true,false,false] (fun s_=>[(25,.tuple #[.agg #[.int .i64 s_.1,.int .i64 s_.2.1,.int .i64 s_.2.2.1,.slice s_.2.2.2.1 s_.2.2.2.2.1 s_.2.2.2.2.2.1,.slice s_.2.2.2.2.2.2.1 s_.2.2.2.2.2.2.2.1 s_.2.2.2.2.2.2.2.2.1],.bool s_.2.2.2.2.2.2.2.2.2.1]),(12,.tuple #[.agg #[.int .i64 s_.1,.int .i64 s_.2.1,.int .i64 s_.2.2.1,.slice s_.2.2.2.1 s_.2.2.2.2.1 s_.2.2.2.2.2.1,.slice s_.2.2.2.2.2.2.1 s_.2.2.2.2.2.2.2.1 s_.2.2.2.2.2.2.2.2.1],.bool s_.2.2.2.2.2.2.2.2.2.1]),(26,.agg #[.int .i64 s_.1,.int .i64 s_.2.1,.int .i64 s_.2.2.1,.slice s_.2.2.2.1 s_.2.2.2.2.1 s_.2.2.2.2.2.1,.slice s_.2.2.2.2.2.2.1 s_.2.2.2.2.2.2.2.1 s_.2.2.2.2.2.2.2.2.1]),(27,.bool s_.2.2.2.2.2.2.2.2.2.1),(4,.pointer (some ⟨s_.2.2.2.2.2.2.2.2.2.2,0,none⟩))]) (fun s_ w'=>(w'.cell? pa=some (.int .i64 H.f0)∧w'.cell? ⟨pa.block,pa.off+1,none⟩=some (.int .i64 H.f1)∧w'.cell? ⟨pa.block,pa.off+2,none⟩=some (.int .i64 H.f2))∧Below wr.heap.size wr w'∧NewF H M w' wr.heap.size (zeroQ M) s_.1 s_.2.1 s_.2.2.1 s_.2.2.2.1 s_.2.2.2.2.1 s_.2.2.2.2.2.1 s_.2.2.2.2.2.2.1 s_.2.2.2.2.2.2.2.1 s_.2.2.2.2.2.2.2.2.1∧w'.heap[s_.2.2.2.2.2.2.2.2.2.2]? = some (.cells #[.int .i64 0,.int .i64 0,.int .i64 0,.slice none 0 0,.slice none 0 0] 27 (0,0))∧wr.heap.size≤s_.2.2.2.2.2.2.2.2.2.2) ?_ ?_
 rotate_left
 ·intro hCont
  refine two_ (i:=12) (j:=16) (Ni:=some 25) (Nj:=some 4) #[true,true,true,true,true,true,true,true,true,true,true,true,true,false,false,false,false,false,false] #[true,true,true,true,true,true,true,true,true,true,true,true,false,false,false,false,true,false,false] rfl rfl rfl rfl (two_of HT_.out (by kernel_rfl)) (by decide) (by decide) (fun K hK=>?_) (fun K hK=>?_)
  ·skip
   try (obtain ⟨wc,hwc⟩ : ∃ z,wr.drew=z:=⟨_,rfl⟩;rw [hwc] at HW ⊢;clear hwc)
   refine goes_ Try.func20 (by kernel_rfl) rfl #[.int .i64 H.f0,.int .i64 H.f1,.int .i64 H.f2] (by rfl) rfl rfl (by simp only [List.map_toArray,List.map_cons,List.map_nil];rfl) ?_
   with_reducible refine (new20_any HM.out wc).mono ?_
   rintro e wc ⟨fW,fh,fb,aA,nA,kA,aB,nB,kB,ok,rfl,hnf,hb⟩;refine ⟨_,rfl,?_⟩;have H12:=Aside0.mk (hnf.lower HW.out.size);replace HW:=Aside0.mk (below_step HW.out hb)
   try replace H16:=Aside0.mk (And.intro (blk_below H16.out.1 hb) H16.out.2)
   clear hnf hb;refine hK.out _ _ (kE HW.out HZ3.out) (fun hHeld=>?_);clear hK K;refine nZ ?_;refine zp 13 12 ?_;refine zp 14 26 ?_;refine zp 15 27 ?_
   refine oN 16 (some 4) rfl rfl fun K hK=>?_
   try (obtain ⟨wc,hwc⟩ : ∃ z,wr.drew=z:=⟨_,rfl⟩;rw [hwc] at HW ⊢;clear hwc)
   refine value_ (w1:=?_) (v:=?_) (by rfl) rfl ?_ ?_;rotate_left 2
   ·go_simp
    constructor
    ·rfl
    ·rfl
   obtain ⟨g4,hga⟩ : ∃ g,wc.heap.size=g:=⟨_,rfl⟩;have H16 : Aside0 ((wc.alloc (.cells #[.int .i64 0,.int .i64 0,.int .i64 0,.slice none 0 0,.slice none 0 0] 27)).heap[g4]? = some (.cells #[.int .i64 0,.int .i64 0,.int .i64 0,.slice none 0 0,.slice none 0 0] 27 (0,0))∧wr.heap.size≤g4):=⟨by rw [← hga];exact ⟨blk_new _ _,HW.out.size⟩⟩;rw [hga];clear hga;have HA_ : Below wc.heap.size wc (wc.alloc (.cells #[.int .i64 0,.int .i64 0,.int .i64 0,.slice none 0 0,.slice none 0 0] 27)):=below_alloc (Below.refl _ _) _;replace HW:=Aside0.mk (below_step HW.out HA_)
   try replace H12:=Aside0.mk (H12.out.below HA_)
   obtain ⟨wc,hwd⟩ : ∃ wd,wc.alloc (.cells #[.int .i64 0,.int .i64 0,.int .i64 0,.slice none 0 0,.slice none 0 0] 27)=wd:=⟨_,rfl⟩;rw [hwd] at HW H16 ⊢
   try rw [hwd] at H12
   clear HA_ hwd;refine hK.out _ _ (kE HW.out HZ3.out) (fun hHeld=>?_);clear hK K;refine nZ ?_;exact norm_ (by simp only [putAll,Act.put,s0,s1,s2]) (hCont (fW,fh,fb,aA,nA,kA,aB,nB,kB,ok,g4) _ ⟨hHeld,HW.out,H12.out,H16.out⟩)
  ·skip
   try (obtain ⟨wc,hwc⟩ : ∃ z,wr.drew=z:=⟨_,rfl⟩;rw [hwc] at HW ⊢;clear hwc)
   refine value_ (w1:=?_) (v:=?_) (by rfl) rfl ?_ ?_;rotate_left 2
   ·go_simp
    constructor
    ·rfl
    ·rfl
   obtain ⟨g4,hga⟩ : ∃ g,wc.heap.size=g:=⟨_,rfl⟩;have H16 : Aside0 ((wc.alloc (.cells #[.int .i64 0,.int .i64 0,.int .i64 0,.slice none 0 0,.slice none 0 0] 27)).heap[g4]? = some (.cells #[.int .i64 0,.int .i64 0,.int .i64 0,.slice none 0 0,.slice none 0 0] 27 (0,0))∧wr.heap.size≤g4):=⟨by rw [← hga];exact ⟨blk_new _ _,HW.out.size⟩⟩;rw [hga];clear hga;have HA_ : Below wc.heap.size wc (wc.alloc (.cells #[.int .i64 0,.int .i64 0,.int .i64 0,.slice none 0 0,.slice none 0 0] 27)):=below_alloc (Below.refl _ _) _;replace HW:=Aside0.mk (below_step HW.out HA_)
   try replace H12:=Aside0.mk (H12.out.below HA_)
   obtain ⟨wc,hwd⟩ : ∃ wd,wc.alloc (.cells #[.int .i64 0,.int .i64 0,.int .i64 0,.slice none 0 0,.slice none 0 0] 27)=wd:=⟨_,rfl⟩;rw [hwd] at HW H16 ⊢
   try rw [hwd] at H12
   clear HA_ hwd;refine hK.out _ _ (kE HW.out HZ3.out) (fun hHeld=>?_);clear hK K;refine nZ ?_
   refine oN 12 (some 25) rfl rfl fun K hK=>?_
   try (obtain ⟨wc,hwc⟩ : ∃ z,wr.drew=z:=⟨_,rfl⟩;rw [hwc] at HW ⊢;clear hwc)
   refine goes_ Try.func20 (by kernel_rfl) rfl #[.int .i64 H.f0,.int .i64 H.f1,.int .i64 H.f2] (by rfl) rfl rfl (by simp only [List.map_toArray,List.map_cons,List.map_nil];rfl) ?_
   with_reducible refine (new20_any HM.out wc).mono ?_
   rintro e wc ⟨fW,fh,fb,aA,nA,kA,aB,nB,kB,ok,rfl,hnf,hb⟩;refine ⟨_,rfl,?_⟩;have H12:=Aside0.mk (hnf.lower HW.out.size);replace HW:=Aside0.mk (below_step HW.out hb)
   try replace H16:=Aside0.mk (And.intro (blk_below H16.out.1 hb) H16.out.2)
   clear hnf hb;refine hK.out _ _ (kE HW.out HZ3.out) (fun hHeld=>?_);clear hK K;refine nZ ?_;refine zp 13 12 ?_;refine zp 14 26 ?_;refine zp 15 27 ?_;exact norm_ (by simp only [putAll,Act.put,s0,s1,s2]) (hCont (fW,fh,fb,aA,nA,kA,aB,nB,kB,ok,g4) _ ⟨hHeld,HW.out,H12.out,H16.out⟩)
 rintro ⟨fW,fh,fb,aA,nA,kA,aB,nB,kB,ok,g4⟩ wc ⟨hHeld,h1,h2,h3,h4⟩;dsimp only at h1 h2 h3 h4;replace HW:=Aside0.mk h1;have H12:=Aside0.mk h2;have H16:=Aside0.mk (And.intro h3 h4);clear h1 h2 h3 h4;refine norm_ (a':=?_) ?_ ?_;rotate_left
 ·simp only [putAll,Act.put,s0,s1,s2]
  rfl
 refine oN 17 (none) rfl rfl fun K hK=>?_
 have q0:=cells5 H16.out.1;have q1:=free5 H16.out.1;refine skip_ (w1:=?_) (by rfl) rfl ?_ ?_;rotate_left
 ·go_simp
  rfl
 clear q0 q1
 have hneP : pa.block≠g4:=fun e=>by have h1:=World.block_lt_of_cell? _ _ HZ3.out.1;have h2:=H16.out.2;omega
 refine hK.out _ _ ⟨cell_set5 (keepc HW.out HZ3.out.1) hneP,cell_set5 (keepc HW.out HZ3.out.2.1) hneP,cell_set5 (keepc HW.out HZ3.out.2.2) hneP⟩ (fun hHeld=>?_);clear hK K;refine zp 18 5 ?_;refine dN ?_
 have hne2 : w.heap.size≠g4:=fun e=>by have h1:=blk_lt B2.out;have h2:=H16.out.2;omega
 have k5 : Tk [3,63,82] wc (((((wc.setCell ⟨g4,0,none⟩ (.int .i64 fW)).setCell ⟨g4,1,none⟩ (.int .i64 fh)).setCell ⟨g4,2,none⟩ (.int .i64 fb)).setCell ⟨g4,3,none⟩ (.slice aA nA kA)).setCell ⟨g4,4,none⟩ (.slice aB nB kB)):=tk_set5 H16.out.1 (by decide) _ _ _ _ _ inferInstance;have HB : Aside0 (Below w.heap.size w (((((wc.setCell ⟨g4,0,none⟩ (.int .i64 fW)).setCell ⟨g4,1,none⟩ (.int .i64 fh)).setCell ⟨g4,2,none⟩ (.int .i64 fb)).setCell ⟨g4,3,none⟩ (.slice aA nA kA)).setCell ⟨g4,4,none⟩ (.slice aB nB kB))∧(((((wc.setCell ⟨g4,0,none⟩ (.int .i64 fW)).setCell ⟨g4,1,none⟩ (.int .i64 fh)).setCell ⟨g4,2,none⟩ (.int .i64 fb)).setCell ⟨g4,3,none⟩ (.slice aA nA kA)).setCell ⟨g4,4,none⟩ (.slice aB nB kB)).heap[w.heap.size]? = some (.cells #[.int .i64 0,.int .i64 0,.int .i64 0,.slice none 0 0,.slice none 0 0] 27 (0,0))∧(((((wc.setCell ⟨g4,0,none⟩ (.int .i64 fW)).setCell ⟨g4,1,none⟩ (.int .i64 fh)).setCell ⟨g4,2,none⟩ (.int .i64 fb)).setCell ⟨g4,3,none⟩ (.slice aA nA kA)).setCell ⟨g4,4,none⟩ (.slice aB nB kB)).heap[g4]? = some (.cells #[.int .i64 fW,.int .i64 fh,.int .i64 fb,.slice aA nA kA,.slice aB nB kB] 27 (0,0))):=⟨low5 (g:=g4) (below_step HBA.out HW.out) (Nat.le_trans HBA.out.size H16.out.2) _ _ _ _ _,far5 (blk_below B2.out HW.out) hne2 _ _ _ _ _,put5 H16.out.1 _ _ _ _ _⟩;have HN : Aside0 (NewF H M (((((wc.setCell ⟨g4,0,none⟩ (.int .i64 fW)).setCell ⟨g4,1,none⟩ (.int .i64 fh)).setCell ⟨g4,2,none⟩ (.int .i64 fb)).setCell ⟨g4,3,none⟩ (.slice aA nA kA)).setCell ⟨g4,4,none⟩ (.slice aB nB kB)) w.heap.size (zeroQ M) fW fh fb aA nA kA aB nB kB):=⟨(H12.out.lower HBA.out.size).tk (k5.less (by simp))⟩
 clear k5 hne2 hneP hHeld H12 H16 HW HZ3 HBA B2;obtain ⟨wr',hwr⟩ : ∃ z,((((wc.setCell ⟨g4,0,none⟩ (.int .i64 fW)).setCell ⟨g4,1,none⟩ (.int .i64 fh)).setCell ⟨g4,2,none⟩ (.int .i64 fb)).setCell ⟨g4,3,none⟩ (.slice aA nA kA)).setCell ⟨g4,4,none⟩ (.slice aB nB kB)=z:=⟨_,rfl⟩;rw [hwr] at HB HN ⊢;clear hwr
 go_wp2
 go_loopw [6] (fun x wr=>∃ j : Nat,j≤Fs.length∧x=.int .i64 j∧Aside0 (Below w.heap.size w wr∧wr.heap[w.heap.size]? = some (.cells #[.int .i64 0,.int .i64 0,.int .i64 0,.slice none 0 0,.slice none 0 0] 27 (0,0))∧wr.heap[g4]? = some (.cells #[.int .i64 fW,.int .i64 fh,.int .i64 fb,.slice aA nA kA,.slice aB nB kB] 27 (0,0)))∧Aside0 (∀ i (h : i < Fs.length),i < j→good H Fs[i]=true)∧Aside0 (NewF H M wr w.heap.size (foldQ M Fs j) fW fh fb aA nA kA aB nB kB)) (fun x _=>Fs.length - (intOf x).toNat)
 case atStart=>exact ⟨0,Nat.zero_le _,rfl,HB,⟨fun i _ h=>absurd h (Nat.not_lt_zero _)⟩,HN⟩
 case round =>
  clear HB HN;obtain ⟨j,hj,rfl,HB,HG,HN⟩:=hrel
  by_cases hlt : j < Fs.length
  ·have hlb : decide ((j : Int) < (Fs.length : Int))=true:=decide_eq_true (by omega)
   obtain ⟨pb,A3,c3,A4,c4,e1,p0,p1,p2,p3,p4,g3,g5,l3,l4⟩:=at_film1 HR.out hlt rfl
   injection e1 with e1
   subst e1;have hf:=HW0.out.1 Fs[j] (List.getElem_mem _);have hl:=HW0.out.2 Fs[j] (List.getElem_mem _)
   have hgd : good H Fs[j]=true → ∀ i (h : i < Fs.length),i < j+1→good H Fs[i]=true:=fun hg i h hi=>by
    rcases Nat.lt_or_ge i j with hi2|hi2
    ·exact HG.out i h hi2
    ·obtain rfl : i=j:=by omega
     exact hg
   have hbd : good H Fs[j]=false→sumB Fs=false:=fun hg=>by
    rw [← Bool.not_eq_true,sumB_iff HH0.out];intro h;have h1:=h j hlt;rw [HEH.out,hg] at h1;cases h1
   have hsz : chkF Fs[j]=true→szs H.f0 H.f1 H.f2=true:=fun hc=>by
    rcases Nat.eq_zero_or_pos j with hj0|hj0
    ·subst hj0
     rw [HEH.out] at hc;exact (fits_of hc).1
    ·have h1:=HG.out 0 HH0.out hj0
     rw [HEH.out] at h1;unfold good at h1;simp only [Bool.and_eq_true] at h1;exact (fits_of h1.1.1.1).1
   have hfold : foldQ M Fs (j+1)=(foldQ M Fs j).add (qF Fs[j]):=foldQ_succ hlt;obtain ⟨F,eF⟩ : ∃ z,Fs[j]=z:=⟨_,rfl⟩;rw [eF] at hgd hbd hsz hfold p0 p1 p2 p3 p4 g3 g5 l3 l4 hf hl;have HGB:=Aside0.mk (And.intro hgd (And.intro hbd (And.intro hsz hfold)));have HEF : Aside0 (Fs[j]'hlt=F):=⟨eF⟩;have HF:=Aside0.mk (show WfF n0 F∧F.f3.length≤c3∧F.f4.length≤c4∧F.f3.length < 4611686018427387904∧F.f4.length < 4611686018427387904 from ⟨hf,l3,l4,hl.1,hl.2⟩);have HWP:=Aside0.mk (And.intro g3 (And.intro g5 (And.intro p3 p4)));have HG3:=Aside0.mk (And.intro (Kd.C_below g3 HB.out.1) (Kd.C_below g5 HB.out.1));have HZ7:=Aside0.mk (And.intro (keepc HB.out.1 p0) (And.intro (keepc HB.out.1 p1) (And.intro (keepc HB.out.1 p2) (And.intro (keepc HB.out.1 p3) (And.intro (keepc HB.out.1 p4) (And.intro (cells5 HB.out.2.2).1 (And.intro (cells5 HB.out.2.2).2.1 (cells5 HB.out.2.2).2.2.1)))))));clear hgd hbd hsz hfold eF hf hl l3 l4 p0 p1 p2 p3 p4 g3 g5
   go_upto_region 7 with fail
   rcases hc : chkF F with _|_
   rotate_left
   rcases Bool.eq_false_or_eq_true (F.f0 != fW) with hc0|hc0
   rotate_left
   rcases Bool.eq_false_or_eq_true (F.f1 != fh) with hc1|hc1
   rotate_left
   rcases Bool.eq_false_or_eq_true (F.f2 != fb) with hc2|hc2
   all_goals
    have HC:=Aside0.mk hc
    try have HZ : Aside0 (sumB Fs=false):=⟨HGB.out.2.1 (by unfold good;first|(rw [hc];rfl)|(rw [show (F.f0 == H.f0)=false by rw [← (HN.out (HGB.out.2.2.1 hc)).1];simpa [bne] using hc0];simp;done)|(rw [show (F.f1 == H.f1)=false by rw [← (HN.out (HGB.out.2.2.1 hc)).2.1];simpa [bne] using hc1];simp;done)|(rw [show (F.f2 == H.f2)=false by rw [← (HN.out (HGB.out.2.2.1 hc)).2.2.1];simpa [bne] using hc2];simp;done))⟩
    clear hc;have hjl:=hlt;refine sT (n:=36) (S:=fun w'=>w'.cell? (pa.add (j * 5))=some (.int .i64 F.f0)∧w'.cell? ⟨(pa.add (j * 5)).block,(pa.add (j * 5)).off+1,none⟩=some (.int .i64 F.f1)∧w'.cell? ⟨(pa.add (j * 5)).block,(pa.add (j * 5)).off+2,none⟩=some (.int .i64 F.f2)∧w'.cell? ⟨(pa.add (j * 5)).block,(pa.add (j * 5)).off+3,none⟩=some (.slice A3 F.f3.length c3)∧w'.cell? ⟨(pa.add (j * 5)).block,(pa.add (j * 5)).off+4,none⟩=some (.slice A4 F.f4.length c4)∧w'.cell? ⟨g4,0,none⟩=some (.int .i64 fW)∧w'.cell? ⟨g4,1,none⟩=some (.int .i64 fh)∧w'.cell? ⟨g4,2,none⟩=some (.int .i64 fb)) (ds:=[]) (by kernel_rfl) rfl HZ7.out (fun hHeld=>?_);refine with_tabW ref20_Sum.tab7 ref20_Sum.bits7 (fun HT_ HW_=>?_);refine zp 0 34 ?_;refine zp 1 35 ?_;refine zp 2 36 ?_;refine zt 3 37 ?_
    refine oN 4 (some 38) rfl rfl fun K hK=>?_
    obtain ⟨wc,hwc⟩ : ∃ z,wr.drew=z:=⟨_,rfl⟩;have HWc : Aside0 (Below wr.heap.size wr wc):=⟨by rw [← hwc];exact below_drew1 (Below.refl _ _)⟩;rw [hwc];clear hwc;refine goes_ Try.func38 (by kernel_rfl) rfl #[.agg #[.int .i64 F.f0,.int .i64 F.f1,.int .i64 F.f2,.slice A3 F.f3.length c3,.slice A4 F.f4.length c4]] (by rfl) rfl rfl (by simp only [List.map_toArray,List.map_cons,List.map_nil];rfl) ?_
    with_reducible refine (check20_sem HPN.out HF.out.1 HC.out HF.out.2.1 HF.out.2.2.1 (Kd.C_below HG3.out.1 HWc.out) (Kd.C_below HG3.out.2 HWc.out) HF.out.2.2.2.1 HF.out.2.2.2.2).mono ?_
    rintro e w2 ⟨rfl,hb⟩;refine ⟨_,rfl,?_⟩;replace HWc:=Aside0.mk (below_step HWc.out hb);clear hb;refine hK.out _ _ (kE HWc.out HZ7.out) (fun hHeld=>?_);clear hK K;refine nZ ?_;refine zp 5 39 ?_;refine zp 6 40 ?_;refine zp 7 41 ?_;refine zp 8 42 ?_;refine zp 9 43 ?_;refine zp 10 44 ?_;refine zp 12 46 ?_;refine zt 11 45 ?_;refine zt 13 47 ?_;refine zp 14 48 ?_;refine zp 15 49 ?_;refine zp 16 50 ?_;refine zp 17 51 ?_;refine zp 18 52 ?_;refine zp 19 53 ?_;refine zp 20 54 ?_;refine zp 22 56 ?_;refine zt 21 55 ?_;refine zt 23 57 ?_;refine zp 24 58 ?_;refine zp 25 59 ?_;refine zp 26 60 ?_;refine zp 27 61 ?_;refine zp 28 62 ?_;refine zp 29 63 ?_;refine zp 30 64 ?_;refine zp 32 66 ?_;refine zt 31 65 ?_;refine zt 33 67 ?_;refine zp 34 68 ?_;refine zp 35 69 ?_;refine dN ?_;have BR:=Aside0.mk (blk_below HB.out.2.1 HWc.out);have BG:=Aside0.mk (blk_below HB.out.2.2 HWc.out);have q0:=cells5 BR.out;have q1:=free5 BR.out;clear hHeld
    go_wp2
    try (refine bodyPost_ret (results_ct rfl _ _ w.heap.size 27 _ (0,0) _ rfl (put5 BR.out (.int .i64 0) (.int .i64 0) (.int .i64 0) (.slice none 0 0) (.slice none 0 0)) Try.underlying27 rfl (by kernel_rfl)) rfl ?_;exact ⟨low5 (g:=w.heap.size) (below_step HB.out.1 HWc.out) (Nat.le_refl _) (.int .i64 0) (.int .i64 0) (.int .i64 0) (.slice none 0 0) (.slice none 0 0),.inl ⟨HZ.out,rfl⟩⟩)
   have hs:=HGB.out.2.2.1 HC.out;obtain ⟨rfl,rfl,rfl,eA,eB,lA,lB,ad,ad2,rfl,rfl,hrw⟩:=HN.out hs;obtain rfl:=eA.symm;obtain rfl:=eB.symm;have hM:=HM.out hs
   have hgF : good H F=true:=by
    unfold good;rw [HC.out,show (F.f0 == H.f0)=true by simpa [bne] using hc0,show (F.f1 == H.f1)=true by simpa [bne] using hc1,show (F.f2 == H.f2)=true by simpa [bne] using hc2];rfl
   have hfit : ∀ G : S27,good H G=true→(qF G).fits H.f0 H.f1 H.f2:=fun G hG=>by
    unfold good at hG;simp only [Bool.and_eq_true,beq_iff_eq] at hG;rw [← hG.1.1.2,← hG.1.2,← hG.2];exact (fits_of hG.1.1.1).2
   have hp : (foldQ M Fs j).fits H.f0 H.f1 H.f2:=foldl_fits (zero_fits hM) (fun q hq=>by
    obtain ⟨k,hk,rfl⟩:=List.mem_iff_getElem.mp hq;rw [List.length_take,List.length_map] at hk;rw [List.getElem_take,List.getElem_map]
    exact hfit _ (HG.out k (by omega) (by omega)))
   have hq:=hfit F hgF
   have hpz : (foldQ M Fs j).sz < 10000000:=by
    have h1:=foldl_sz ((Fs.map qF).take j) (zeroQ M);have h2:=tot_take (Fs.map qF) j;have h3:=zero_sz M;have h4:=HT.out;unfold foldQ;omega
   have hqz : (qF F).sz < 10000000:=by
    have h1:=tot_mem (l:=Fs.map qF) (q:=qF F) (List.mem_map.mpr ⟨F,by rw [← HEF.out];exact List.getElem_mem _,rfl⟩);have h4:=HT.out;omega
   have hF3 : F.f3=(qF F).a.map mkR∧F.f4=(qF F).b.map mkR:=by
    have h1:=mkF_qF HC.out;exact ⟨(congrArg S27.f3 h1).symm,(congrArg S27.f4 h1).symm⟩
   obtain ⟨la,lb⟩:=q_len hM hp;obtain ⟨lc,ld⟩:=q_len hM hq;have k3:=HWP.out.1;have k4:=HWP.out.2.1;rw [hF3.1,lc] at k3;rw [hF3.2,ld] at k4;have z8:=HWP.out.2.2.1;have z9:=HWP.out.2.2.2;rw [hF3.1,lc] at z8;rw [hF3.2,ld] at z9;rw [List.length_map] at la lb lc ld;obtain ⟨p,ep⟩ : ∃ p,foldQ M Fs j=p:=⟨_,rfl⟩;obtain ⟨q,eq⟩ : ∃ q,qF F=q:=⟨_,rfl⟩;rw [ep] at hrw hp hpz la lb;rw [eq] at k3 k4 hq hqz lc ld;have HFO : Aside0 (foldQ M Fs (j+1)=p.add q):=⟨by rw [HGB.out.2.2.2,ep,eq]⟩;have HGN:=Aside0.mk (HGB.out.1 hgF);have HPQ:=Aside0.mk (show p.a.length=M∧p.b.length=M∧q.a.length=M∧q.b.length=M∧p.sz < 10000000∧q.sz < 10000000 from ⟨la,lb,lc,ld,hpz,hqz⟩);have HK:=Aside0.mk (And.intro k3 (And.intro k4 (And.intro z8 z9)));have HS:=Aside0.mk (And.intro hs (And.intro hM (And.intro lA lB)))
   have hm2 : M≤2048:=by have:=szs_prod hs;omega
   have HB0:=Aside0.mk (show Below w.heap.size w w2∧w2.heap[w.heap.size]? = some (.cells #[.int .i64 0,.int .i64 0,.int .i64 0,.slice none 0 0,.slice none 0 0] 27 (0,0))∧w2.heap[g4]? = some (.cells #[.int .i64 H.f0,.int .i64 H.f1,.int .i64 H.f2,.slice (some ad) M kA,.slice (some ad2) M kB] 27 (0,0)) from ⟨below_step HB.out.1 HWc.out,BR.out,BG.out⟩);have HO0:=Aside0.mk (show ORow w2 w.heap.size ad kA ((mixQ 0 p.a q.a).map mkR)∧ORow w2 w.heap.size ad2 kB ((mixQ 0 p.b q.b).map mkR)∧ad.block≠ad2.block from ⟨by rw [mixQ_zero];exact (hrw.below HWc.out).a,by rw [mixQ_zero];exact (hrw.below HWc.out).b,hrw.ne⟩);clear hgF hfit hp hq hpz hqz hF3 la lb lc ld k3 k4 z8 z9 ep eq hrw hs hM lA lB hc0 hc1 hc2 HGB HG3 HZ7 HB HN q0 q1 BR BG HF hjl eA eB HWP
   go_loopw [7] (fun y wr=>∃ i : Nat,i≤M∧y=.int .i64 i∧Aside0 (Below w.heap.size w wr∧wr.heap[w.heap.size]? = some (.cells #[.int .i64 0,.int .i64 0,.int .i64 0,.slice none 0 0,.slice none 0 0] 27 (0,0))∧wr.heap[g4]? = some (.cells #[.int .i64 H.f0,.int .i64 H.f1,.int .i64 H.f2,.slice (some ad) M kA,.slice (some ad2) M kB] 27 (0,0)))∧Aside0 (ORow wr w.heap.size ad kA ((mixQ i p.a q.a).map mkR)∧ORow wr w.heap.size ad2 kB ((mixQ i p.b q.b).map mkR)∧ad.block≠ad2.block)) (fun y _=>M - (intOf y).toNat)
   case atStart=>exact ⟨0,Nat.zero_le _,rfl,HB0,HO0⟩
   case round =>
    clear HB0 HO0;obtain ⟨i,hi,rfl,HB,HO⟩:=hrel
    by_cases hil : i < M
    ·have hil2 : decide ((i : Int) < (M : Int))=true:=decide_eq_true (by omega)
     obtain ⟨la,lb,lc,ld,_,_⟩:=HPQ.out;have tX:=mixQ_set (i:=i) (p:=p.a) (q:=q.a) (by omega) (by omega);have gX:=mixQ_get (i:=i) (p:=p.a) (q:=q.a) (by omega) (by omega);have nX:=mixQ_length (i:=i) (p:=p.a) (q:=q.a) (by omega);obtain ⟨K1,k1,K2,k2,a0,a1,a2,hx⟩:=ORow.num HO.out.1 (i:=i) (by omega);rw [gX] at a0 a1 a2 hx;obtain ⟨ad3,M1,m1,M2,m2,eP,z4,z5,z6,hu⟩:=at_num (Kd.C_below HK.out.1 HB.out.1) (i:=i) (by omega) hil;subst eP;have sx : AddTo (mkR (p.a[i]'(by omega))) (mkR (q.a[i]'(by omega))) (mkR (p.a[i]'(by omega)+q.a[i]'(by omega))):=addR (by have h1:=szL_mem (List.getElem_mem (l:=p.a) (n:=i) (by omega));have h2 : szL p.a≤p.sz:=Nat.le_max_left _ _;have h3:=HPQ.out.2.2.2.2.1;omega) (by have h1:=szL_mem (List.getElem_mem (l:=q.a) (n:=i) (by omega));have h2 : szL q.a≤q.sz:=Nat.le_max_left _ _;have h3:=HPQ.out.2.2.2.2.2;omega)
     have na2 : i < ((mixQ i p.a q.a).map mkR).length:=by rw [List.length_map];omega
     have ta2 : ((mixQ i p.a q.a).map mkR).set i (mkR (p.a[i]'(by omega)+q.a[i]'(by omega)))=(mixQ (i+1) p.a q.a).map mkR:=by rw [← List.map_set,tX]
     obtain ⟨x,ex⟩ : ∃ x,mkR (p.a[i]'(by omega))=x:=⟨_,rfl⟩;obtain ⟨u,eu⟩ : ∃ x,mkR (q.a[i]'(by omega))=x:=⟨_,rfl⟩;obtain ⟨X,eX⟩ : ∃ x,mkR (p.a[i]'(by omega)+q.a[i]'(by omega))=x:=⟨_,rfl⟩;rw [ex] at a0 a1 a2 hx sx;rw [eu] at z4 z5 z6 hu sx;rw [eX] at sx ta2;have KX:=Aside0.mk hx;have KU:=Aside0.mk hu;have SX:=Aside0.mk sx;have TA:=Aside0.mk (And.intro na2 ta2);have ZA:=Aside0.mk (show wr.cell? ⟨g4,3,none⟩=some (.slice (some ad) M kA)∧wr.cell? (ad.add (i * 3))=some (.bool x.f0)∧wr.cell? ⟨(ad.add (i * 3)).block,(ad.add (i * 3)).off+1,none⟩=some (.slice K1 x.f1.length k1)∧wr.cell? ⟨(ad.add (i * 3)).block,(ad.add (i * 3)).off+2,none⟩=some (.slice K2 x.f2.length k2)∧wr.cell? ⟨(pa.add (j * 5)).block,(pa.add (j * 5)).off+3,none⟩=some (.slice (some ad3) M c3)∧wr.cell? (ad3.add (i * 3))=some (.bool u.f0)∧wr.cell? ⟨(ad3.add (i * 3)).block,(ad3.add (i * 3)).off+1,none⟩=some (.slice M1 u.f1.length m1)∧wr.cell? ⟨(ad3.add (i * 3)).block,(ad3.add (i * 3)).off+2,none⟩=some (.slice M2 u.f2.length m2) from ⟨(cells5 HB.out.2.2).2.2.2.1,a0,a1,a2,keepc HB.out.1 HK.out.2.2.1,z4,z5,z6⟩);clear tX gX nX a0 a1 a2 hx z4 z5 z6 hu sx na2 ta2 ex eu eX;have qg:=(cells5 HB.out.2.2).2.2.2.1;have hjl:=hlt
     go_upto_region 12 with fail
     clear qg;refine sT (n:=19) (S:=fun w'=>w'.cell? ⟨g4,3,none⟩=some (.slice (some ad) M kA)∧w'.cell? (ad.add (i * 3))=some (.bool x.f0)∧w'.cell? ⟨(ad.add (i * 3)).block,(ad.add (i * 3)).off+1,none⟩=some (.slice K1 x.f1.length k1)∧w'.cell? ⟨(ad.add (i * 3)).block,(ad.add (i * 3)).off+2,none⟩=some (.slice K2 x.f2.length k2)∧w'.cell? ⟨(pa.add (j * 5)).block,(pa.add (j * 5)).off+3,none⟩=some (.slice (some ad3) M c3)∧w'.cell? (ad3.add (i * 3))=some (.bool u.f0)∧w'.cell? ⟨(ad3.add (i * 3)).block,(ad3.add (i * 3)).off+1,none⟩=some (.slice M1 u.f1.length m1)∧w'.cell? ⟨(ad3.add (i * 3)).block,(ad3.add (i * 3)).off+2,none⟩=some (.slice M2 u.f2.length m2)) (ds:=[18]) (by kernel_rfl) rfl ZA.out (fun hHeld=>?_);refine with_tabW ref20_Sum.tab12 ref20_Sum.bits12 (fun HT_ HW_=>?_);refine zp 0 78 ?_;refine zp 2 80 ?_;refine zp 3 81 ?_;refine zp 5 83 ?_;refine zp 8 86 ?_;refine zp 9 87 ?_;refine zp 10 88 ?_;refine zp 11 89 ?_;refine zp 13 91 ?_;refine zt 1 79 ?_;refine zt 4 82 ?_;refine zp 6 84 ?_;refine zt 7 85 ?_;refine zt 12 90 ?_;refine zp 14 92 ?_;refine zt 15 93 ?_
     refine oN 16 (some 94) rfl rfl fun K hK=>?_
     obtain ⟨wc,hwc⟩ : ∃ z,wr.drew=z:=⟨_,rfl⟩;have HW : Aside0 (Below wr.heap.size wr wc):=⟨by rw [← hwc];exact below_drew1 (Below.refl _ _)⟩;rw [hwc];clear hwc;refine goes_ Try.func39 (by kernel_rfl) rfl #[.agg #[.bool x.f0,.slice K1 x.f1.length k1,.slice K2 x.f2.length k2],.agg #[.bool u.f0,.slice M1 u.f1.length m1,.slice M2 u.f2.length m2]] (by rfl) rfl rfl (by simp only [List.map_toArray,List.map_cons,List.map_nil];rfl) ?_
     with_reducible refine (SX.out.go (k63.K_below HW.out KX.out) (k63.K_below HW.out KU.out)).mono ?_
     rintro e wc ⟨P1,p1,P2,p2,rfl,hxk,hb⟩;refine ⟨_,rfl,?_⟩;have HXK:=Aside0.mk hxk;replace HW:=Aside0.mk (below_step HW.out hb);clear hxk hb;refine hK.out _ _ (kE HW.out ZA.out) (fun hHeld=>?_);clear hK K;refine nZ ?_;refine zp 17 95 ?_
     refine lN 18 (none) rfl rfl fun K hK=>?_
     have q0:=keepc HW.out ZA.out.2.1;have q1:=keepc HW.out ZA.out.2.2.1;have q2:=keepc HW.out ZA.out.2.2.2.1;have q3:=(HO.out.1.below HW.out).free (i * 3);have q4:=next_cells (a:=.bool X.f0) (b:=.slice P1 X.f1.length p1) q1 q2;refine skip_ (w1:=?_) (by rfl) rfl ?_ ?_;rotate_left
     ·go_simp
      rfl
     clear q0 q1 q2 q3 q4;refine hK.out _ _ ?_;clear hK K;refine dN ?_;have e1 : g4≠(ad.add (i * 3)).block:=blk_ne HO.out.1 HB.out.2.2 (by decide) _;have e0 : w.heap.size≠(ad.add (i * 3)).block:=blk_ne HO.out.1 HB.out.2.1 (by decide) _;have HB2:=Aside0.mk (show Below w.heap.size w (((wc.setCell (ad.add (i * 3)) (.bool X.f0)).setCell ⟨(ad.add (i * 3)).block,(ad.add (i * 3)).off+1,none⟩ (.slice P1 X.f1.length p1)).setCell ⟨(ad.add (i * 3)).block,(ad.add (i * 3)).off+2,none⟩ (.slice P2 X.f2.length p2))∧(((wc.setCell (ad.add (i * 3)) (.bool X.f0)).setCell ⟨(ad.add (i * 3)).block,(ad.add (i * 3)).off+1,none⟩ (.slice P1 X.f1.length p1)).setCell ⟨(ad.add (i * 3)).block,(ad.add (i * 3)).off+2,none⟩ (.slice P2 X.f2.length p2)).heap[w.heap.size]? = some (.cells #[.int .i64 0,.int .i64 0,.int .i64 0,.slice none 0 0,.slice none 0 0] 27 (0,0))∧(((wc.setCell (ad.add (i * 3)) (.bool X.f0)).setCell ⟨(ad.add (i * 3)).block,(ad.add (i * 3)).off+1,none⟩ (.slice P1 X.f1.length p1)).setCell ⟨(ad.add (i * 3)).block,(ad.add (i * 3)).off+2,none⟩ (.slice P2 X.f2.length p2)).heap[g4]? = some (.cells #[.int .i64 H.f0,.int .i64 H.f1,.int .i64 H.f2,.slice (some ad) M kA,.slice (some ad2) M kB] 27 (0,0)) from ⟨low_st3 (below_step HB.out.1 HW.out) (by rw [add_block];exact HO.out.1.from_) _ _ _,blk_st3 (blk_below HB.out.2.1 HW.out) e0,blk_st3 (blk_below HB.out.2.2 HW.out) e1⟩);have HO2:=Aside0.mk (show ORow (((wc.setCell (ad.add (i * 3)) (.bool X.f0)).setCell ⟨(ad.add (i * 3)).block,(ad.add (i * 3)).off+1,none⟩ (.slice P1 X.f1.length p1)).setCell ⟨(ad.add (i * 3)).block,(ad.add (i * 3)).off+2,none⟩ (.slice P2 X.f2.length p2)) w.heap.size ad kA ((mixQ (i+1) p.a q.a).map mkR)∧ORow (((wc.setCell (ad.add (i * 3)) (.bool X.f0)).setCell ⟨(ad.add (i * 3)).block,(ad.add (i * 3)).off+1,none⟩ (.slice P1 X.f1.length p1)).setCell ⟨(ad.add (i * 3)).block,(ad.add (i * 3)).off+2,none⟩ (.slice P2 X.f2.length p2)) w.heap.size ad2 kB ((mixQ i p.b q.b).map mkR)∧ad.block≠ad2.block from ⟨by rw [← TA.out.2];exact (HO.out.1.below HW.out).store TA.out.1 HXK.out,(HO.out.2.1.below HW.out).beside (HO.out.1.below HW.out) HO.out.2.2 i _ _ _,HO.out.2.2⟩)
     clear HB HO e0 e1 KX KU SX TA ZA HXK HW hHeld;obtain ⟨wr3,hwr3⟩ : ∃ z,((wc.setCell (ad.add (i * 3)) (.bool X.f0)).setCell ⟨(ad.add (i * 3)).block,(ad.add (i * 3)).off+1,none⟩ (.slice P1 X.f1.length p1)).setCell ⟨(ad.add (i * 3)).block,(ad.add (i * 3)).off+2,none⟩ (.slice P2 X.f2.length p2)=z:=⟨_,rfl⟩;rw [hwr3] at HB2 HO2 ⊢;clear hwr3;obtain ⟨wr,ewr⟩ : ∃ z,z=wr3:=⟨_,rfl⟩;subst ewr;have HB:=HB2;have HO:=HO2;clear HB2 HO2;have tX:=mixQ_set (i:=i) (p:=p.b) (q:=q.b) (by omega) (by omega);have gX:=mixQ_get (i:=i) (p:=p.b) (q:=q.b) (by omega) (by omega);have nX:=mixQ_length (i:=i) (p:=p.b) (q:=q.b) (by omega);obtain ⟨K1,k1,K2,k2,a0,a1,a2,hx⟩:=ORow.num HO.out.2.1 (i:=i) (by omega);rw [gX] at a0 a1 a2 hx;obtain ⟨ad4,M1,m1,M2,m2,eP,z4,z5,z6,hu⟩:=at_num (Kd.C_below HK.out.2.1 HB.out.1) (i:=i) (by omega) hil;subst eP;have sx : AddTo (mkR (p.b[i]'(by omega))) (mkR (q.b[i]'(by omega))) (mkR (p.b[i]'(by omega)+q.b[i]'(by omega))):=addR (by have h1:=szL_mem (List.getElem_mem (l:=p.b) (n:=i) (by omega));have h2 : szL p.b≤p.sz:=Nat.le_max_right _ _;have h3:=HPQ.out.2.2.2.2.1;omega) (by have h1:=szL_mem (List.getElem_mem (l:=q.b) (n:=i) (by omega));have h2 : szL q.b≤q.sz:=Nat.le_max_right _ _;have h3:=HPQ.out.2.2.2.2.2;omega)
     have na2 : i < ((mixQ i p.b q.b).map mkR).length:=by rw [List.length_map];omega
     have ta2 : ((mixQ i p.b q.b).map mkR).set i (mkR (p.b[i]'(by omega)+q.b[i]'(by omega)))=(mixQ (i+1) p.b q.b).map mkR:=by rw [← List.map_set,tX]
     obtain ⟨x,ex⟩ : ∃ x,mkR (p.b[i]'(by omega))=x:=⟨_,rfl⟩;obtain ⟨u,eu⟩ : ∃ x,mkR (q.b[i]'(by omega))=x:=⟨_,rfl⟩;obtain ⟨X,eX⟩ : ∃ x,mkR (p.b[i]'(by omega)+q.b[i]'(by omega))=x:=⟨_,rfl⟩;rw [ex] at a0 a1 a2 hx sx;rw [eu] at z4 z5 z6 hu sx;rw [eX] at sx ta2;have KX:=Aside0.mk hx;have KU:=Aside0.mk hu;have SX:=Aside0.mk sx;have TA:=Aside0.mk (And.intro na2 ta2);have ZB:=Aside0.mk (show wr.cell? ⟨g4,4,none⟩=some (.slice (some ad2) M kB)∧wr.cell? (ad2.add (i * 3))=some (.bool x.f0)∧wr.cell? ⟨(ad2.add (i * 3)).block,(ad2.add (i * 3)).off+1,none⟩=some (.slice K1 x.f1.length k1)∧wr.cell? ⟨(ad2.add (i * 3)).block,(ad2.add (i * 3)).off+2,none⟩=some (.slice K2 x.f2.length k2)∧wr.cell? ⟨(pa.add (j * 5)).block,(pa.add (j * 5)).off+4,none⟩=some (.slice (some ad4) M c4)∧wr.cell? (ad4.add (i * 3))=some (.bool u.f0)∧wr.cell? ⟨(ad4.add (i * 3)).block,(ad4.add (i * 3)).off+1,none⟩=some (.slice M1 u.f1.length m1)∧wr.cell? ⟨(ad4.add (i * 3)).block,(ad4.add (i * 3)).off+2,none⟩=some (.slice M2 u.f2.length m2) from ⟨(cells5 HB.out.2.2).2.2.2.2,a0,a1,a2,keepc HB.out.1 HK.out.2.2.2,z4,z5,z6⟩);clear tX gX nX a0 a1 a2 hx z4 z5 z6 hu sx na2 ta2 ex eu eX
     go_upto_region 13 with fail
     refine sT (n:=19) (S:=fun w'=>w'.cell? ⟨g4,4,none⟩=some (.slice (some ad2) M kB)∧w'.cell? (ad2.add (i * 3))=some (.bool x.f0)∧w'.cell? ⟨(ad2.add (i * 3)).block,(ad2.add (i * 3)).off+1,none⟩=some (.slice K1 x.f1.length k1)∧w'.cell? ⟨(ad2.add (i * 3)).block,(ad2.add (i * 3)).off+2,none⟩=some (.slice K2 x.f2.length k2)∧w'.cell? ⟨(pa.add (j * 5)).block,(pa.add (j * 5)).off+4,none⟩=some (.slice (some ad4) M c4)∧w'.cell? (ad4.add (i * 3))=some (.bool u.f0)∧w'.cell? ⟨(ad4.add (i * 3)).block,(ad4.add (i * 3)).off+1,none⟩=some (.slice M1 u.f1.length m1)∧w'.cell? ⟨(ad4.add (i * 3)).block,(ad4.add (i * 3)).off+2,none⟩=some (.slice M2 u.f2.length m2)) (ds:=[18]) (by kernel_rfl) rfl ZB.out (fun hHeld=>?_);refine with_tabW ref20_Sum.tab13 ref20_Sum.bits13 (fun HT_ HW_=>?_);refine zp 0 96 ?_;refine zp 2 98 ?_;refine zp 3 99 ?_;refine zp 5 101 ?_;refine zp 8 104 ?_;refine zp 9 105 ?_;refine zp 10 106 ?_;refine zp 11 107 ?_;refine zp 13 109 ?_;refine zt 1 97 ?_;refine zt 4 100 ?_;refine zp 6 102 ?_;refine zt 7 103 ?_;refine zt 12 108 ?_;refine zp 14 110 ?_;refine zt 15 111 ?_
     refine oN 16 (some 112) rfl rfl fun K hK=>?_
     obtain ⟨wc,hwc⟩ : ∃ z,wr.drew=z:=⟨_,rfl⟩;have HW : Aside0 (Below wr.heap.size wr wc):=⟨by rw [← hwc];exact below_drew1 (Below.refl _ _)⟩;rw [hwc];clear hwc;refine goes_ Try.func39 (by kernel_rfl) rfl #[.agg #[.bool x.f0,.slice K1 x.f1.length k1,.slice K2 x.f2.length k2],.agg #[.bool u.f0,.slice M1 u.f1.length m1,.slice M2 u.f2.length m2]] (by rfl) rfl rfl (by simp only [List.map_toArray,List.map_cons,List.map_nil];rfl) ?_
     with_reducible refine (SX.out.go (k63.K_below HW.out KX.out) (k63.K_below HW.out KU.out)).mono ?_
     rintro e wc ⟨P1,p1,P2,p2,rfl,hxk,hb⟩;refine ⟨_,rfl,?_⟩;have HXK:=Aside0.mk hxk;replace HW:=Aside0.mk (below_step HW.out hb);clear hxk hb;refine hK.out _ _ (kE HW.out ZB.out) (fun hHeld=>?_);clear hK K;refine nZ ?_;refine zp 17 113 ?_
     refine lN 18 (none) rfl rfl fun K hK=>?_
     have q0:=keepc HW.out ZB.out.2.1;have q1:=keepc HW.out ZB.out.2.2.1;have q2:=keepc HW.out ZB.out.2.2.2.1;have q3:=(HO.out.2.1.below HW.out).free (i * 3);have q4:=next_cells (a:=.bool X.f0) (b:=.slice P1 X.f1.length p1) q1 q2;refine skip_ (w1:=?_) (by rfl) rfl ?_ ?_;rotate_left
     ·go_simp
      rfl
     clear q0 q1 q2 q3 q4;refine hK.out _ _ ?_;clear hK K;refine dN ?_;have e1 : g4≠(ad2.add (i * 3)).block:=blk_ne HO.out.2.1 HB.out.2.2 (by decide) _;have e0 : w.heap.size≠(ad2.add (i * 3)).block:=blk_ne HO.out.2.1 HB.out.2.1 (by decide) _;have HB2:=Aside0.mk (show Below w.heap.size w (((wc.setCell (ad2.add (i * 3)) (.bool X.f0)).setCell ⟨(ad2.add (i * 3)).block,(ad2.add (i * 3)).off+1,none⟩ (.slice P1 X.f1.length p1)).setCell ⟨(ad2.add (i * 3)).block,(ad2.add (i * 3)).off+2,none⟩ (.slice P2 X.f2.length p2))∧(((wc.setCell (ad2.add (i * 3)) (.bool X.f0)).setCell ⟨(ad2.add (i * 3)).block,(ad2.add (i * 3)).off+1,none⟩ (.slice P1 X.f1.length p1)).setCell ⟨(ad2.add (i * 3)).block,(ad2.add (i * 3)).off+2,none⟩ (.slice P2 X.f2.length p2)).heap[w.heap.size]? = some (.cells #[.int .i64 0,.int .i64 0,.int .i64 0,.slice none 0 0,.slice none 0 0] 27 (0,0))∧(((wc.setCell (ad2.add (i * 3)) (.bool X.f0)).setCell ⟨(ad2.add (i * 3)).block,(ad2.add (i * 3)).off+1,none⟩ (.slice P1 X.f1.length p1)).setCell ⟨(ad2.add (i * 3)).block,(ad2.add (i * 3)).off+2,none⟩ (.slice P2 X.f2.length p2)).heap[g4]? = some (.cells #[.int .i64 H.f0,.int .i64 H.f1,.int .i64 H.f2,.slice (some ad) M kA,.slice (some ad2) M kB] 27 (0,0)) from ⟨low_st3 (below_step HB.out.1 HW.out) (by rw [add_block];exact HO.out.2.1.from_) _ _ _,blk_st3 (blk_below HB.out.2.1 HW.out) e0,blk_st3 (blk_below HB.out.2.2 HW.out) e1⟩);have HO2:=Aside0.mk (show ORow (((wc.setCell (ad2.add (i * 3)) (.bool X.f0)).setCell ⟨(ad2.add (i * 3)).block,(ad2.add (i * 3)).off+1,none⟩ (.slice P1 X.f1.length p1)).setCell ⟨(ad2.add (i * 3)).block,(ad2.add (i * 3)).off+2,none⟩ (.slice P2 X.f2.length p2)) w.heap.size ad kA ((mixQ (i+1) p.a q.a).map mkR)∧ORow (((wc.setCell (ad2.add (i * 3)) (.bool X.f0)).setCell ⟨(ad2.add (i * 3)).block,(ad2.add (i * 3)).off+1,none⟩ (.slice P1 X.f1.length p1)).setCell ⟨(ad2.add (i * 3)).block,(ad2.add (i * 3)).off+2,none⟩ (.slice P2 X.f2.length p2)) w.heap.size ad2 kB ((mixQ (i+1) p.b q.b).map mkR)∧ad.block≠ad2.block from ⟨(HO.out.1.below HW.out).beside (HO.out.2.1.below HW.out) (fun e=>HO.out.2.2 e.symm) i _ _ _,by rw [← TA.out.2];exact (HO.out.2.1.below HW.out).store TA.out.1 HXK.out,HO.out.2.2⟩)
     clear HB HO e0 e1 KX KU SX TA ZB HXK HW hHeld;obtain ⟨wr3,hwr3⟩ : ∃ z,((wc.setCell (ad2.add (i * 3)) (.bool X.f0)).setCell ⟨(ad2.add (i * 3)).block,(ad2.add (i * 3)).off+1,none⟩ (.slice P1 X.f1.length p1)).setCell ⟨(ad2.add (i * 3)).block,(ad2.add (i * 3)).off+2,none⟩ (.slice P2 X.f2.length p2)=z:=⟨_,rfl⟩;rw [hwr3] at HB2 HO2 ⊢;clear hwr3
     go_wp2
     go_roundw
     case rel=>exact ⟨i+1,hil,by go_num,HB2,HO2⟩
     case measure=>simp [intOf];omega
    ·obtain rfl : i=M:=by omega
     have hil2 : decide ((i : Int) < (i : Int))=false:=by simp
     have qg:=(cells5 HB.out.2.2).2.2.2.1
     go_wp2
     go_roundw
     case rel=>exact ⟨j+1,hlt,by go_num,HB,HGN,⟨fun hs=>⟨rfl,rfl,rfl,rfl,rfl,HS.out.2.2.1,HS.out.2.2.2,ad,ad2,rfl,rfl,by
      rw [HFO.out];have h1:=HO.out.1;have h2:=HO.out.2.1;obtain ⟨la,lb,lc,ld,_,_⟩:=HPQ.out;rw [show mixQ i p.a q.a=List.zipWith (· + ·) p.a q.a by rw [← la];exact mixQ_all (by omega)] at h1;rw [show mixQ i p.b q.b=List.zipWith (· + ·) p.b q.b by rw [← lb];exact mixQ_all (by omega)] at h2
      exact ⟨h1,h2,HO.out.2.2⟩⟩⟩⟩
     case measure=>simp [intOf];omega
  ·obtain rfl : j=Fs.length:=by omega
   have hlb : decide ((Fs.length : Int) < (Fs.length : Int))=false:=by simp
   have hsm : sumB Fs=true:=(sumB_iff HH0.out).mpr (fun i h=>by rw [HEH.out];exact HG.out i h h);have hg0:=HG.out 0 HH0.out HH0.out;rw [HEH.out] at hg0
   have hall : ∀ F∈Fs,chkF F=true∧F.f0=H.f0∧F.f1=H.f1∧F.f2=H.f2:=fun F hF=>by
    obtain ⟨i,hi,rfl⟩:=List.mem_iff_getElem.mp hF;have h2:=HG.out i hi hi;unfold good at h2;simp only [Bool.and_eq_true,beq_iff_eq] at h2;exact ⟨h2.1.1.1,h2.1.1.2,h2.1.2,h2.2⟩
   have hs : szs H.f0 H.f1 H.f2=true:=by
    unfold good at hg0;simp only [Bool.and_eq_true] at hg0;exact (fits_of hg0.1.1.1).1
   have hM:=HM.out hs;obtain ⟨rfl,rfl,rfl,eA,eB,lA,lB,ad,ad2,rfl,rfl,hrw⟩:=HN.out hs;obtain rfl:=eA.symm;obtain rfl:=eB.symm
   have hsum : foldQ M Fs Fs.length=sumQ (Fs.map qF):=by
    have hq : ∀ q∈Fs.map qF,(zeroQ M).add q=q:=fun q hq=>by
     obtain ⟨F,hF,rfl⟩:=List.mem_map.mp hq;obtain ⟨c,e1,e2,e3⟩:=hall F hF;exact zero_add hM (by rw [← e1,← e2,← e3];exact (fits_of c).2)
    unfold foldQ;rw [show Fs.length=(Fs.map qF).length by rw [List.length_map],List.take_length]
    cases hl : Fs.map qF with
    | nil =>
     rw [List.map_eq_nil_iff] at hl;have:=HH0.out;rw [hl] at this;exact absurd this (by decide)
    | cons a l =>
     rw [hl] at hq
     show l.foldl QF.add ((zeroQ M).add a)=l.foldl QF.add a
     rw [hq a (by simp)]
   rw [hsum] at hrw;have HE:=Aside0.mk (And.intro hsm (And.intro hall (And.intro hs (And.intro hM (And.intro lA (And.intro lB hrw))))));clear hsm hg0 hall hs hM eA eB lA lB hrw hsum HN HG;have q0:=cells5 HB.out.2.2;have q1:=cells5 HB.out.2.1;have q2:=free5 HB.out.2.1
   go_wp2
   refine bodyPost_ret (results_ct rfl _ _ w.heap.size 27 _ (0,0) _ rfl (put5 HB.out.2.1 (.int .i64 H.f0) (.int .i64 H.f1) (.int .i64 H.f2) (.slice (some ad) M kA) (.slice (some ad2) M kB)) Try.underlying27 rfl (by kernel_rfl)) rfl ?_;exact ⟨low5 (g:=w.heap.size) HB.out.1 (Nat.le_refl _) _ _ _ _ _,.inr ⟨HE.out.1,H.f0,H.f1,H.f2,M,HE.out.2.2.1,HE.out.2.2.2.1,fun F hF=>(HE.out.2.1 F hF).2,ad,kA,ad2,kB,rfl,HE.out.2.2.2.2.1,HE.out.2.2.2.2.2.1,HE.out.2.2.2.2.2.2.tk (tk_set5 HB.out.2.1 (by decide) _ _ _ _ _ inferInstance)⟩⟩
end Go.Proofs.Ytjiaobcoeegioaa.Pq
end
section
namespace Go.Proofs.Ytjiaobcoeegioaa.Pq
open Go.RowKit Go.Proofs.YtjiaobcoeegioaaW.PrintWords Go.Proofs.YtjiaobcoeegioaaW.PrintLast Go.Proofs.YtjiaobcoeegioaaW.PrintMore Go.Proofs.Ytjiaobcoeegioaa.N
theorem may_sum {Fs : List S27} {k : Int} : mayB Fs k=(decide (1≤Fs.length) && decide (Fs.length≤4096) && decide (1≤k) && decide (k≤64) && sumB Fs):=by
 cases Fs with
 | nil=>simp [mayB]
 | cons H R=>simp [mayB,sumB]
def Lens (Fs : List S27) : Prop:=∀ F∈Fs,F.f3.length < 4611686018427387904∧F.f4.length < 4611686018427387904
theorem sum20B {n0 : Nat} {Fs : List S27} (H : Parts Fs n0) (HL : Lens Fs) {A0 : Option Addr} {c0 : Nat} {w : World} (hr : Kd.C k27 w A0 Fs.length Fs) {b : Bool} (hb : sumB Fs=b) :
  Calls Try.prog 25 #[.slice A0 Fs.length c0] w fun e w'=>∃ fW fh fb A n c B m d,e=.returned (.tuple #[.agg #[.int .i64 fW,.int .i64 fh,.int .i64 fb,.slice A n c,.slice B m d],.bool b])∧Below w.heap.size w w':=by
 refine (sum20_sem H HL A0 c0 w hr).mono ?_;subst hb;rintro e w' ⟨hb,⟨h1,he⟩|⟨h1,W,h,b,M,_,_,_,ad,c,ad2,c2,he,_⟩⟩
 ·rw [h1]
  exact ⟨_,_,_,_,_,_,_,_,_,he,hb⟩
 ·rw [h1]
  exact ⟨_,_,_,_,_,_,_,_,_,he,hb⟩
set_option maxHeartbeats 4000000 in
set_option maxRecDepth 100000 in
theorem may_sem {n0 : Nat} {Fs : List S27} (H : Parts Fs n0) (HL : Lens Fs) (k : Int) {A0 : Option Addr} {c0 : Nat} {w : World} (hr : Kd.C k27 w A0 Fs.length Fs) {b : Bool} (hb : mayB Fs k=b) :
  Calls Try.prog 13 #[.slice A0 Fs.length c0,.int .i64 k] w fun e w'=>e=.returned (.bool b)∧Below w.heap.size w w':=by
 rw [may_sum] at hb;have HP:=Aside0.mk (And.intro H (And.intro HL hr))
 have hmax : Fs.length≤9223372036854775807:=by have:=Kd.C_max hr;simpa using this
 clear H HL hr;subst hb
 go_enter Try.func13,Try.ntmps13
 rcases Nat.lt_or_ge Fs.length 1 with h0|h0
 ·have cz : decide ((Fs.length : Int) < 1)=true:=decide_eq_true (by omega)
  rw [decide_eq_false (show ¬ 1≤Fs.length by omega),Bool.false_and,Bool.false_and,Bool.false_and,Bool.false_and]
  go_wp2
  go_ret
  exact ⟨rfl,Below.refl _ _⟩
 have cz : decide ((Fs.length : Int) < 1)=false:=decide_eq_false (by omega);rw [decide_eq_true h0,Bool.true_and]
 rcases Nat.lt_or_ge 4096 Fs.length with h1|h1
 ·have cz1 : decide (4096 < (Fs.length : Int))=true:=decide_eq_true (by omega)
  rw [decide_eq_false (show ¬ Fs.length≤4096 by omega),Bool.false_and,Bool.false_and,Bool.false_and]
  go_wp2
  go_ret
  exact ⟨rfl,Below.refl _ _⟩
 have cz1 : decide (4096 < (Fs.length : Int))=false:=decide_eq_false (by omega);rw [decide_eq_true (show Fs.length≤4096 from h1),Bool.true_and]
 rcases Int.lt_or_le k 1 with h2|h2
 ·have cz2 : decide (k < 1)=true:=decide_eq_true h2
  rw [decide_eq_false (show ¬ 1≤k by omega),Bool.false_and,Bool.false_and]
  go_wp2
  go_ret
  exact ⟨rfl,Below.refl _ _⟩
 have cz2 : decide (k < 1)=false:=decide_eq_false (by omega);rw [decide_eq_true h2,Bool.true_and]
 rcases Int.lt_or_le 64 k with h3|h3
 ·have cz3 : decide (64 < k)=true:=decide_eq_true h3
  rw [decide_eq_false (show ¬ k≤64 by omega),Bool.false_and]
  go_wp2
  go_ret
  exact ⟨rfl,Below.refl _ _⟩
 have cz3 : decide (64 < k)=false:=decide_eq_false (by omega);rw [decide_eq_true h3,Bool.true_and];obtain ⟨b,hb⟩ : ∃ b,sumB Fs=b:=⟨_,rfl⟩;rw [hb];have HS:=Aside0.mk hb;clear hb h0 h1 h2 h3
 go_wp2_with (first
  | (go_at_call 25;(with_reducible refine (sum20B HP.out.1 HP.out.2.1 HP.out.2.2 HS.out).mono ?_);rintro e w1 ⟨fW,fh,fb,A,n,c,B,m,d,rfl,hb⟩;have HB:=Aside0.mk hb;clear hb))
 go_ret
 exact ⟨rfl,below_alloc HB.out _⟩
end Go.Proofs.Ytjiaobcoeegioaa.Pq
end
section
namespace Go.Proofs.Ytjiaobcoeegioaa.Pq
open Go.RowKit Go.Proofs.YtjiaobcoeegioaaW.PrintWords Go.Proofs.YtjiaobcoeegioaaW.PrintLast Go.Proofs.YtjiaobcoeegioaaW.PrintMore Go.Proofs.Ytjiaobcoeegioaa.N
namespace X
def rcan.T6 : Bool × List (List Nat × List Nat):=(true,[([],[]),([0],[0]),([1],[1]),([2],[2]),([3,2],[2,3]),([2,4],[2,4]),([5,2],[5]),([6],[6]),([7,6],[6,7]),([8,6,6],[6,8]),([9],[9]),([10,9],[9,10]),([11,9],[9,11]),([12,9],[9,12]),([9],[9]),([14,9],[9,14]),([15,9],[9,15]),([16,9],[9,16]),([17,9],[9,17]),([13,18,9],[9,13,18]),([9,19,6],[6,9,19]),([6,20],[6,20]),([21,9],[21]),([22],[22]),([23,22],[22,23]),([24,22,22],[22,24]),([25],[25]),([26,25],[25,26]),([27,25],[25,27]),([28,25],[25,28]),([29,25],[25,29]),([25,30,22],[22,25,30]),([22,31],[22,31])])
def rcan.B6 : List Nat:=[0,1,3,7,15,31,63,127,255,511,1023,2047,4095,8191,1023,17407,50175,115711,246783,524287,1048575,2097151,4194303,8388607,16777215,33554431,67108863,134217727,268435455,536870911,1073741823,2147483647,4294967295]
theorem rcan.tab6 : rtab .any (opsOf Try.f21 6)=rcan.T6:=by kernel_rfl
theorem rcan.bits6 : waitsOk rcan.T6.2 rcan.B6=true:=by kernel_rfl
end X
open X
section
variable {W : World} {Q t : Nat} {ws : List (Nat × Nat)}
theorem wat (h : W.heap[Q]? = some (.cells (wcs ws).toArray t (0,0))) {i : Nat} (hi : i < ws.length) : W.cell? ⟨Q,i * 2,none⟩=some (.int .i64 ws[i].1)∧W.cell? ⟨Q,i * 2+1,none⟩=some (.int .i64 ws[i].2)∧W.frozen? ⟨Q,i * 2,none⟩=false∧W.frozen? ⟨Q,i * 2+1,none⟩=false:=by
 have h2:=wcs_get ws i hi;exact ⟨(blk_cell h _).trans (by simpa using h2.1),(blk_cell h _).trans (by simpa using h2.2),blk_frozen h _,blk_frozen h _⟩
theorem wset (h : W.heap[Q]? = some (.cells (wcs ws).toArray t (0,0))) {i : Nat} (hi : i < ws.length) (st tk : Nat) : ((W.setCell ⟨Q,i * 2,none⟩ (.int .i64 st)).setCell ⟨Q,i * 2+1,none⟩ (.int .i64 tk)).heap[Q]? = some (.cells (wcs (ws.set i (st,tk))).toArray t (0,0)) :=
 blk_put (blk_put h _ _ rfl) _ _ (by rw [List.setIfInBounds_toArray,List.setIfInBounds_toArray,(wcs_set ws i hi st tk).2])
end
set_option maxHeartbeats 4000000 in
set_option maxRecDepth 100000 in
theorem rcan_sem {w : World} {P Q : Nat} {v1 v2 v3 v4 v5 v9 : Value} {pA : Option Addr} {n pc : Nat} {s : PS} {k : Nat} (hP : w.heap[P]? = some (.cells #[.slice pA n pc,v1,v2,v3,v4,v5,.int .i64 s.c,.bool s.l,.slice (some ⟨Q,0,none⟩) k k,v9] 55 (0,0))) (hk : s.ws.length=k) (hk2 : k≤64) (hW : w.heap[Q]? = some (.cells (wcs s.ws).toArray 73 (0,0))) (h3 : ∀ x∈s.ws,x.1≤3) :
  Calls Try.prog 21 #[.pointer (some ⟨P,0,none⟩)] w fun e w'=>∃ v,e=.returned v∧IRow w' w.heap.size v ((s.en n).map Int.ofNat)∧Below w.heap.size w w':=by
 have HP:=Aside0.mk hP;have HW:=Aside0.mk hW;have H3:=Aside0.mk h3;have hlt:=blk_lt hP;clear hP hW h3
 go_enter Try.func21,Try.ntmps21
 go_wp2
 have hl0 : IRow (w.alloc (.cells #[] 3)) w.heap.size (.slice (some ⟨w.heap.size,0,none⟩) 0 0) []:=own_lit w w.heap.size 3 .i64 [] (Nat.le_refl _) (by simp);have HB0:=Aside0.mk (And.intro (below_alloc (Below.refl w.heap.size w) (.cells #[] 3)) hl0);clear hl0
 go_loopw [3,4] (fun v x wr=>∃ i : Nat,i≤k∧x=.int .i64 i∧Aside0 (Below w.heap.size w wr)∧Aside0 (IRow wr w.heap.size v (((List.range i).filter (s.can n)).map Int.ofNat))) (fun _ x _=>k - (intOf x).toNat)
 case atStart=>exact ⟨0,Nat.zero_le _,rfl,⟨HB0.out.1⟩,⟨HB0.out.2⟩⟩
 case round =>
  clear HB0;obtain ⟨i,hi,rfl,HB,HI⟩:=hrel;have q0:=cells10 (blk_below HP.out HB.out)
  by_cases hil : i < k
  ·have hil2 : decide ((i : Int) < (k : Int))=true:=decide_eq_true (by omega)
   have q1:=wat (blk_below HW.out HB.out) (i:=i) (by omega)
   have hr : ((List.range (i+1)).filter (s.can n)).map Int.ofNat=((List.range i).filter (s.can n)).map Int.ofNat++(if s.can n i then [(i : Int)] else []):=by
    rw [List.range_succ,List.filter_append,List.map_append]
    congr 1
    by_cases h : s.can n i=true <;> simp [h]
   have hcan : s.can n i=canW n s.c s.l (s.ws[i]'(by omega)).1:=by
    unfold PS.can;rw [List.getD_eq_getElem?_getD,List.getElem?_eq_getElem (by omega)];rfl
   rw [hcan] at hr;have h3:=H3.out (s.ws[i]'(by omega)) (List.getElem_mem _)
   have hlen : (((List.range i).filter (s.can n)).map Int.ofNat).length≤i:=by
    rw [List.length_map];exact Nat.le_trans (List.length_filter_le _ _) (by simp)
   generalize s.ws[i]'(by omega)=x at q1 hr h3;obtain ⟨st,tk⟩:=x;dsimp only at q1 hr h3;generalize ((List.range i).filter (s.can n)).map Int.ofNat=ys at hr HI hlen;obtain ⟨b,hb⟩ : ∃ b,canW n s.c s.l st=b:=⟨_,rfl⟩;rw [hb] at hr;have HR:=Aside0.mk hr;clear hr hcan;obtain ⟨c,ec⟩ : ∃ c,s.c=c:=⟨_,rfl⟩;obtain ⟨l,el⟩ : ∃ l,s.l=l:=⟨_,rfl⟩;have q2:=cells10 (blk_below HP.out (below_drew1 HB.out));rw [ec,el] at hb q0 q2;obtain ⟨b0,hb0⟩ : ∃ b,decide ((c : Int) < (n : Int))=b:=⟨_,rfl⟩
   have hb1 : decide (c < n)=b0:=by rw [← hb0];simp
   clear ec el
   obtain rfl|rfl|rfl|rfl : st=0∨st=1∨st=2∨st=3:=by omega
   all_goals
    cases b0
    all_goals
     subst hb
     go_upto_region 6 with fail
     refine sT (n:=33) (S:=fun w'=>w'.cell? ⟨P,0,none⟩=some (.slice pA n pc)∧w'.cell? ⟨P,6,none⟩=some (.int .i64 c)∧w'.cell? ⟨P,7,none⟩=some (.bool l)) (ds:=[]) (by kernel_rfl) rfl ⟨q2.1,q2.2.2.2.2.2.2.1,q2.2.2.2.2.2.2.2.1⟩ (fun hHeld=>?_);refine with_tabW rcan.tab6 rcan.bits6 (fun HT_ HW_=>?_);refine zp 0 24 ?_;refine zp 1 25 ?_;refine zp 2 26 ?_;refine zp 3 27 ?_;refine zp 4 28 ?_;refine zp 5 29 ?_;refine zp 6 30 ?_;refine zp 7 31 ?_;refine zp 8 32 ?_;refine zp 9 33 ?_;refine zp 10 34 ?_;refine zp 11 35 ?_;refine zp 12 36 ?_;refine zp 14 38 ?_;refine zp 15 39 ?_;refine zp 16 40 ?_;refine zt 13 37 ?_;refine zt 17 41 ?_;refine zp 18 42 ?_;refine zp 19 43 ?_;refine zp 20 44 ?_;refine zp 21 45 ?_;refine zp 22 46 ?_;refine zp 23 47 ?_;refine zp 24 48 ?_;refine zp 25 49 ?_;refine zp 26 50 ?_;refine zp 27 51 ?_;refine zp 28 52 ?_;refine zt 29 53 ?_;refine zp 30 54 ?_;refine zp 31 55 ?_;refine zp 32 56 ?_;refine dN ?_;have HB1:=Aside0.mk (below_drew1 HB.out);have HI1:=Aside0.mk (own_drew HI.out);clear hHeld q0 q1 q2
     all_goals
      cases l
     all_goals
      go_wp2_with (first
       | (at_builtin;refine print_append_cells (w0:=w) w.heap.size rfl (.tmp 57) (.tmp 59) 23 3 (.int .i64 0) 1 8 rfl Try.underlying23 info3 rfl (by decide) (by decide) _ _ _ [.int .i64 i] rfl rfl rfl (by simp [Value.oneCell']) HI1.out HB1.out HB1.out.size (by omega) ?_;intro v3 w3 hown hB3 hg _;have HI2:=Aside0.mk hown;have HB2:=Aside0.mk hB3;clear hown hB3 hg))
      go_roundw
      case measure=>simp [intOf];omega
      case rel =>
       refine ⟨i+1,hil,by go_num,?_⟩
       first
       | exact ⟨HB2,⟨by rw [HR.out];have h:=HI2.out;simpa [IRow,nums,canW,hb1] using h⟩⟩
       | exact ⟨HB1,⟨by rw [HR.out];simpa [canW,hb1] using HI1.out⟩⟩
  ·obtain rfl : i=k:=by omega
   have hil2 : decide ((i : Int) < (i : Int))=false:=by simp
   go_wp2
   go_ret
   exact ⟨_,rfl,by unfold PS.en;rw [hk];exact HI.out,HB.out⟩
end Go.Proofs.Ytjiaobcoeegioaa.Pq
end
section
namespace Go.Proofs.Ytjiaobcoeegioaa.Pq
open Go.RowKit Go.Proofs.YtjiaobcoeegioaaW.PrintWords Go.Proofs.YtjiaobcoeegioaaW.PrintLast Go.Proofs.YtjiaobcoeegioaaW.PrintMore Go.Proofs.Ytjiaobcoeegioaa.N
namespace X
def rstep.T13 : Bool × List (List Nat × List Nat):=(true,[([],[]),([],[]),([1],[1]),([2],[2]),([3],[3]),([],[]),([5],[5]),([6],[6]),([4,7],[4,7]),([0,0,1,2,3,4,5,6,7,8],[0]),([9,0,1,2,3,4,5,6,7,8],[9]),([10,8,8,0,1,2,3,4,5,6,7,8],[8,10])])
def rstep.B13 : List Nat:=[0,0,2,6,14,0,32,96,254,511,1023,2047]
theorem rstep.tab13 : rtab .any (opsOf Try.f22 13)=rstep.T13:=by kernel_rfl
theorem rstep.bits13 : waitsOk rstep.T13.2 rstep.B13=true:=by kernel_rfl
def rstep.T14 : Bool × List (List Nat × List Nat):=(true,[([],[]),([0],[0]),([1],[1]),([2],[2]),([],[]),([4],[4]),([5],[5]),([6],[6]),([],[]),([8],[8]),([7,9],[7,9]),([10],[10]),([3,11],[3,11]),([12],[12]),([13],[13]),([14],[14]),([14],[14]),([],[]),([17,15,13,0,1,2,3,4,5,6,7,8,9,10,11,12,13,14,15,17],[15,17]),([16,18,0,1,2,3,4,5,6,7,8,9,10,11,12,13,14,15,16,17,18],[16])])
def rstep.B14 : List Nat:=[0,1,3,7,0,16,48,112,0,256,1008,2032,4095,8191,16383,32767,32767,0,196607,524287]
theorem rstep.tab14 : rtab .any (opsOf Try.f22 14)=rstep.T14:=by kernel_rfl
theorem rstep.bits14 : waitsOk rstep.T14.2 rstep.B14=true:=by kernel_rfl
def rstep.T16 : Bool × List (List Nat × List Nat):=(true,[([],[]),([0],[0]),([1],[1]),([2],[2]),([],[]),([],[]),([3,4,0,1,2,3,4,5],[3,4]),([6,5,0,1,2,3,4,5],[5,6])])
def rstep.B16 : List Nat:=[0,1,3,7,0,0,63,127]
theorem rstep.tab16 : rtab .any (opsOf Try.f22 16)=rstep.T16:=by kernel_rfl
theorem rstep.bits16 : waitsOk rstep.T16.2 rstep.B16=true:=by kernel_rfl
end X
open X
set_option maxRecDepth 100000 in
theorem picked_sem {picks : List Int} {Ap : Option Addr} {cp : Nat} {w : World} (hp : (Kd.int .i64).C w Ap picks.length picks) {t l a : Nat} (hl : 0 < l) (hl2 : l≤64) (ha : pickAt picks t l=a) :
  Calls Try.prog 23 #[.slice Ap picks.length cp,.int .i64 t,.int .i64 l] w fun e w'=>e=.returned (.int .i64 a)∧Below w.heap.size w w':=by
 have hmax : picks.length≤9223372036854775807:=by have:=Kd.C_max hp;simpa using this
 by_cases ht : t < picks.length
 ·have c0 : decide ((picks.length : Int)≤(t : Int))=false:=decide_eq_false (by omega)
  have clb : ((l : Int) != 0)=true:=bne_iff_ne.mpr (by omega);have hpv:=pick_val (picks.getD t 0) hl hl2;unfold pickAt at ha;rw [if_pos ht] at ha;rw [ha] at hpv;obtain ⟨pd,epd,hpd⟩:=Kd.at_int hp (t : Int) (by omega) (by omega);subst epd;rw [Int.toNat_natCast,show rd picks (t : Int)=picks.getD t 0 by unfold rd;rw [Int.toNat_natCast]] at hpd;obtain ⟨p,ep⟩ : ∃ p,picks.getD t 0=p:=⟨_,rfl⟩;rw [ep] at hpv hpd;clear ha ep hl2 hp
  go_enter Try.func23,Try.ntmps23
  go_wp2
  go_ret
  exact ⟨rfl,Below.refl _ _⟩
 ·have c0 : decide ((picks.length : Int)≤(t : Int))=true:=decide_eq_true (by omega)
  unfold pickAt at ha;rw [if_neg ht] at ha;subst ha
  go_enter Try.func23,Try.ntmps23
  go_wp2
  go_ret
  exact ⟨rfl,Below.refl _ _⟩
structure RPl (w0 w : World) (P Q : Nat) (W h b : Int) (M : Nat) (A0 : Option Addr) (n pc k : Nat) (s : PS) (q : QF) : Prop where
 lo : Below w0.heap.size w0 w
 pl : w0.heap.size≤P
 ql : w0.heap.size≤Q
 ex : ∃ ad c ad2 c2 dv,w.heap[P]? = some (.cells #[.slice A0 n pc,.int .i64 W,.int .i64 h,.int .i64 b,.slice (some ad) M c,.slice (some ad2) M c2,.int .i64 s.c,.bool s.l,.slice (some ⟨Q,0,none⟩) k k,dv] 55 (0,0))∧M≤c∧M≤c2∧Rows w w0.heap.size q ad c ad2 c2∧IRow w w0.heap.size dv (s.done.map Int.ofNat)
 wk : w.heap[Q]? = some (.cells (wcs s.ws).toArray 73 (0,0))
section
variable {w0 w : World} {P Q : Nat} {W h b : Int} {M : Nat} {A0 : Option Addr} {n pc k : Nat} {s : PS} {q : QF}
theorem RPl.ne (H : RPl w0 w P Q W h b M A0 n pc k s q) : Q≠P:=fun e=>by
 obtain ⟨ad,c,ad2,c2,dv,hp,_⟩:=H.ex;have h1:=H.wk;rw [e,hp] at h1
 injection h1 with h1
 injection h1 with _ h2 _
 exact absurd h2 (by decide)
theorem RPl.below {w1 : World} (H : RPl w0 w P Q W h b M A0 n pc k s q) (hb : Below w.heap.size w w1) : RPl w0 w1 P Q W h b M A0 n pc k s q:=by
 obtain ⟨ad,c,ad2,c2,dv,hp,l1,l2,hr,hd⟩:=H.ex;exact ⟨below_step H.lo hb,H.pl,H.ql,⟨ad,c,ad2,c2,dv,blk_below hp hb,l1,l2,hr.below hb,pw_own_below hd hb⟩,blk_below H.wk hb⟩
theorem RPl.setP (H : RPl w0 w P Q W h b M A0 n pc k s q) {c' : Nat} {l' : Bool} {i : Nat} {v : Value} (hv : (i=6∧v=.int .i64 c'∧l'=s.l)∨(i=7∧v=.bool l'∧c'=s.c)) : RPl w0 (w.setCell ⟨P,i,none⟩ v) P Q W h b M A0 n pc k ⟨c',l',s.ws,s.done⟩ q:=by
 obtain ⟨ad,c,ad2,c2,dv,hp,l1,l2,hr,hd⟩:=H.ex;have k1 : Tk [3,63,82] w (w.setCell ⟨P,i,none⟩ v):=tk_set1 hp (by decide) i v inferInstance;refine ⟨H.lo.setCell (p:=⟨P,i,none⟩) H.pl v,H.pl,H.ql,⟨ad,c,ad2,c2,dv,?_,l1,l2,hr.tk (k1.less (by simp)),IRow.tk hd (k1.less (by simp))⟩,far1 H.wk H.ne _ _⟩
 rcases hv with ⟨rfl,rfl,rfl⟩|⟨rfl,rfl,rfl⟩
 ·exact blk_put hp 6 _ rfl
 ·exact blk_put hp 7 _ rfl
theorem RPl.setW (H : RPl w0 w P Q W h b M A0 n pc k s q) {i : Nat} (hi : i < s.ws.length) (st tk : Nat) : RPl w0 ((w.setCell ⟨Q,i * 2,none⟩ (.int .i64 st)).setCell ⟨Q,i * 2+1,none⟩ (.int .i64 tk)) P Q W h b M A0 n pc k ⟨s.c,s.l,s.ws.set i (st,tk),s.done⟩ q:=by
 obtain ⟨ad,c,ad2,c2,dv,hp,l1,l2,hr,hd⟩:=H.ex;have k2 : Tk [3,63,82] w ((w.setCell ⟨Q,i * 2,none⟩ (.int .i64 st)).setCell ⟨Q,i * 2+1,none⟩ (.int .i64 tk)):=tk_set1 (blk_set H.wk _ _) (by decide) _ _ (tk_set1 H.wk (by decide) _ _ inferInstance);exact ⟨(H.lo.setCell (p:=⟨Q,i * 2,none⟩) H.ql _).setCell (p:=⟨Q,i * 2+1,none⟩) H.ql _,H.pl,H.ql,⟨ad,c,ad2,c2,dv,far1 (far1 hp H.ne.symm _ _) H.ne.symm _ _,l1,l2,hr.tk (k2.less (by simp)),IRow.tk hd (k2.less (by simp))⟩,wset H.wk hi st tk⟩
set_option maxHeartbeats 400000 in
set_option maxRecDepth 100000 in
theorem rstep0 (H : RPl w0 w P Q W h b M A0 n pc k s q) {i : Nat} (hi : i < s.ws.length) (h0 : s.ws[i].1=0) (hc : s.c < 1000000) (hk : s.ws.length=k) :
  Calls Try.prog 22 #[.pointer (some ⟨P,0,none⟩),.int .i64 i] w fun e w'=>e=.returned (.tuple #[])∧RPl w0 w' P Q W h b M A0 n pc k ⟨s.c+1,s.l,s.ws.set i (1,s.c),s.done⟩ q:=by
 have HH:=Aside0.mk H;obtain ⟨ad,c,ad2,c2,dv,hp,_⟩:=H.ex;have q0:=cells10 hp;have q1:=free10 hp;have q2:=wat H.wk hi;rw [h0] at q2;have hne:=H.ne;have hne2:=hne.symm;have hP:=blk_lt hp;have hQ:=blk_lt H.wk;clear H hp
 go_enter Try.func22,Try.ntmps22
 go_wp2
 rw [show (s.c : Int)+1=((s.c+1 : Nat) : Int) by omega];have HA : Aside0 (RPl w0 ((w.setCell ⟨P,6,none⟩ (.int .i64 (s.c+1 : Nat))).alloc (.cells #[.int .i64 1,.int .i64 s.c] 73)) P Q W h b M A0 n pc k ⟨s.c+1,s.l,s.ws,s.done⟩ q):=⟨(HH.out.setP (i:=6) (c':=s.c+1) (l':=s.l) (.inl ⟨rfl,rfl,rfl⟩)).below (below_alloc (Below.refl _ _) _)⟩;have BX : Aside0 (((w.setCell ⟨P,6,none⟩ (.int .i64 (s.c+1 : Nat))).alloc (.cells #[.int .i64 1,.int .i64 s.c] 73)).heap[w.heap.size]? = some (.cells #[.int .i64 1,.int .i64 (s.c : Nat)] 73 (0,0))):=⟨by simpa using blk_new (w.setCell ⟨P,6,none⟩ (.int .i64 (s.c+1 : Nat))) (.cells #[.int .i64 1,.int .i64 (s.c : Nat)] 73)⟩;clear q0 q1 q2 hne hne2 hP hQ;obtain ⟨wa,hwa⟩ : ∃ z,(w.setCell ⟨P,6,none⟩ (.int .i64 (s.c+1 : Nat))).alloc (.cells #[.int .i64 1,.int .i64 s.c] 73)=z:=⟨_,rfl⟩;obtain ⟨X,eX⟩ : ∃ X,w.heap.size=X:=⟨_,rfl⟩;rw [hwa] at HA BX;rw [eX] at BX
 first|rw [hwa,eX]|rw [eX,hwa]
 clear hwa eX HH;obtain ⟨_,_,_,_,dx,hpx,_⟩:=HA.out.ex
 have hik : i < k:=by omega
 have d8:=(cells10 (blk_drew hpx)).2.2.2.2.2.2.2.2.1;have HQ:=Aside0.mk (wat HA.out.wk hi);have x0:=blk_cell (blk_drew BX.out) 0;have x1:=blk_cell (blk_drew BX.out) 1;clear hpx;refine sT (n:=8) (S:=fun w'=>w'.cell? ⟨P,8,none⟩=some (.slice (some ⟨Q,0,none⟩) k k)∧w'.cell? ⟨X,0,none⟩=some (.int .i64 1)∧w'.cell? ⟨X,1,none⟩=some (.int .i64 (s.c : Nat))) (ds:=[7]) (by kernel_rfl) rfl ⟨d8,x0,x1⟩ (fun hHeld=>?_);refine with_tabW rstep.tab16 rstep.bits16 (fun HT_ HW_=>?_);refine zp 0 77 ?_;refine zp 1 78 ?_;refine zp 2 79 ?_;refine zp 4 81 ?_;refine zt 3 80 ?_;refine zt 5 82 ?_;refine zp 6 83 ?_
 refine lN 7 (none) rfl rfl fun K hK=>?_
 obtain ⟨wc,hwc⟩ : ∃ z,wa.drew=z:=⟨_,rfl⟩;have HC : Aside0 (RPl w0 wc P Q W h b M A0 n pc k ⟨s.c+1,s.l,s.ws,s.done⟩ q):=⟨by rw [← hwc];exact HA.out.below (below_drew1 (Below.refl _ _))⟩;rw [hwc];clear hwc;have q1:=wat HC.out.wk hi;refine skip_ (w1:=?_) (by rfl) rfl ?_ ?_;rotate_left
 ·go_simp
  rfl
 clear q1;refine hK.out _ _ ?_;clear hK K;refine dN ?_
 go_wp2
 refine ⟨rfl,_,results_void rfl _ _,rfl,?_⟩;have k1:=HC.out.setW hi (1 : Nat) (s.c);rw [show ((1 : Nat) : Int)=1 from rfl] at k1;exact k1
set_option maxHeartbeats 400000 in
set_option maxRecDepth 100000 in
theorem rstep1 (H : RPl w0 w P Q W h b M A0 n pc k s q) {i : Nat} (hi : i < s.ws.length) (h0 : s.ws[i].1=1) (hk : s.ws.length=k) :
  Calls Try.prog 22 #[.pointer (some ⟨P,0,none⟩),.int .i64 i] w fun e w'=>e=.returned (.tuple #[])∧RPl w0 w' P Q W h b M A0 n pc k ⟨s.c,s.l,s.ws.set i (2,s.ws[i].2),s.done⟩ q:=by
 have HH:=Aside0.mk H;obtain ⟨ad,c,ad2,c2,dv,hp,_⟩:=H.ex;have q0:=cells10 hp;have q1:=free10 hp;have q2:=wat H.wk hi;rw [h0] at q2;have hne:=H.ne;have hne2:=hne.symm;have hP:=blk_lt hp;have hQ:=blk_lt H.wk;clear H hp
 go_enter Try.func22,Try.ntmps22
 go_wp2
 have HA : Aside0 (RPl w0 (w.alloc (.cells #[.int .i64 2,.int .i64 s.ws[i].2] 73)) P Q W h b M A0 n pc k s q):=⟨HH.out.below (below_alloc (Below.refl _ _) _)⟩;have BX : Aside0 ((w.alloc (.cells #[.int .i64 2,.int .i64 s.ws[i].2] 73)).heap[w.heap.size]? = some (.cells #[.int .i64 2,.int .i64 (s.ws[i].2 : Nat)] 73 (0,0))):=⟨by simpa using blk_new (w) (.cells #[.int .i64 2,.int .i64 (s.ws[i].2 : Nat)] 73)⟩;clear q0 q1 q2 hne hne2 hP hQ;obtain ⟨wa,hwa⟩ : ∃ z,w.alloc (.cells #[.int .i64 2,.int .i64 s.ws[i].2] 73)=z:=⟨_,rfl⟩;obtain ⟨X,eX⟩ : ∃ X,w.heap.size=X:=⟨_,rfl⟩;rw [hwa] at HA BX;rw [eX] at BX
 first|rw [hwa,eX]|rw [eX,hwa]
 clear hwa eX HH;obtain ⟨_,_,_,_,dx,hpx,_⟩:=HA.out.ex
 have hik : i < k:=by omega
 have d8:=(cells10 (blk_drew hpx)).2.2.2.2.2.2.2.2.1;have HQ:=Aside0.mk (wat HA.out.wk hi);have x0:=blk_cell (blk_drew BX.out) 0;have x1:=blk_cell (blk_drew BX.out) 1;clear hpx;refine sT (n:=8) (S:=fun w'=>w'.cell? ⟨P,8,none⟩=some (.slice (some ⟨Q,0,none⟩) k k)∧w'.cell? ⟨X,0,none⟩=some (.int .i64 2)∧w'.cell? ⟨X,1,none⟩=some (.int .i64 (s.ws[i].2 : Nat))) (ds:=[7]) (by kernel_rfl) rfl ⟨d8,x0,x1⟩ (fun hHeld=>?_);refine with_tabW rstep.tab16 rstep.bits16 (fun HT_ HW_=>?_);refine zp 0 77 ?_;refine zp 1 78 ?_;refine zp 2 79 ?_;refine zp 4 81 ?_;refine zt 3 80 ?_;refine zt 5 82 ?_;refine zp 6 83 ?_
 refine lN 7 (none) rfl rfl fun K hK=>?_
 obtain ⟨wc,hwc⟩ : ∃ z,wa.drew=z:=⟨_,rfl⟩;have HC : Aside0 (RPl w0 wc P Q W h b M A0 n pc k s q):=⟨by rw [← hwc];exact HA.out.below (below_drew1 (Below.refl _ _))⟩;rw [hwc];clear hwc;have q1:=wat HC.out.wk hi;refine skip_ (w1:=?_) (by rfl) rfl ?_ ?_;rotate_left
 ·go_simp
  rfl
 clear q1;refine hK.out _ _ ?_;clear hK K;refine dN ?_
 go_wp2
 refine ⟨rfl,_,results_void rfl _ _,rfl,?_⟩;have k1:=HC.out.setW hi (2 : Nat) (s.ws[i].2);rw [show ((2 : Nat) : Int)=2 from rfl] at k1;exact k1
set_option maxHeartbeats 400000 in
set_option maxRecDepth 100000 in
theorem rstep2 (H : RPl w0 w P Q W h b M A0 n pc k s q) {i : Nat} (hi : i < s.ws.length) (h0 : s.ws[i].1=2) (hk : s.ws.length=k) :
  Calls Try.prog 22 #[.pointer (some ⟨P,0,none⟩),.int .i64 i] w fun e w'=>e=.returned (.tuple #[])∧RPl w0 w' P Q W h b M A0 n pc k ⟨s.c,true,s.ws.set i (3,s.ws[i].2),s.done⟩ q:=by
 have HH:=Aside0.mk H;obtain ⟨ad,c,ad2,c2,dv,hp,_⟩:=H.ex;have q0:=cells10 hp;have q1:=free10 hp;have q2:=wat H.wk hi;rw [h0] at q2;have hne:=H.ne;have hne2:=hne.symm;have hP:=blk_lt hp;have hQ:=blk_lt H.wk;clear H hp
 go_enter Try.func22,Try.ntmps22
 go_wp2
 have HA : Aside0 (RPl w0 ((w.setCell ⟨P,7,none⟩ (.bool true)).alloc (.cells #[.int .i64 3,.int .i64 s.ws[i].2] 73)) P Q W h b M A0 n pc k ⟨s.c,true,s.ws,s.done⟩ q):=⟨(HH.out.setP (i:=7) (c':=s.c) (l':=true) (.inr ⟨rfl,rfl,rfl⟩)).below (below_alloc (Below.refl _ _) _)⟩;have BX : Aside0 (((w.setCell ⟨P,7,none⟩ (.bool true)).alloc (.cells #[.int .i64 3,.int .i64 s.ws[i].2] 73)).heap[w.heap.size]? = some (.cells #[.int .i64 3,.int .i64 (s.ws[i].2 : Nat)] 73 (0,0))):=⟨by simpa using blk_new (w.setCell ⟨P,7,none⟩ (.bool true)) (.cells #[.int .i64 3,.int .i64 (s.ws[i].2 : Nat)] 73)⟩;clear q0 q1 q2 hne hne2 hP hQ;obtain ⟨wa,hwa⟩ : ∃ z,(w.setCell ⟨P,7,none⟩ (.bool true)).alloc (.cells #[.int .i64 3,.int .i64 s.ws[i].2] 73)=z:=⟨_,rfl⟩;obtain ⟨X,eX⟩ : ∃ X,w.heap.size=X:=⟨_,rfl⟩;rw [hwa] at HA BX;rw [eX] at BX
 first|rw [hwa,eX]|rw [eX,hwa]
 clear hwa eX HH;obtain ⟨_,_,_,_,dx,hpx,_⟩:=HA.out.ex
 have hik : i < k:=by omega
 have d8:=(cells10 (blk_drew hpx)).2.2.2.2.2.2.2.2.1;have HQ:=Aside0.mk (wat HA.out.wk hi);have x0:=blk_cell (blk_drew BX.out) 0;have x1:=blk_cell (blk_drew BX.out) 1;clear hpx;refine sT (n:=8) (S:=fun w'=>w'.cell? ⟨P,8,none⟩=some (.slice (some ⟨Q,0,none⟩) k k)∧w'.cell? ⟨X,0,none⟩=some (.int .i64 3)∧w'.cell? ⟨X,1,none⟩=some (.int .i64 (s.ws[i].2 : Nat))) (ds:=[7]) (by kernel_rfl) rfl ⟨d8,x0,x1⟩ (fun hHeld=>?_);refine with_tabW rstep.tab16 rstep.bits16 (fun HT_ HW_=>?_);refine zp 0 77 ?_;refine zp 1 78 ?_;refine zp 2 79 ?_;refine zp 4 81 ?_;refine zt 3 80 ?_;refine zt 5 82 ?_;refine zp 6 83 ?_
 refine lN 7 (none) rfl rfl fun K hK=>?_
 obtain ⟨wc,hwc⟩ : ∃ z,wa.drew=z:=⟨_,rfl⟩;have HC : Aside0 (RPl w0 wc P Q W h b M A0 n pc k ⟨s.c,true,s.ws,s.done⟩ q):=⟨by rw [← hwc];exact HA.out.below (below_drew1 (Below.refl _ _))⟩;rw [hwc];clear hwc;have q1:=wat HC.out.wk hi;refine skip_ (w1:=?_) (by rfl) rfl ?_ ?_;rotate_left
 ·go_simp
  rfl
 clear q1;refine hK.out _ _ ?_;clear hK K;refine dN ?_
 go_wp2
 refine ⟨rfl,_,results_void rfl _ _,rfl,?_⟩;have k1:=HC.out.setW hi (3 : Nat) (s.ws[i].2);rw [show ((3 : Nat) : Int)=3 from rfl] at k1;exact k1
end
end Go.Proofs.Ytjiaobcoeegioaa.Pq
end
