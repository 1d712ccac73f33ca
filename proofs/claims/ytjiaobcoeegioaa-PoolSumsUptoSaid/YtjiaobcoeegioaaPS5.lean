import Derived.Test.YtjiaobcoeegioaaPS4
set_option linter.unusedVariables false
set_option linter.unusedSimpArgs false
section
namespace Go.Proofs.Ytjiaobcoeegioaa.Pq
open Go.RowKit Go.Proofs.YtjiaobcoeegioaaW.PrintWords Go.Proofs.YtjiaobcoeegioaaW.PrintLast Go.Proofs.YtjiaobcoeegioaaW.PrintMore
attribute [local go_sem] max2_int min2_int max_two min_two max_three min_three max_four min_four
set_option linter.unusedVariables false
set_option linter.unusedSimpArgs false
set_option maxHeartbeats 8000000
set_option maxRecDepth 100000
theorem penumbraref01_limb.calls (A0 : Option Addr) (c0 : Nat) (l0 : List Int) (a1 : Int) (r : Int) (w : World) (hr0 : Kd.C (Kd.int .u32) w A0 l0.length l0) (hc0 : l0.length≤c0) (h : penumbraref01_limb.f l0 a1=some r) :
  Calls Try.prog 68 #[.slice A0 l0.length c0,.int .i64 a1] w fun e w'=>e=.returned (.int .u64 r)∧Drawn0 w w':=by
 have HR0:=Aside0.mk hr0
 have HC0:=Aside0.mk hc0
 clear hr0 hc0
 have H : (if a1 < (l0.length : Int) then (if 0≤a1 then (some (IntKind.u64.wrap (rd l0 a1))) else (none)) else (some 0))=some r:=h
 clear h
 by_cases c3 : a1 < (l0.length : Int)
 ·rw [if_pos c3] at H
  have c3b0 : decide (a1 < (l0.length : Int))=true:=decide_eq_true c3
  clear c3
  refine ifT H ?_;clear H;intro c4 H
  have c4b0 : decide (0≤a1)=true:=decide_eq_true c4
  clear c4
  obtain rfl:=Option.some.inj H
  have p511 : 0≤(a1 : Int):=oA
  have q511 : a1 < (l0.length : Int):=oA
  obtain ⟨ad511,e511,hx511_0⟩:=Kd.at_int HR0.out a1 p511 q511
  cases e511
  replace p511:=eq_true p511
  replace q511:=eq_true q511
  go_enter Try.func68,Try.ntmps68
  go_wp2
  go_ret
  exact ⟨sD,by repeat (first|exact Drawn0.refl _|apply Drawn0.step)⟩
 ·rw [if_neg c3] at H
  have c3b0 : decide (a1 < (l0.length : Int))=false:=decide_eq_false c3
  clear c3
  obtain rfl:=Option.some.inj H
  go_enter Try.func68,Try.ntmps68
  go_wp2
  go_ret
  exact ⟨sD,by repeat (first|exact Drawn0.refl _|apply Drawn0.step)⟩
theorem penumbraref01_Add.calls (k : Nat) (A0 : Option Addr) (c0 : Nat) (l0 : List Int) (A1 : Option Addr) (c1 : Nat) (l1 : List Int) (r : List Int) (w : World) (hr0 : Kd.C (Kd.int .u32) w A0 l0.length l0) (hc0 : l0.length≤c0) (hr1 : Kd.C (Kd.int .u32) w A1 l1.length l1) (hc1 : l1.length≤c1) (h : penumbraref01_Add.f k l0 l1=some r) :
  Calls Try.prog 53 #[.slice A0 l0.length c0,.slice A1 l1.length c1] w fun e w'=>∃ v0_ : Value,e=.returned (v0_)∧Kd.R (Kd.int .u32) 82 w' w.heap.size (fun _=>True) v0_ r∧Below w.heap.size w w':=by
 have HR0:=Aside0.mk hr0
 have HC0:=Aside0.mk hc0
 clear hr0 hc0
 have HR1:=Aside0.mk hr1
 have HC1:=Aside0.mk hc1
 clear hr1 hc1
 have HB:=Aside0.mk (Below.refl w.heap.size w)
 have H : (penumbraref01_Add.l0 k l0 l1 (([] : List Int)) 0 0)=some r:=h
 clear h
 obtain ⟨y541,hy541⟩ : ∃ y_ : List Int,y_=(([] : List Int)):=⟨_,rfl⟩
 replace H : (penumbraref01_Add.l0 k l0 l1 y541 0 0)=some r:=by first|(rw [hy541];with_reducible exact H)|(have H2_:=(Option.bind_some _ _).symm.trans H;rw [hy541];with_reducible exact H2_)|(have H2_:=(Option.bind_some _ _).symm.trans H;with_reducible exact H2_)|with_reducible exact H|(rw [hy541];exact H)|exact H
 have Ny541:=Aside0.mk hy541
 clear hy541
 have H':=Aside0.mk H
 clear H
 go_enter Try.func53,Try.ntmps53
 go_wp2_with (first|((with_reducible refine gate_dst (N:=9) rfl ?_);(try (refine gate_guard (by rfl) ?_;dsimp only));refine Kd.R_lit (Kd.int .u32) _ 82 ?hg (N:=9) ?hd (xs:=([] : List Int)) (inner:=[]) (ok:=fun _=>True) (okp:=fun _=>True) ?hr ?hp (fun _ hk=>hk) trivial (Below.refl _ _) (Nat.le_refl _) (by simp) ?_;(case hd=>rfl);(case hg=>rfl);(case hr=>first|(go_simp;done)|(go_simp;(with_reducible rfl))|(go_simp;rfl)|(go_simp;simp only [hu,Int.emod_sub_emod]));(case hp=>exact (Reps.none _ _));intro v542 w3 ho4 hb hg_ hnew_;clear hg_ hnew_;(first|rw [← Ny541.out] at ho4|(simp only [Int.reduceToNat] at ho4;rw [← Ny541.out] at ho4));have HO543:=Aside0.mk (Kd.R_lower ho4 (below_size (bL HB.out)));replace HB:=Aside0.mk (below_step (bL HB.out) hb);clear hb ho4))
 go_loopg [5,6,7] k (fun kq v5 v6 v7 w'=>∃ (x5_1 : List Int) (x6_1 : Int) (x7_1 : Int),v6=.int .u64 x6_1∧v7=.int .i64 x7_1∧Aside0 (penumbraref01_Add.l0 kq l0 l1 x5_1 x6_1 x7_1=some r)∧Aside0 (kq≤k)∧Aside0 (Kd.R (Kd.int .u32) 82 w' w.heap.size (fun _=>True) v5 x5_1)∧Aside0 (Below w.heap.size w w'))
 case atStart=>exact ⟨(y541),(0),(0),sD,sD,H',⟨Nat.le_refl _⟩,⟨Ru HO543.out⟩,⟨bL HB.out⟩⟩
 case round =>
  clear H'
  obtain ⟨x5_1,x6_1,x7_1,rfl,rfl,HA,HK1,HO_5,HB⟩:=hrel
  cases gk with
  | zero=>exact absurd HA.out (by simp [penumbraref01_Add.l0])
  | succ k1 =>
   have H:=HA.out
   clear HA
   simp only [penumbraref01_Add.l0] at H
   have HC5:=Aside0.mk H
   clear H
   go_upto_region 4 with (fail)
   go_cut [19] (fun v19 wc=>∃ (kq : Nat) (x19_4 : Bool),v19=.bool x19_4∧Aside0 (penumbraref01_Add.j1 kq l0 l1 x5_1 x6_1 x7_1 x19_4=some r)∧Aside0 (kq≤k1)∧Aside0 (Kd.R (Kd.int .u32) 82 wc w.heap.size (fun _=>True) u5 x5_1)∧Aside0 (Below w.heap.size w wc))
   case first =>
    have H:=HC5.out
    clear HC5
    by_cases c6 : x7_1 < (l0.length : Int)
    ·rw [if_pos c6] at H
     have c6b0 : decide (x7_1 < (l0.length : Int))=true:=decide_eq_true c6
     clear c6
     (first|rw [c6b0]|(simp only [i64_w,i32_w];rw [c6b0])|skip)
     have H':=Aside0.mk H
     clear H
     go_wp2
     go_meet
     case rel=>exact ⟨_,(true),sD,H',⟨by have:=HK1.out;first|omega|exact Nat.le_refl _⟩,⟨Ru HO_5.out⟩,⟨bL HB.out⟩⟩
    ·rw [if_neg c6] at H
     have c6b0 : decide (x7_1 < (l0.length : Int))=false:=decide_eq_false c6
     clear c6
     (first|rw [c6b0]|(simp only [i64_w,i32_w];rw [c6b0])|skip)
     have H':=Aside0.mk H
     clear H
     go_wp2
     go_meet
     case rel=>exact ⟨_,(decide (x7_1 < (l1.length : Int))),sD,H',⟨by have:=HK1.out;first|omega|exact Nat.le_refl _⟩,⟨Ru HO_5.out⟩,⟨bL HB.out⟩⟩
   case rest =>
    clear HC5
    obtain ⟨kq,x19_4,rfl,HA,HJ4,HO_5,HB⟩:=hcut
    cases kq with
    | zero=>exact absurd HA.out (by simp [penumbraref01_Add.j1])
    | succ kj4 =>
     have H:=HA.out
     clear HA
     simp only [penumbraref01_Add.j1] at H
     by_cases c7 : x19_4=true
     ·subst c7
      rw [if_pos rfl] at H
      refine biT H ?_;clear H;intro t544 A8 H
      try dsimp only at H
      replace A8:=Aside0.mk A8
      refine biT H ?_;clear H;intro t545 A9 H
      try dsimp only at H
      replace A9:=Aside0.mk A9
      refine ifT H ?_;clear H;intro c10 H
      have LMc10:=Aside0.mk c10
      clear c10
      obtain ⟨y546,hy546⟩ : ∃ y_ : List Int,y_=(x5_1++[(Int.tmod (IntKind.u64.wrap ((IntKind.u64.wrap (t544+t545))+x6_1)) 4294967296) % 4294967296]):=⟨_,rfl⟩
      replace H : (penumbraref01_Add.l0 kj4 l0 l1 y546 (IntKind.u64.wrap (Int.tdiv (IntKind.u64.wrap ((IntKind.u64.wrap (t544+t545))+x6_1)) 4294967296)) (wrap64 (x7_1+1)))=some r:=by first|(rw [hy546];with_reducible exact H)|(have H2_:=(Option.bind_some _ _).symm.trans H;rw [hy546];with_reducible exact H2_)|(have H2_:=(Option.bind_some _ _).symm.trans H;with_reducible exact H2_)|with_reducible exact H|(rw [hy546];exact H)|exact H
      have Ny546:=Aside0.mk hy546
      clear hy546
      have H':=Aside0.mk H
      clear H
      go_wp2_with (first|((with_reducible refine gate_callee (f:=68) rfl ?_);refine gL (some 24) Try.func68 #[.slice A0 l0.length c0,.int .i64 x7_1] ?_;(with_reducible refine (penumbraref01_limb.calls _ _ l0 x7_1 t544 _ ?side1 ?side2 A8.out).mono ?_);(case side1=>exact Cu (Kd.C_below HR0.out HB.out));(case side2=>exact HC0.out);rintro e w' ⟨rfl,⟨nd,rfl⟩⟩;refine ⟨_,rfl,?_⟩)|((with_reducible refine gate_callee (f:=68) rfl ?_);refine gL (some 27) Try.func68 #[.slice A1 l1.length c1,.int .i64 x7_1] ?_;(with_reducible refine (penumbraref01_limb.calls _ _ l1 x7_1 t545 _ ?side1 ?side2 A9.out).mono ?_);(case side1=>exact Cu (Kd.C_below HR1.out (bL HB.out)));(case side2=>exact HC1.out);rintro e w' ⟨rfl,⟨nd,rfl⟩⟩;refine ⟨_,rfl,?_⟩)|((with_reducible refine gate_builtin (b:=.append) (xs:=#[.tmp 31,.tmp 35]) rfl ?_);(try (refine gate_guard (by rfl) ?_;dsimp only));at_builtin;refine Kd.R_append (Kd.int .u32) (w0:=w) w.heap.size rfl (.tmp 31) (.tmp 35) 61 82 (.int .u32 0) 4 rfl Try.underlying61 info82 rfl (by decide) (by omega) u5 x5_1 ((Int.tmod (IntKind.u64.wrap ((IntKind.u64.wrap (t544+t545))+x6_1)) 4294967296) % 4294967296) [.int .u32 ((Int.tmod (IntKind.u64.wrap ((IntKind.u64.wrap (t544+t545))+x6_1)) 4294967296) % 4294967296)] (fun _=>True) (fun _=>False) rfl rfl ?aP (fun _ hk=>hk.elim) ?aF ?aO ?aB ?aS ?aL ?_;(case aP=>exact rfl);(case aB=>exact (bL HB.out));(case aF=>exact (fun _ _=>trivial));(case aO=>exact (Ru HO_5.out));(case aS=>exact (below_size (bL HB.out)));(case aL=>have:=LMc10.out;omega);intro v547 w11 ho hb hg hat;rw [← Ny546.out] at ho;replace HB:=Aside0.mk hb;have HO548:=Aside0.mk ho;clear HO_5;clear ho hb hg hat))
      go_roundg kj4
      case measure=>have:=HK1.out;have:=HJ4.out;omega
      case rel=>exact ⟨(y546),(IntKind.u64.wrap (Int.tdiv (IntKind.u64.wrap ((IntKind.u64.wrap (t544+t545))+x6_1)) 4294967296)),(wrap64 (x7_1+1)),sD,sD,H',⟨by have:=HK1.out;have:=HJ4.out;omega⟩,⟨Ru HO548.out⟩,⟨bL HB.out⟩⟩
     ·replace c7:=Bool.eq_false_iff.mpr c7
      subst c7
      rw [if_neg (show ¬ (false=true) by decide)] at H
      refine ifT H ?_;clear H;intro c12 H
      have LMc12:=Aside0.mk c12
      clear c12
      obtain ⟨y549,hy549⟩ : ∃ y_ : List Int,y_=(x5_1++[(x6_1) % 4294967296]):=⟨_,rfl⟩
      replace H : ((penumbraref01_Norm.f kj4 y549).bind fun t552=>(some t552))=some r:=by first|(rw [hy549];with_reducible exact H)|(have H2_:=(Option.bind_some _ _).symm.trans H;rw [hy549];with_reducible exact H2_)|(have H2_:=(Option.bind_some _ _).symm.trans H;with_reducible exact H2_)|with_reducible exact H|(rw [hy549];exact H)|exact H
      have Ny549:=Aside0.mk hy549
      clear hy549
      refine biT H ?_;clear H;intro t552 A13 H
      try dsimp only at H
      replace A13:=Aside0.mk A13
      obtain rfl:=Option.some.inj H
      go_wp2_with (first|((with_reducible refine gate_builtin (b:=.append) (xs:=#[.tmp 39,.tmp 42]) rfl ?_);(try (refine gate_guard (by rfl) ?_;dsimp only));at_builtin;refine Kd.R_append (Kd.int .u32) (w0:=w) w.heap.size rfl (.tmp 39) (.tmp 42) 61 82 (.int .u32 0) 4 rfl Try.underlying61 info82 rfl (by decide) (by omega) u5 x5_1 ((x6_1) % 4294967296) [.int .u32 ((x6_1) % 4294967296)] (fun _=>True) (fun _=>False) rfl rfl ?aP (fun _ hk=>hk.elim) ?aF ?aO ?aB ?aS ?aL ?_;(case aP=>exact rfl);(case aB=>exact (bL HB.out));(case aF=>exact (fun _ _=>trivial));(case aO=>exact (Ru HO_5.out));(case aS=>exact (below_size (bL HB.out)));(case aL=>have:=LMc12.out;omega);intro v550 w14 ho hb hg hat;rw [← Ny549.out] at ho;replace HB:=Aside0.mk hb;have HO551:=Aside0.mk ho;clear HO_5;clear ho hb hg hat;obtain ⟨Ao15,co15,eo15⟩:=Kd.R_slice HO551.out;subst eo15)|((with_reducible refine gate_callee (f:=67) rfl ?_);refine gL (some 45) Try.func67 #[.slice Ao15 y549.length co15] ?_;(with_reducible refine (penumbraref01_Norm.calls kj4 _ _ y549 t552 _ ?side1 ?side2 A13.out).mono ?_);(case side1=>exact Cu (Kd.R_reads' HO551.out).2.2);(case side2=>exact (Kd.R_reads' HO551.out).2.1);rintro e w16 ⟨v553,rfl,ho0,hb⟩;refine ⟨_,rfl,?_⟩;have HO554:=Aside0.mk (Kd.R_lower (Kd.R_new' ho0 (Kd.R_lt (Ru HO551.out))) (below_size (bL HB.out)));replace HO551:=Aside0.mk (Kd.R_elder' (Ru HO551.out) (Kd.R_base ho0) hb);replace HB:=Aside0.mk (below_step (bL HB.out) hb)))
      go_ret
      exact ⟨_,eW,Kd.R_mono (Ru HO554.out) (fun _ hk=>trivial),bL HB.out⟩
theorem penumbraref01_Cmp.calls (k : Nat) (A0 : Option Addr) (c0 : Nat) (l0 : List Int) (A1 : Option Addr) (c1 : Nat) (l1 : List Int) (r : Int) (w : World) (hr0 : Kd.C (Kd.int .u32) w A0 l0.length l0) (hc0 : l0.length≤c0) (hr1 : Kd.C (Kd.int .u32) w A1 l1.length l1) (hc1 : l1.length≤c1) (h : penumbraref01_Cmp.f k l0 l1=some r) :
  Calls Try.prog 54 #[.slice A0 l0.length c0,.slice A1 l1.length c1] w fun e w'=>e=.returned (.int .i64 r)∧Below w.heap.size w w':=by
 have HR0:=Aside0.mk hr0
 have HC0:=Aside0.mk hc0
 clear hr0 hc0
 have HR1:=Aside0.mk hr1
 have HC1:=Aside0.mk hc1
 clear hr1 hc1
 have HB:=Aside0.mk (Below.refl w.heap.size w)
 have H : (penumbraref01_Cmp.l0 k l0 l1 (wrap64 ((mx (l0.length : Int) (l1.length : Int)) - 1)))=some r:=h
 clear h
 obtain ⟨ji3,hji3⟩ : ∃ j_ : Int,(mx (l0.length : Int) (l1.length : Int))=j_:=⟨_,rfl⟩
 replace H : (penumbraref01_Cmp.l0 k l0 l1 (wrap64 ((ji3) - 1)))=some r:=by first|(rw [hji3] at H;exact H)|(simp only [hji3] at H ⊢;exact H)
 (try (have hji3l : 0≤ji3:=by (rw [← hji3];unfold mx;(repeat' split) <;> omega)))
 (try (have hji3m : 0≤ji3:=by omega))
 (try (have hji3c : (if l0.length < l1.length then (l1.length : Int) else (l0.length : Int))=ji3:=by (rw [← hji3];unfold mx;simp only [Int.ofNat_lt])))
 have hji3_ : (if (l0.length : Int) < (l1.length : Int) then (l1.length : Int) else (l0.length : Int))=ji3:=hji3
 have H':=Aside0.mk H
 clear H
 go_enter Try.func54,Try.ntmps54
 go_wp2
 go_loopg [5] k (fun kq v5 w'=>∃ (x5_1 : Int),v5=.int .i64 x5_1∧Aside0 (penumbraref01_Cmp.l0 kq l0 l1 x5_1=some r)∧Aside0 (kq≤k)∧Aside0 (Below w.heap.size w w'))
 case atStart=>exact ⟨(wrap64 ((ji3) - 1)),(by first|rfl|(simp;done)|(simp only [← hji3] <;> (first|rfl|simp))|(simp [*];done)),H',⟨Nat.le_refl _⟩,⟨bL HB.out⟩⟩
 case round =>
  clear H'
  obtain ⟨x5_1,rfl,HA,HK1,HB⟩:=hrel
  cases gk with
  | zero=>exact absurd HA.out (by simp [penumbraref01_Cmp.l0])
  | succ k1 =>
   have H:=HA.out
   clear HA
   simp only [penumbraref01_Cmp.l0] at H
   by_cases c4 : x5_1 ≥ 0
   ·rw [if_pos c4] at H
    have c4b0 : decide (0≤x5_1)=true:=decide_eq_true c4
    clear c4
    refine biT H ?_;clear H;intro t512 A5 H
    try dsimp only at H
    replace A5:=Aside0.mk A5
    refine biT H ?_;clear H;intro t513 A6 H
    try dsimp only at H
    replace A6:=Aside0.mk A6
    by_cases c7 : t512 < t513
    ·rw [if_pos c7] at H
     have c7b0 : decide (t512 < t513)=true:=decide_eq_true c7
     clear c7
     obtain rfl:=Option.some.inj H
     go_wp2_with (first|((with_reducible refine gate_callee (f:=68) rfl ?_);refine gL (some 20) Try.func68 #[.slice A0 l0.length c0,.int .i64 x5_1] ?_;(with_reducible refine (penumbraref01_limb.calls _ _ l0 x5_1 t512 _ ?side1 ?side2 A5.out).mono ?_);(case side1=>exact Cu (Kd.C_below HR0.out HB.out));(case side2=>exact HC0.out);rintro e w' ⟨rfl,⟨nd,rfl⟩⟩;refine ⟨_,rfl,?_⟩)|((with_reducible refine gate_callee (f:=68) rfl ?_);refine gL (some 23) Try.func68 #[.slice A1 l1.length c1,.int .i64 x5_1] ?_;(with_reducible refine (penumbraref01_limb.calls _ _ l1 x5_1 t513 _ ?side1 ?side2 A6.out).mono ?_);(case side1=>exact Cu (Kd.C_below HR1.out (bL HB.out)));(case side2=>exact HC1.out);rintro e w' ⟨rfl,⟨nd,rfl⟩⟩;refine ⟨_,rfl,?_⟩))
     go_ret
     exact ⟨by first|rfl|(simp [errW_none,errW_some] <;> rfl)|(simp only [← hji3];first|rfl|(simp [errW_none,errW_some] <;> rfl))|(simp [*,errW_none,errW_some] <;> rfl),bL HB.out⟩
    ·rw [if_neg c7] at H
     have c7b0 : decide (t512 < t513)=false:=decide_eq_false c7
     clear c7
     by_cases c8 : t512 > t513
     ·rw [if_pos c8] at H
      have c8b0 : decide (t513 < t512)=true:=decide_eq_true c8
      clear c8
      obtain rfl:=Option.some.inj H
      go_wp2_with (first|((with_reducible refine gate_callee (f:=68) rfl ?_);refine gL (some 20) Try.func68 #[.slice A0 l0.length c0,.int .i64 x5_1] ?_;(with_reducible refine (penumbraref01_limb.calls _ _ l0 x5_1 t512 _ ?side1 ?side2 A5.out).mono ?_);(case side1=>exact Cu (Kd.C_below HR0.out HB.out));(case side2=>exact HC0.out);rintro e w' ⟨rfl,⟨nd,rfl⟩⟩;refine ⟨_,rfl,?_⟩)|((with_reducible refine gate_callee (f:=68) rfl ?_);refine gL (some 23) Try.func68 #[.slice A1 l1.length c1,.int .i64 x5_1] ?_;(with_reducible refine (penumbraref01_limb.calls _ _ l1 x5_1 t513 _ ?side1 ?side2 A6.out).mono ?_);(case side1=>exact Cu (Kd.C_below HR1.out (bL HB.out)));(case side2=>exact HC1.out);rintro e w' ⟨rfl,⟨nd,rfl⟩⟩;refine ⟨_,rfl,?_⟩))
      go_ret
      exact ⟨by first|rfl|(simp [errW_none,errW_some] <;> rfl)|(simp only [← hji3];first|rfl|(simp [errW_none,errW_some] <;> rfl))|(simp [*,errW_none,errW_some] <;> rfl),bL HB.out⟩
     ·rw [if_neg c8] at H
      have c8b0 : decide (t513 < t512)=false:=decide_eq_false c8
      clear c8
      have H':=Aside0.mk H
      clear H
      go_wp2_with (first|((with_reducible refine gate_callee (f:=68) rfl ?_);refine gL (some 20) Try.func68 #[.slice A0 l0.length c0,.int .i64 x5_1] ?_;(with_reducible refine (penumbraref01_limb.calls _ _ l0 x5_1 t512 _ ?side1 ?side2 A5.out).mono ?_);(case side1=>exact Cu (Kd.C_below HR0.out HB.out));(case side2=>exact HC0.out);rintro e w' ⟨rfl,⟨nd,rfl⟩⟩;refine ⟨_,rfl,?_⟩)|((with_reducible refine gate_callee (f:=68) rfl ?_);refine gL (some 23) Try.func68 #[.slice A1 l1.length c1,.int .i64 x5_1] ?_;(with_reducible refine (penumbraref01_limb.calls _ _ l1 x5_1 t513 _ ?side1 ?side2 A6.out).mono ?_);(case side1=>exact Cu (Kd.C_below HR1.out (bL HB.out)));(case side2=>exact HC1.out);rintro e w' ⟨rfl,⟨nd,rfl⟩⟩;refine ⟨_,rfl,?_⟩))
      go_roundg k1
      case measure=>have:=HK1.out;omega
      case rel=>exact ⟨(wrap64 (x5_1 - 1)),sD,H',⟨by have:=HK1.out;omega⟩,⟨bL HB.out⟩⟩
   ·rw [if_neg c4] at H
    have c4b0 : decide (0≤x5_1)=false:=decide_eq_false c4
    clear c4
    obtain rfl:=Option.some.inj H
    go_wp2
    go_ret
    exact ⟨by first|rfl|(simp [errW_none,errW_some] <;> rfl)|(simp only [← hji3];first|rfl|(simp [errW_none,errW_some] <;> rfl))|(simp [*,errW_none,errW_some] <;> rfl),bL HB.out⟩
theorem penumbraref01_Mul.calls (k : Nat) (A0 : Option Addr) (c0 : Nat) (l0 : List Int) (A1 : Option Addr) (c1 : Nat) (l1 : List Int) (r : List Int) (w : World) (hr0 : Kd.C (Kd.int .u32) w A0 l0.length l0) (hc0 : l0.length≤c0) (hr1 : Kd.C (Kd.int .u32) w A1 l1.length l1) (hc1 : l1.length≤c1) (h : penumbraref01_Mul.f k l0 l1=some r) :
  Calls Try.prog 52 #[.slice A0 l0.length c0,.slice A1 l1.length c1] w fun e w'=>∃ v0_ : Value,e=.returned (v0_)∧Kd.R (Kd.int .u32) 82 w' w.heap.size (fun _=>True) v0_ r∧Below w.heap.size w w':=by
 have HR0:=Aside0.mk hr0
 have HC0:=Aside0.mk hc0
 clear hr0 hc0
 have HR1:=Aside0.mk hr1
 have HC1:=Aside0.mk hc1
 clear hr1 hc1
 have HB:=Aside0.mk (Below.refl w.heap.size w)
 have H : (if 0≤(wrap64 ((wrap64 ((l0.length : Int)+(l1.length : Int)))+1)) then (if (wrap64 ((wrap64 ((l0.length : Int)+(l1.length : Int)))+1) : Int).toNat≤70368744177664 then (penumbraref01_Mul.l0 k l0 l1 (List.replicate (wrap64 ((wrap64 ((l0.length : Int)+(l1.length : Int)))+1) : Int).toNat 0) 0) else (none)) else (none))=some r:=h
 clear h
 obtain ⟨ji3,hji3⟩ : ∃ j_ : Int,(wrap64 ((wrap64 ((l0.length : Int)+(l1.length : Int)))+1))=j_:=⟨_,rfl⟩
 first|rw [hji3] at H|simp only [hji3] at H ⊢
 have hji3w:=(i64_w _).trans hji3
 refine ifT H ?_;clear H;intro c4 H
 have c4b0:=eq_true c4
 have c4b1 : decide (0≤(ji3))=true:=decide_eq_true c4
 clear c4
 refine ifT H ?_;clear H;intro c5 H
 have c5b0:=eq_true c5
 have c5b1 : decide ((ji3 : Int).toNat≤70368744177664)=true:=decide_eq_true c5
 clear c5
 obtain ⟨y530,hy530⟩ : ∃ y_ : List Int,y_=(List.replicate (ji3 : Int).toNat 0):=⟨_,rfl⟩
 replace H : (penumbraref01_Mul.l0 k l0 l1 y530 0)=some r:=by first|(rw [hy530];with_reducible exact H)|(have H2_:=(Option.bind_some _ _).symm.trans H;rw [hy530];with_reducible exact H2_)|(have H2_:=(Option.bind_some _ _).symm.trans H;with_reducible exact H2_)|with_reducible exact H|(rw [hy530];exact H)|exact H
 have Ny530:=Aside0.mk hy530
 clear hy530
 have H':=Aside0.mk H
 clear H
 go_enter Try.func52,Try.ntmps52
 go_wp2_with (first|((with_reducible refine gate_dst (N:=16) rfl ?_);refine Kd.R_make (Kd.int .u32) _ 82 rfl (N:=16) rfl 61 _ _ rfl ji3 rfl rfl Try.underlying61 (.int .u32 0) 4 info82 rfl (by decide) (by omega) 0 (ok:=fun _=>True) (okp:=fun _=>True) rfl (fun _ hk=>hk) trivial (oA) (Nat.le_trans (Nat.mul_le_mul_right _ (oA : ji3.toNat≤70368744177664)) (by omega)) (Below.refl _ _) (Nat.le_refl _) ?_;intro v531 w6 ho7 hb hg_ hnew_;clear hg_ hnew_;(first|rw [← Ny530.out] at ho7|(simp only [Int.reduceToNat] at ho7;rw [← Ny530.out] at ho7));have HO532:=Aside0.mk (Kd.R_lower ho7 (below_size (bL HB.out)));replace HB:=Aside0.mk (below_step (bL HB.out) hb);clear hb ho7))
 go_loopg [6] k (fun kq v6 w'=>∃ (x5_1 : List Int) (x6_1 : Int),v6=.int .i64 x6_1∧Aside0 (penumbraref01_Mul.l0 kq l0 l1 x5_1 x6_1=some r)∧Aside0 (kq≤k)∧Aside0 (Kd.R (Kd.int .u32) 82 w' w.heap.size (fun _=>True) v531 x5_1)∧Aside0 (Below w.heap.size w w'))
 case atStart=>exact ⟨(y530),(0),sD,H',⟨Nat.le_refl _⟩,⟨Ru HO532.out⟩,⟨bL HB.out⟩⟩
 case round =>
  clear H'
  obtain ⟨x5_1,x6_1,rfl,HA,HK1,HO_5,HB⟩:=hrel
  cases gk with
  | zero=>exact absurd HA.out (by simp [penumbraref01_Mul.l0])
  | succ k1 =>
   have H:=HA.out
   clear HA
   simp only [penumbraref01_Mul.l0] at H
   by_cases c8 : x6_1 < (l0.length : Int)
   ·rw [if_pos c8] at H
    have c8b0 : decide (x6_1 < (l0.length : Int))=true:=decide_eq_true c8
    clear c8
    have H':=Aside0.mk H
    clear H
    go_wp2
    go_loopg [7,8] k1 (fun kq v7 v8 w'=>∃ (x5_2 : List Int) (x7_2 : Int) (x8_2 : Int),v7=.int .u64 x7_2∧v8=.int .i64 x8_2∧Aside0 (penumbraref01_Mul.l1 kq l0 l1 x5_2 x6_1 x7_2 x8_2=some r)∧Aside0 (kq≤k1)∧Aside0 (Kd.R (Kd.int .u32) 82 w' w.heap.size (fun _=>True) v531 x5_2)∧Aside0 (Below w.heap.size w w'))
    case atStart=>exact ⟨(x5_1),(0),(0),sD,sD,H',⟨Nat.le_refl _⟩,⟨Ru HO_5.out⟩,⟨bL HB.out⟩⟩
    case round =>
     clear H'
     obtain ⟨x5_2,x7_2,x8_2,rfl,rfl,HA,HK2,HO_5,HB⟩:=hrel
     cases gk with
     | zero=>exact absurd HA.out (by simp [penumbraref01_Mul.l1])
     | succ k2 =>
      have H:=HA.out
      clear HA
      simp only [penumbraref01_Mul.l1] at H
      by_cases c9 : x8_2 < (l1.length : Int)
      ·rw [if_pos c9] at H
       have c9b0 : decide (x8_2 < (l1.length : Int))=true:=decide_eq_true c9
       clear c9
       refine ifT H ?_;clear H;intro c10 H
       have c10b0 : decide (0≤x6_1)=true:=decide_eq_true c10
       clear c10
       refine ifT H ?_;clear H;intro c11 H
       have c11b0 : decide (x6_1 < (l0.length : Int))=true:=decide_eq_true c11
       clear c11
       refine ifT H ?_;clear H;intro c12 H
       have c12b0 : decide (0≤x8_2)=true:=decide_eq_true c12
       clear c12
       obtain ⟨ji13,hji13⟩ : ∃ j_ : Int,(wrap64 (x6_1+x8_2))=j_:=⟨_,rfl⟩
       first|rw [hji13] at H|simp only [hji13] at H ⊢
       have hji13w:=(i64_w _).trans hji13
       refine ifT H ?_;clear H;intro c14 H
       have c14b0 : decide (0≤(ji13))=true:=decide_eq_true c14
       clear c14
       refine ifT H ?_;clear H;intro c15 H
       have c15b0 : decide ((ji13) < (x5_2.length : Int))=true:=decide_eq_true c15
       clear c15
       obtain ⟨y539,hy539⟩ : ∃ y_ : List Int,y_=(x5_2.set ((ji13) : Int).toNat ((Int.tmod (IntKind.u64.wrap ((IntKind.u64.wrap ((IntKind.u64.wrap ((IntKind.u64.wrap (rd l0 x6_1)) * (IntKind.u64.wrap (rd l1 x8_2))))+(IntKind.u64.wrap (rd x5_2 (ji13)))))+x7_2)) 4294967296) % 4294967296)):=⟨_,rfl⟩
       replace H : (penumbraref01_Mul.l1 k2 l0 l1 y539 x6_1 (IntKind.u64.wrap (Int.tdiv (IntKind.u64.wrap ((IntKind.u64.wrap ((IntKind.u64.wrap ((IntKind.u64.wrap (rd l0 x6_1)) * (IntKind.u64.wrap (rd l1 x8_2))))+(IntKind.u64.wrap (rd x5_2 (ji13)))))+x7_2)) 4294967296)) (wrap64 (x8_2+1)))=some r:=by first|(rw [hy539];with_reducible exact H)|(have H2_:=(Option.bind_some _ _).symm.trans H;rw [hy539];with_reducible exact H2_)|(have H2_:=(Option.bind_some _ _).symm.trans H;with_reducible exact H2_)|with_reducible exact H|(rw [hy539];exact H)|exact H
       have Ny539:=Aside0.mk hy539
       clear hy539
       have H':=Aside0.mk H
       clear H
       have p536 : 0≤(x6_1 : Int):=oA
       have q536 : x6_1 < (l0.length : Int):=oA
       obtain ⟨ad536,e536,hx536_0⟩:=Kd.at_int HR0.out x6_1 p536 q536
       cases e536
       replace hx536_0:=(HB.out.cell (World.block_lt_of_cell? w _ hx536_0)).trans hx536_0
       replace p536:=eq_true p536
       replace q536:=eq_true q536
       have p537 : 0≤(x8_2 : Int):=oA
       have q537 : x8_2 < (l1.length : Int):=oA
       obtain ⟨ad537,e537,hx537_0⟩:=Kd.at_int HR1.out x8_2 p537 q537
       cases e537
       replace hx537_0:=(HB.out.cell (World.block_lt_of_cell? w _ hx537_0)).trans hx537_0
       replace p537:=eq_true p537
       replace q537:=eq_true q537
       obtain ⟨Ao17,co17,eo17⟩:=Kd.R_slice HO_5.out
       subst eo17
       have p538 : 0≤((ji13) : Int):=oA
       have q538 : (ji13) < (x5_2.length : Int):=oA
       obtain ⟨ad538,e538,hx538_0⟩:=Kd.at_int (Kd.R_reads' HO_5.out).2.2 (ji13) p538 q538
       cases e538
       replace p538:=eq_true p538
       replace q538:=eq_true q538
       have p16 : 0≤((ji13) : Int):=oA
       have q16 : ((ji13) : Int) < ((x5_2.length : Int) : Int):=oA
       obtain ⟨go16,co16,eo16,gb16,gl16,cl16,HG16⟩:=Kd.R_form HO_5.out (by omega)
       (first|cases eo16|(injection eo16 with ea_ en_ ec_;(first|subst ea_|(injection ea_ with ea_;subst ea_));subst ec_;clear en_))
       have GB16:=Aside0.mk gb16
       have GG16:=Aside0.mk HG16
       clear gb16 gl16 HG16
       (first|simp only [add_plain] at hx538_0|skip)
       obtain ⟨hx16_0,hf16_0⟩:=Kd.R_celln 0 HO_5.out ((ji13) : Int) p16 q16
       replace p16:=eq_true p16
       replace q16:=eq_true q16
       obtain ⟨hy18_,hz18_⟩:=Kd.R_celln 0 HO_5.out ((ji13) : Int) (oA) (oA)
       have HP18:=Kd.R_putg HO_5.out ((ji13) : Int) ((Int.tmod (IntKind.u64.wrap ((IntKind.u64.wrap ((IntKind.u64.wrap ((IntKind.u64.wrap (rd l0 x6_1)) * (IntKind.u64.wrap (rd l1 x8_2))))+(IntKind.u64.wrap (rd x5_2 (ji13)))))+x7_2)) 4294967296) % 4294967296)
       go_wp2_with (first|((with_reducible refine gate_store (t:=82) (p:=57) rfl ?_);(try (rw [drewN_self wr];generalize hq_ : World.drewN wr _=wr;have n0_:=Aside0.mk (Kd.R_at hq_ HO_5.out);have n1_:=Aside0.mk (below_at hq_ HB.out);clear hq_ HO_5 HB;have HO_5:=n0_;have HB:=n1_;clear n0_ n1_;(try (obtain ⟨hy18_,hz18_⟩:=Kd.R_celln 0 HO_5.out ((ji13) : Int) (oA) (oA)));(try (have HP18:=Kd.R_putg HO_5.out ((ji13) : Int) ((Int.tmod (IntKind.u64.wrap ((IntKind.u64.wrap ((IntKind.u64.wrap ((IntKind.u64.wrap (rd l0 x6_1)) * (IntKind.u64.wrap (rd l1 x8_2))))+(IntKind.u64.wrap (rd x5_2 (ji13)))))+x7_2)) 4294967296) % 4294967296)))));refine store_event (t:=82) (p:=57) (v:=?vo_w19) (w1:=(wr.setCell ⟨go16,((ji13) : Int).toNat,none⟩ (.int .u32 ((Int.tmod (IntKind.u64.wrap ((IntKind.u64.wrap ((IntKind.u64.wrap ((IntKind.u64.wrap (rd l0 x6_1)) * (IntKind.u64.wrap (rd l1 x8_2))))+(IntKind.u64.wrap (rd x5_2 (ji13)))))+x7_2)) 4294967296) % 4294967296)))) ?hg ?ho ?hn ?hr ?_;(case ho=>rfl);(case hg=>rfl);(case hn=>rfl);(case hr=>first|(go_simp;done)|(go_simp;(with_reducible rfl))|(go_simp;rfl)|(go_simp;simp only [hu,Int.emod_sub_emod]));intro w19 hw;have hg : wr.grownBy w19 (some go16):=(by rw [hw];exact HP18.2);have hp_ : Kd.R (Kd.int .u32) 82 w19 w.heap.size (fun _=>True) (.slice (some ⟨go16,0,none⟩) x5_2.length co17) y539:=(by rw [hw,Ny539.out];exact HP18.1);clear HP18;replace HO_5:=Aside0.mk hp_;replace HB:=Aside0.mk ((by rw [hw];exact below_set (HB.out) GB16.out : Below w.heap.size w w19));clear hg hw hp_))
       repeat (go_quiet (first|((with_reducible refine gate_store (t:=82) (p:=57) rfl ?_);(try (rw [drewN_self wr];generalize hq_ : World.drewN wr _=wr;have n0_:=Aside0.mk (Kd.R_at hq_ HO_5.out);have n1_:=Aside0.mk (below_at hq_ HB.out);clear hq_ HO_5 HB;have HO_5:=n0_;have HB:=n1_;clear n0_ n1_;(try (obtain ⟨hy18_,hz18_⟩:=Kd.R_celln 0 HO_5.out ((ji13) : Int) (oA) (oA)));(try (have HP18:=Kd.R_putg HO_5.out ((ji13) : Int) ((Int.tmod (IntKind.u64.wrap ((IntKind.u64.wrap ((IntKind.u64.wrap ((IntKind.u64.wrap (rd l0 x6_1)) * (IntKind.u64.wrap (rd l1 x8_2))))+(IntKind.u64.wrap (rd x5_2 (ji13)))))+x7_2)) 4294967296) % 4294967296)))));refine store_event (t:=82) (p:=57) (v:=?vo_w19) (w1:=(wr.setCell ⟨go16,((ji13) : Int).toNat,none⟩ (.int .u32 ((Int.tmod (IntKind.u64.wrap ((IntKind.u64.wrap ((IntKind.u64.wrap ((IntKind.u64.wrap (rd l0 x6_1)) * (IntKind.u64.wrap (rd l1 x8_2))))+(IntKind.u64.wrap (rd x5_2 (ji13)))))+x7_2)) 4294967296) % 4294967296)))) ?hg ?ho ?hn ?hr ?_;(case ho=>rfl);(case hg=>rfl);(case hn=>rfl);(case hr=>first|(go_simp;done)|(go_simp;(with_reducible rfl))|(go_simp;rfl)|(go_simp;have hu_ : ∀ x : Int,IntKind.u32.wrap x=HMod.hMod x (4294967296 : Int):=(fun x=>by simp only [IntKind.wrap,IntKind.bits,IntKind.signed];simp);simp only [hu_,Int.emod_sub_emod]));intro w19 hw;have hg : wr.grownBy w19 (some go16):=(by rw [hw];exact HP18.2);have hp_ : Kd.R (Kd.int .u32) 82 w19 w.heap.size (fun _=>True) (.slice (some ⟨go16,0,none⟩) x5_2.length co17) y539:=(by rw [hw,Ny539.out];exact HP18.1);clear HP18;replace HO_5:=Aside0.mk hp_;replace HB:=Aside0.mk ((by rw [hw];exact below_set (HB.out) GB16.out : Below w.heap.size w w19));clear hg hw hp_));try go_wp2_with (first|((with_reducible refine gate_store (t:=82) (p:=57) rfl ?_);(try (rw [drewN_self wr];generalize hq_ : World.drewN wr _=wr;have n0_:=Aside0.mk (Kd.R_at hq_ HO_5.out);have n1_:=Aside0.mk (below_at hq_ HB.out);clear hq_ HO_5 HB;have HO_5:=n0_;have HB:=n1_;clear n0_ n1_;(try (obtain ⟨hy18_,hz18_⟩:=Kd.R_celln 0 HO_5.out ((ji13) : Int) (oA) (oA)));(try (have HP18:=Kd.R_putg HO_5.out ((ji13) : Int) ((Int.tmod (IntKind.u64.wrap ((IntKind.u64.wrap ((IntKind.u64.wrap ((IntKind.u64.wrap (rd l0 x6_1)) * (IntKind.u64.wrap (rd l1 x8_2))))+(IntKind.u64.wrap (rd x5_2 (ji13)))))+x7_2)) 4294967296) % 4294967296)))));refine store_event (t:=82) (p:=57) (v:=?vo_w19) (w1:=(wr.setCell ⟨go16,((ji13) : Int).toNat,none⟩ (.int .u32 ((Int.tmod (IntKind.u64.wrap ((IntKind.u64.wrap ((IntKind.u64.wrap ((IntKind.u64.wrap (rd l0 x6_1)) * (IntKind.u64.wrap (rd l1 x8_2))))+(IntKind.u64.wrap (rd x5_2 (ji13)))))+x7_2)) 4294967296) % 4294967296)))) ?hg ?ho ?hn ?hr ?_;(case ho=>rfl);(case hg=>rfl);(case hn=>rfl);(case hr=>first|(go_simp;done)|(go_simp;(with_reducible rfl))|(go_simp;rfl)|(go_simp;have hu_ : ∀ x : Int,IntKind.u32.wrap x=HMod.hMod x (4294967296 : Int):=(fun x=>by simp only [IntKind.wrap,IntKind.bits,IntKind.signed];simp);simp only [hu_,Int.emod_sub_emod]));intro w19 hw;have hg : wr.grownBy w19 (some go16):=(by rw [hw];exact HP18.2);have hp_ : Kd.R (Kd.int .u32) 82 w19 w.heap.size (fun _=>True) (.slice (some ⟨go16,0,none⟩) x5_2.length co17) y539:=(by rw [hw,Ny539.out];exact HP18.1);clear HP18;replace HO_5:=Aside0.mk hp_;replace HB:=Aside0.mk ((by rw [hw];exact below_set (HB.out) GB16.out : Below w.heap.size w w19));clear hg hw hp_)))
       go_roundg k2
       case measure=>have:=HK1.out;have:=HK2.out;omega
       case rel=>exact ⟨(y539),(IntKind.u64.wrap (Int.tdiv (IntKind.u64.wrap ((IntKind.u64.wrap ((IntKind.u64.wrap ((IntKind.u64.wrap (rd l0 x6_1)) * (IntKind.u64.wrap (rd l1 x8_2))))+(IntKind.u64.wrap (rd x5_2 (ji13)))))+x7_2)) 4294967296)),(wrap64 (x8_2+1)),(by first|rfl|(simp;done)|(simp only [← hji13] <;> (first|rfl|simp))|(simp [*];done)),sD,H',⟨by have:=HK1.out;have:=HK2.out;omega⟩,⟨Ru HO_5.out⟩,⟨bL HB.out⟩⟩
      ·rw [if_neg c9] at H
       have c9b0 : decide (x8_2 < (l1.length : Int))=false:=decide_eq_false c9
       clear c9
       obtain ⟨ji20,hji20⟩ : ∃ j_ : Int,(wrap64 (x6_1+(l1.length : Int)))=j_:=⟨_,rfl⟩
       first|rw [hji20] at H|simp only [hji20] at H ⊢
       have hji20w:=(i64_w _).trans hji20
       refine ifT H ?_;clear H;intro c21 H
       have c21b0 : decide (0≤(ji20))=true:=decide_eq_true c21
       clear c21
       refine ifT H ?_;clear H;intro c22 H
       have c22b0 : decide ((ji20) < (x5_2.length : Int))=true:=decide_eq_true c22
       clear c22
       obtain ⟨y540,hy540⟩ : ∃ y_ : List Int,y_=(x5_2.set ((ji20) : Int).toNat ((x7_2) % 4294967296)):=⟨_,rfl⟩
       replace H : (penumbraref01_Mul.l0 k2 l0 l1 y540 (wrap64 (x6_1+1)))=some r:=by first|(rw [hy540];with_reducible exact H)|(have H2_:=(Option.bind_some _ _).symm.trans H;rw [hy540];with_reducible exact H2_)|(have H2_:=(Option.bind_some _ _).symm.trans H;with_reducible exact H2_)|with_reducible exact H|(rw [hy540];exact H)|exact H
       have Ny540:=Aside0.mk hy540
       clear hy540
       have H':=Aside0.mk H
       clear H
       have p23 : 0≤((ji20) : Int):=oA
       have q23 : ((ji20) : Int) < ((x5_2.length : Int) : Int):=oA
       obtain ⟨go23,co23,eo23,gb23,gl23,cl23,HG23⟩:=Kd.R_form HO_5.out (by omega)
       (first|cases eo23|(injection eo23 with ea_ en_ ec_;(first|subst ea_|(injection ea_ with ea_;subst ea_));subst ec_;clear en_))
       have GB23:=Aside0.mk gb23
       have GG23:=Aside0.mk HG23
       clear gb23 gl23 HG23
       obtain ⟨hx23_0,hf23_0⟩:=Kd.R_celln 0 HO_5.out ((ji20) : Int) p23 q23
       replace p23:=eq_true p23
       replace q23:=eq_true q23
       obtain ⟨hy24_,hz24_⟩:=Kd.R_celln 0 HO_5.out ((ji20) : Int) (oA) (oA)
       have HP24:=Kd.R_putg HO_5.out ((ji20) : Int) ((x7_2) % 4294967296)
       go_wp2_with (first|((with_reducible refine gate_store (t:=82) (p:=67) rfl ?_);(try (rw [drewN_self wr];generalize hq_ : World.drewN wr _=wr;have n0_:=Aside0.mk (Kd.R_at hq_ HO_5.out);have n1_:=Aside0.mk (below_at hq_ HB.out);clear hq_ HO_5 HB;have HO_5:=n0_;have HB:=n1_;clear n0_ n1_;(try (obtain ⟨hy24_,hz24_⟩:=Kd.R_celln 0 HO_5.out ((ji20) : Int) (oA) (oA)));(try (have HP24:=Kd.R_putg HO_5.out ((ji20) : Int) ((x7_2) % 4294967296)))));refine store_event (t:=82) (p:=67) (v:=?vo_w25) (w1:=(wr.setCell ⟨go23,((ji20) : Int).toNat,none⟩ (.int .u32 ((x7_2) % 4294967296)))) ?hg ?ho ?hn ?hr ?_;(case ho=>rfl);(case hg=>rfl);(case hn=>rfl);(case hr=>first|(go_simp;done)|(go_simp;(with_reducible rfl))|(go_simp;rfl)|(go_simp;simp only [hu,Int.emod_sub_emod]));intro w25 hw;have hg : wr.grownBy w25 (some go23):=(by rw [hw];exact HP24.2);have hp_ : Kd.R (Kd.int .u32) 82 w25 w.heap.size (fun _=>True) (.slice (some ⟨go23,0,none⟩) x5_2.length co23) y540:=(by rw [hw,Ny540.out];exact HP24.1);clear HP24;replace HO_5:=Aside0.mk hp_;replace HB:=Aside0.mk ((by rw [hw];exact below_set (HB.out) GB23.out : Below w.heap.size w w25));clear hg hw hp_))
       go_roundg k2
       case measure=>have:=HK1.out;have:=HK2.out;omega
       case rel=>exact ⟨(y540),(wrap64 (x6_1+1)),sD,H',⟨by have:=HK1.out;have:=HK2.out;omega⟩,⟨Ru HO_5.out⟩,⟨bL HB.out⟩⟩
   ·rw [if_neg c8] at H
    have c8b0 : decide (x6_1 < (l0.length : Int))=false:=decide_eq_false c8
    clear c8
    refine biT H ?_;clear H;intro t533 A26 H
    try dsimp only at H
    replace A26:=Aside0.mk A26
    obtain rfl:=Option.some.inj H
    obtain ⟨Ao27,co27,eo27⟩:=Kd.R_slice HO_5.out
    subst eo27
    go_wp2_with (first|(go_at_call 67;(with_reducible refine (penumbraref01_Norm.calls k1 _ _ x5_1 t533 _ ?side1 ?side2 A26.out).mono ?_);(case side1=>exact Cu (Kd.R_reads' HO_5.out).2.2);(case side2=>exact (Kd.R_reads' HO_5.out).2.1);rintro e w28 ⟨v534,rfl,ho0,hb⟩;have HO535:=Aside0.mk (Kd.R_lower (Kd.R_new' ho0 (Kd.R_lt (Ru HO_5.out))) (below_size (bL HB.out)));replace HO_5:=Aside0.mk (Kd.R_elder' (Ru HO_5.out) (Kd.R_base ho0) hb);replace HB:=Aside0.mk (below_step (bL HB.out) hb)))
    go_ret
    exact ⟨_,by first|rfl|(simp [errW_none,errW_some] <;> rfl)|(simp only [← hji3];first|rfl|(simp [errW_none,errW_some] <;> rfl))|(simp [*,errW_none,errW_some] <;> rfl),Kd.R_mono (Ru HO535.out) (fun _ hk=>trivial),bL HB.out⟩
theorem penumbraref01_Sub.calls (k : Nat) (A0 : Option Addr) (c0 : Nat) (l0 : List Int) (A1 : Option Addr) (c1 : Nat) (l1 : List Int) (r1 : List Int) (r2 : Bool) (w : World) (hr0 : Kd.C (Kd.int .u32) w A0 l0.length l0) (hc0 : l0.length≤c0) (hr1 : Kd.C (Kd.int .u32) w A1 l1.length l1) (hc1 : l1.length≤c1) (h : penumbraref01_Sub.f k l0 l1=some (r1,r2)) :
  Calls Try.prog 55 #[.slice A0 l0.length c0,.slice A1 l1.length c1] w fun e w'=>∃ v0_ : Value,e=.returned (.tuple #[v0_,.bool r2])∧Kd.R (Kd.int .u32) 82 w' w.heap.size (fun _=>True) v0_ r1∧Below w.heap.size w w':=by
 have HR0:=Aside0.mk hr0
 have HC0:=Aside0.mk hc0
 clear hr0 hc0
 have HR1:=Aside0.mk hr1
 have HC1:=Aside0.mk hc1
 clear hr1 hc1
 have HB:=Aside0.mk (Below.refl w.heap.size w)
 have H : ((penumbraref01_Cmp.f k l0 l1).bind fun t555=>(if t555 < 0 then (some (([] : List Int),false)) else (penumbraref01_Sub.l0 k l0 l1 (([] : List Int)) 0 0)))=some (r1,r2):=h
 clear h
 refine biT H ?_;clear H;intro t555 A3 H
 try dsimp only at H
 replace A3:=Aside0.mk A3
 by_cases c4 : t555 < 0
 ·rw [if_pos c4] at H
  have c4b0 : decide (t555 < 0)=true:=decide_eq_true c4
  clear c4
  simp only [Option.some.injEq,Prod.mk.injEq] at H
  obtain ⟨rfl,rfl⟩:=H
  go_enter Try.func55,Try.ntmps55
  go_wp2_with (first|((with_reducible refine gate_callee (f:=54) rfl ?_);refine gL (some 12) Try.func54 #[.slice A0 l0.length c0,.slice A1 l1.length c1] ?_;(with_reducible refine (penumbraref01_Cmp.calls k _ _ l0 _ _ l1 t555 _ ?side1 ?side2 ?side3 ?side4 A3.out).mono ?_);(case side1=>exact Cu HR0.out);(case side2=>exact HC0.out);(case side3=>exact Cu HR1.out);(case side4=>exact HC1.out);rintro e w5 ⟨rfl,hb⟩;refine ⟨_,rfl,?_⟩;replace HB:=Aside0.mk (below_step (bL HB.out) hb)))
  go_ret2
  exact ⟨_,eW,by first|exact Kd.R_nil _ _ _ _ _|exact Kd.N_nil _ _ _ _ _|exact Kd.V_nil _ _ _ _ _|exact Kd.Q_nil _ _ _ _ _|exact Kd.S_nil _ _ _ _ _,bL HB.out⟩
 ·rw [if_neg c4] at H
  have c4b0 : decide (t555 < 0)=false:=decide_eq_false c4
  clear c4
  obtain ⟨y556,hy556⟩ : ∃ y_ : List Int,y_=(([] : List Int)):=⟨_,rfl⟩
  replace H : (penumbraref01_Sub.l0 k l0 l1 y556 0 0)=some (r1,r2):=by first|(rw [hy556];with_reducible exact H)|(have H2_:=(Option.bind_some _ _).symm.trans H;rw [hy556];with_reducible exact H2_)|(have H2_:=(Option.bind_some _ _).symm.trans H;with_reducible exact H2_)|with_reducible exact H|(rw [hy556];exact H)|exact H
  have Ny556:=Aside0.mk hy556
  clear hy556
  have H':=Aside0.mk H
  clear H
  go_enter Try.func55,Try.ntmps55
  go_wp2_with (first|((with_reducible refine gate_callee (f:=54) rfl ?_);refine gL (some 12) Try.func54 #[.slice A0 l0.length c0,.slice A1 l1.length c1] ?_;(with_reducible refine (penumbraref01_Cmp.calls k _ _ l0 _ _ l1 t555 _ ?side1 ?side2 ?side3 ?side4 A3.out).mono ?_);(case side1=>exact Cu HR0.out);(case side2=>exact HC0.out);(case side3=>exact Cu HR1.out);(case side4=>exact HC1.out);rintro e w6 ⟨rfl,hb⟩;refine ⟨_,rfl,?_⟩;replace HB:=Aside0.mk (below_step (bL HB.out) hb))|((with_reducible refine gate_dst (N:=14) rfl ?_);refine Kd.R_lit (Kd.int .u32) _ 82 ?hg (N:=14) ?hd (xs:=([] : List Int)) (inner:=[]) (ok:=fun _=>True) (okp:=fun _=>True) ?hr ?hp (fun _ hk=>hk) trivial (Below.refl _ _) (Nat.le_refl _) (by simp) ?_;(case hd=>rfl);(case hg=>rfl);(case hr=>first|(go_simp;done)|(go_simp;(with_reducible rfl))|(go_simp;rfl)|(go_simp;simp only [hu,Int.emod_sub_emod]));(case hp=>exact (Reps.none _ _));intro v557 w7 ho8 hb hg_ hnew_;clear hg_ hnew_;(first|rw [← Ny556.out] at ho8|(simp only [Int.reduceToNat] at ho8;rw [← Ny556.out] at ho8));have HO558:=Aside0.mk (Kd.R_lower ho8 (below_size (bL HB.out)));replace HB:=Aside0.mk (below_step (bL HB.out) hb);clear hb ho8))
  go_loopg [6,7,8] k (fun kq v6 v7 v8 w'=>∃ (x6_1 : List Int) (x7_1 : Int) (x8_1 : Int),v7=.int .u64 x7_1∧v8=.int .i64 x8_1∧Aside0 (penumbraref01_Sub.l0 kq l0 l1 x6_1 x7_1 x8_1=some (r1,r2))∧Aside0 (kq≤k)∧Aside0 (Kd.R (Kd.int .u32) 82 w' w.heap.size (fun _=>True) v6 x6_1)∧Aside0 (Below w.heap.size w w'))
  case atStart=>exact ⟨(y556),(0),(0),sD,sD,H',⟨Nat.le_refl _⟩,⟨Ru HO558.out⟩,⟨bL HB.out⟩⟩
  case round =>
   clear H'
   obtain ⟨x6_1,x7_1,x8_1,rfl,rfl,HA,HK1,HO_6,HB⟩:=hrel
   cases gk with
   | zero=>exact absurd HA.out (by simp [penumbraref01_Sub.l0])
   | succ k1 =>
    have H:=HA.out
    clear HA
    simp only [penumbraref01_Sub.l0] at H
    by_cases c9 : x8_1 < (l0.length : Int)
    ·rw [if_pos c9] at H
     have c9b0 : decide (x8_1 < (l0.length : Int))=true:=decide_eq_true c9
     clear c9
     refine biT H ?_;clear H;intro t559 A10 H
     try dsimp only at H
     replace A10:=Aside0.mk A10
     refine biT H ?_;clear H;intro t560 A11 H
     try dsimp only at H
     replace A11:=Aside0.mk A11
     refine ifT H ?_;clear H;intro c12 H
     have LMc12:=Aside0.mk c12
     clear c12
     obtain ⟨y561,hy561⟩ : ∃ y_ : List Int,y_=(x6_1++[(Int.tmod (IntKind.u64.wrap ((IntKind.u64.wrap ((IntKind.u64.wrap (4294967296+t559)) - t560)) - x7_1)) 4294967296) % 4294967296]):=⟨_,rfl⟩
     replace H : (penumbraref01_Sub.l0 k1 l0 l1 y561 (IntKind.u64.wrap (1 - (IntKind.u64.wrap (Int.tdiv (IntKind.u64.wrap ((IntKind.u64.wrap ((IntKind.u64.wrap (4294967296+t559)) - t560)) - x7_1)) 4294967296)))) (wrap64 (x8_1+1)))=some (r1,r2):=by first|(rw [hy561];with_reducible exact H)|(have H2_:=(Option.bind_some _ _).symm.trans H;rw [hy561];with_reducible exact H2_)|(have H2_:=(Option.bind_some _ _).symm.trans H;with_reducible exact H2_)|with_reducible exact H|(rw [hy561];exact H)|exact H
     have Ny561:=Aside0.mk hy561
     clear hy561
     have H':=Aside0.mk H
     clear H
     go_wp2_with (first|((with_reducible refine gate_callee (f:=68) rfl ?_);refine gL (some 23) Try.func68 #[.slice A0 l0.length c0,.int .i64 x8_1] ?_;(with_reducible refine (penumbraref01_limb.calls _ _ l0 x8_1 t559 _ ?side1 ?side2 A10.out).mono ?_);(case side1=>exact Cu (Kd.C_below HR0.out HB.out));(case side2=>exact HC0.out);rintro e w' ⟨rfl,⟨nd,rfl⟩⟩;refine ⟨_,rfl,?_⟩)|((with_reducible refine gate_callee (f:=68) rfl ?_);refine gL (some 27) Try.func68 #[.slice A1 l1.length c1,.int .i64 x8_1] ?_;(with_reducible refine (penumbraref01_limb.calls _ _ l1 x8_1 t560 _ ?side1 ?side2 A11.out).mono ?_);(case side1=>exact Cu (Kd.C_below HR1.out (bL HB.out)));(case side2=>exact HC1.out);rintro e w' ⟨rfl,⟨nd,rfl⟩⟩;refine ⟨_,rfl,?_⟩)|((with_reducible refine gate_builtin (b:=.append) (xs:=#[.tmp 31,.tmp 35]) rfl ?_);at_builtin;refine Kd.R_append (Kd.int .u32) (w0:=w) w.heap.size rfl (.tmp 31) (.tmp 35) 61 82 (.int .u32 0) 4 rfl Try.underlying61 info82 rfl (by decide) (by omega) u6 x6_1 ((Int.tmod (IntKind.u64.wrap ((IntKind.u64.wrap ((IntKind.u64.wrap (4294967296+t559)) - t560)) - x7_1)) 4294967296) % 4294967296) [.int .u32 ((Int.tmod (IntKind.u64.wrap ((IntKind.u64.wrap ((IntKind.u64.wrap (4294967296+t559)) - t560)) - x7_1)) 4294967296) % 4294967296)] (fun _=>True) (fun _=>False) rfl rfl ?aP (fun _ hk=>hk.elim) ?aF ?aO ?aB ?aS ?aL ?_;(case aP=>exact rfl);(case aB=>exact (bL HB.out));(case aF=>exact (fun _ _=>trivial));(case aO=>exact (Ru HO_6.out));(case aS=>exact (below_size (bL HB.out)));(case aL=>have:=LMc12.out;omega);intro v562 w13 ho hb hg hat;rw [← Ny561.out] at ho;replace HB:=Aside0.mk hb;have HO563:=Aside0.mk ho;clear HO_6;clear ho hb hg hat))
     go_roundg k1
     case measure=>have:=HK1.out;omega
     case rel=>exact ⟨(y561),(IntKind.u64.wrap (1 - (IntKind.u64.wrap (Int.tdiv (IntKind.u64.wrap ((IntKind.u64.wrap ((IntKind.u64.wrap (4294967296+t559)) - t560)) - x7_1)) 4294967296)))),(wrap64 (x8_1+1)),sD,sD,H',⟨by have:=HK1.out;omega⟩,⟨Ru HO563.out⟩,⟨bL HB.out⟩⟩
    ·rw [if_neg c9] at H
     have c9b0 : decide (x8_1 < (l0.length : Int))=false:=decide_eq_false c9
     clear c9
     refine biT H ?_;clear H;intro t564 A14 H
     try dsimp only at H
     replace A14:=Aside0.mk A14
     simp only [Option.some.injEq,Prod.mk.injEq] at H
     obtain ⟨rfl,rfl⟩:=H
     obtain ⟨Ao15,co15,eo15⟩:=Kd.R_slice HO_6.out
     subst eo15
     go_wp2_with (first|((with_reducible refine gate_callee (f:=67) rfl ?_);refine gL (some 41) Try.func67 #[.slice Ao15 x6_1.length co15] ?_;(with_reducible refine (penumbraref01_Norm.calls k1 _ _ x6_1 t564 _ ?side1 ?side2 A14.out).mono ?_);(case side1=>exact Cu (Kd.R_reads' HO_6.out).2.2);(case side2=>exact (Kd.R_reads' HO_6.out).2.1);rintro e w16 ⟨v565,rfl,ho0,hb⟩;refine ⟨_,rfl,?_⟩;have HO566:=Aside0.mk (Kd.R_lower (Kd.R_new' ho0 (Kd.R_lt (Ru HO_6.out))) (below_size (bL HB.out)));replace HO_6:=Aside0.mk (Kd.R_elder' (Ru HO_6.out) (Kd.R_base ho0) hb);replace HB:=Aside0.mk (below_step (bL HB.out) hb)))
     go_ret2
     exact ⟨_,eW,Kd.R_mono (Ru HO566.out) (fun _ hk=>trivial),bL HB.out⟩
theorem penumbraref01_Double.calls (k : Nat) (A0 : Option Addr) (c0 : Nat) (l0 : List Int) (a1 : Bool) (r : List Int) (w : World) (hr0 : Kd.C (Kd.int .u32) w A0 l0.length l0) (hc0 : l0.length≤c0) (h : penumbraref01_Double.f k l0 a1=some r) :
  Calls Try.prog 77 #[.slice A0 l0.length c0,.bool a1] w fun e w'=>∃ v0_ : Value,e=.returned (v0_)∧Kd.R (Kd.int .u32) 82 w' w.heap.size (fun _=>True) v0_ r∧Below w.heap.size w w':=by
 have HR0:=Aside0.mk hr0
 have HC0:=Aside0.mk hc0
 clear hr0 hc0
 have HB:=Aside0.mk (Below.refl w.heap.size w)
 have H : ((some (([] : List Int) : List Int)).bind fun y567=>(if a1=true then (penumbraref01_Double.j0 k l0 y567 1) else (penumbraref01_Double.j0 k l0 y567 0)))=some r:=h
 clear h
 obtain ⟨y567,hy567⟩ : ∃ y_ : List Int,y_=(([] : List Int)):=⟨_,rfl⟩
 replace H : (if a1=true then (penumbraref01_Double.j0 k l0 y567 1) else (penumbraref01_Double.j0 k l0 y567 0))=some r:=by first|(rw [hy567];with_reducible exact H)|(have H2_:=(Option.bind_some _ _).symm.trans H;rw [hy567];with_reducible exact H2_)|(have H2_:=(Option.bind_some _ _).symm.trans H;with_reducible exact H2_)|with_reducible exact H|(rw [hy567];exact H)|exact H
 have Ny567:=Aside0.mk hy567
 clear hy567
 have HC3:=Aside0.mk H
 clear H
 go_enter Try.func77,Try.ntmps77
 go_upto_if 10 with (first|((with_reducible refine gate_dst (N:=9) rfl ?_);refine Kd.R_lit (Kd.int .u32) _ 82 ?hg (N:=9) ?hd (xs:=([] : List Int)) (inner:=[]) (ok:=fun _=>True) (okp:=fun _=>True) ?hr ?hp (fun _ hk=>hk) trivial (Below.refl _ _) (Nat.le_refl _) (by simp) ?_;(case hd=>rfl);(case hg=>rfl);(case hr=>first|(go_simp;done)|(go_simp;(with_reducible rfl))|(go_simp;rfl)|(go_simp;simp only [hu,Int.emod_sub_emod]));(case hp=>exact (Reps.none _ _));intro v568 w4 ho5 hb hg_ hnew_;clear hg_ hnew_;(first|rw [← Ny567.out] at ho5|(simp only [Int.reduceToNat] at ho5;rw [← Ny567.out] at ho5));have HO569:=Aside0.mk (Kd.R_lower ho5 (below_size (bL HB.out)));replace HB:=Aside0.mk (below_step (bL HB.out) hb);clear hb ho5))
 (try simp only [Act.put,s0,s1,s2])
 go_cut [6] (fun v6 wc=>∃ (kq : Nat) (x6_2 : Int),v6=.int .u64 x6_2∧Aside0 (penumbraref01_Double.j0 kq l0 y567 x6_2=some r)∧Aside0 (kq≤k)∧Aside0 (Kd.R (Kd.int .u32) 82 wc w.heap.size (fun _=>True) v568 y567)∧Aside0 (Below w.heap.size w wc))
 case first =>
  have H:=HC3.out
  clear HC3
  by_cases c6 : a1=true
  ·subst c6
   rw [if_pos rfl] at H
   have H':=Aside0.mk H
   clear H
   go_wp2
   go_meet
   case rel=>exact ⟨_,(1),sD,H',⟨by first|omega|exact Nat.le_refl _⟩,⟨Ru HO569.out⟩,⟨bL HB.out⟩⟩
  ·replace c6:=Bool.eq_false_iff.mpr c6
   subst c6
   rw [if_neg (show ¬ (false=true) by decide)] at H
   have H':=Aside0.mk H
   clear H
   go_wp2
   go_meet
   case rel=>exact ⟨_,(0),sD,H',⟨by first|omega|exact Nat.le_refl _⟩,⟨Ru HO569.out⟩,⟨bL HB.out⟩⟩
 case rest =>
  clear HC3
  obtain ⟨kq,x6_2,rfl,HA,HJ2,HO_5,HB⟩:=hcut
  cases kq with
  | zero=>exact absurd HA.out (by simp [penumbraref01_Double.j0])
  | succ kj2 =>
   have H:=HA.out
   clear HA
   simp only [penumbraref01_Double.j0] at H
   have H':=Aside0.mk H
   clear H
   go_wp2
   go_loopg [5,6,7] kj2 (fun kq v5 v6 v7 w'=>∃ (x5_2 : List Int) (x6_2 : Int) (x7_2 : Int),v6=.int .u64 x6_2∧v7=.int .i64 x7_2∧Aside0 (penumbraref01_Double.l0 kq l0 x5_2 x6_2 x7_2=some r)∧Aside0 (kq≤kj2)∧Aside0 (Kd.R (Kd.int .u32) 82 w' w.heap.size (fun _=>True) v5 x5_2)∧Aside0 (Below w.heap.size w w'))
   case atStart=>exact ⟨(y567),(x6_2),(0),sD,sD,H',⟨Nat.le_refl _⟩,⟨Ru HO_5.out⟩,⟨bL HB.out⟩⟩
   case round =>
    clear H'
    obtain ⟨x5_2,x6_2,x7_2,rfl,rfl,HA,HK2,HO_5,HB⟩:=hrel
    cases gk with
    | zero=>exact absurd HA.out (by simp [penumbraref01_Double.l0])
    | succ k2 =>
     have H:=HA.out
     clear HA
     simp only [penumbraref01_Double.l0] at H
     by_cases c7 : x7_2 < (l0.length : Int)
     ·rw [if_pos c7] at H
      have c7b0 : decide (x7_2 < (l0.length : Int))=true:=decide_eq_true c7
      clear c7
      refine ifT H ?_;clear H;intro c8 H
      have c8b0 : decide (0≤x7_2)=true:=decide_eq_true c8
      clear c8
      refine ifT H ?_;clear H;intro c9 H
      have LMc9:=Aside0.mk c9
      clear c9
      obtain ⟨y571,hy571⟩ : ∃ y_ : List Int,y_=(x5_2++[(Int.tmod (IntKind.u64.wrap ((IntKind.u64.wrap (2 * (IntKind.u64.wrap (rd l0 x7_2))))+x6_2)) 4294967296) % 4294967296]):=⟨_,rfl⟩
      replace H : (penumbraref01_Double.l0 k2 l0 y571 (IntKind.u64.wrap (Int.tdiv (IntKind.u64.wrap ((IntKind.u64.wrap (2 * (IntKind.u64.wrap (rd l0 x7_2))))+x6_2)) 4294967296)) (wrap64 (x7_2+1)))=some r:=by first|(rw [hy571];with_reducible exact H)|(have H2_:=(Option.bind_some _ _).symm.trans H;rw [hy571];with_reducible exact H2_)|(have H2_:=(Option.bind_some _ _).symm.trans H;with_reducible exact H2_)|with_reducible exact H|(rw [hy571];exact H)|exact H
      have Ny571:=Aside0.mk hy571
      clear hy571
      have H':=Aside0.mk H
      clear H
      have p570 : 0≤(x7_2 : Int):=oA
      have q570 : x7_2 < (l0.length : Int):=oA
      obtain ⟨ad570,e570,hx570_0⟩:=Kd.at_int HR0.out x7_2 p570 q570
      cases e570
      replace hx570_0:=(HB.out.cell (World.block_lt_of_cell? w _ hx570_0)).trans hx570_0
      replace p570:=eq_true p570
      replace q570:=eq_true q570
      go_wp2_with (first|((with_reducible refine gate_builtin (b:=.append) (xs:=#[.tmp 25,.tmp 29]) rfl ?_);at_builtin;refine Kd.R_append (Kd.int .u32) (w0:=w) w.heap.size rfl (.tmp 25) (.tmp 29) 61 82 (.int .u32 0) 4 rfl Try.underlying61 info82 rfl (by decide) (by omega) u5 x5_2 ((Int.tmod (IntKind.u64.wrap ((IntKind.u64.wrap (2 * (IntKind.u64.wrap (rd l0 x7_2))))+x6_2)) 4294967296) % 4294967296) [.int .u32 ((Int.tmod (IntKind.u64.wrap ((IntKind.u64.wrap (2 * (IntKind.u64.wrap (rd l0 x7_2))))+x6_2)) 4294967296) % 4294967296)] (fun _=>True) (fun _=>False) rfl rfl ?aP (fun _ hk=>hk.elim) ?aF ?aO ?aB ?aS ?aL ?_;(case aP=>exact rfl);(case aB=>exact (bL HB.out));(case aF=>exact (fun _ _=>trivial));(case aO=>exact (Ru HO_5.out));(case aS=>exact (below_size (bL HB.out)));(case aL=>have:=LMc9.out;omega);intro v572 w10 ho hb hg hat;rw [← Ny571.out] at ho;replace HB:=Aside0.mk hb;have HO573:=Aside0.mk ho;clear HO_5;clear ho hb hg hat))
      go_roundg k2
      case measure=>have:=HJ2.out;have:=HK2.out;omega
      case rel=>exact ⟨(y571),(IntKind.u64.wrap (Int.tdiv (IntKind.u64.wrap ((IntKind.u64.wrap (2 * (IntKind.u64.wrap (rd l0 x7_2))))+x6_2)) 4294967296)),(wrap64 (x7_2+1)),sD,sD,H',⟨by have:=HJ2.out;have:=HK2.out;omega⟩,⟨Ru HO573.out⟩,⟨bL HB.out⟩⟩
     ·rw [if_neg c7] at H
      have c7b0 : decide (x7_2 < (l0.length : Int))=false:=decide_eq_false c7
      clear c7
      refine ifT H ?_;clear H;intro c11 H
      have LMc11:=Aside0.mk c11
      clear c11
      obtain ⟨y574,hy574⟩ : ∃ y_ : List Int,y_=(x5_2++[(x6_2) % 4294967296]):=⟨_,rfl⟩
      replace H : ((penumbraref01_Norm.f k2 y574).bind fun t577=>(some t577))=some r:=by first|(rw [hy574];with_reducible exact H)|(have H2_:=(Option.bind_some _ _).symm.trans H;rw [hy574];with_reducible exact H2_)|(have H2_:=(Option.bind_some _ _).symm.trans H;with_reducible exact H2_)|with_reducible exact H|(rw [hy574];exact H)|exact H
      have Ny574:=Aside0.mk hy574
      clear hy574
      refine biT H ?_;clear H;intro t577 A12 H
      try dsimp only at H
      replace A12:=Aside0.mk A12
      obtain rfl:=Option.some.inj H
      go_wp2_with (first|((with_reducible refine gate_builtin (b:=.append) (xs:=#[.tmp 33,.tmp 36]) rfl ?_);at_builtin;refine Kd.R_append (Kd.int .u32) (w0:=w) w.heap.size rfl (.tmp 33) (.tmp 36) 61 82 (.int .u32 0) 4 rfl Try.underlying61 info82 rfl (by decide) (by omega) u5 x5_2 ((x6_2) % 4294967296) [.int .u32 ((x6_2) % 4294967296)] (fun _=>True) (fun _=>False) rfl rfl ?aP (fun _ hk=>hk.elim) ?aF ?aO ?aB ?aS ?aL ?_;(case aP=>exact rfl);(case aB=>exact (bL HB.out));(case aF=>exact (fun _ _=>trivial));(case aO=>exact (Ru HO_5.out));(case aS=>exact (below_size (bL HB.out)));(case aL=>have:=LMc11.out;omega);intro v575 w13 ho hb hg hat;rw [← Ny574.out] at ho;replace HB:=Aside0.mk hb;have HO576:=Aside0.mk ho;clear HO_5;clear ho hb hg hat;obtain ⟨Ao14,co14,eo14⟩:=Kd.R_slice HO576.out;subst eo14)|((with_reducible refine gate_callee (f:=67) rfl ?_);refine gL (some 39) Try.func67 #[.slice Ao14 y574.length co14] ?_;(with_reducible refine (penumbraref01_Norm.calls k2 _ _ y574 t577 _ ?side1 ?side2 A12.out).mono ?_);(case side1=>exact Cu (Kd.R_reads' HO576.out).2.2);(case side2=>exact (Kd.R_reads' HO576.out).2.1);rintro e w15 ⟨v578,rfl,ho0,hb⟩;refine ⟨_,rfl,?_⟩;have HO579:=Aside0.mk (Kd.R_lower (Kd.R_new' ho0 (Kd.R_lt (Ru HO576.out))) (below_size (bL HB.out)));replace HO576:=Aside0.mk (Kd.R_elder' (Ru HO576.out) (Kd.R_base ho0) hb);replace HB:=Aside0.mk (below_step (bL HB.out) hb)))
      go_ret
      exact ⟨_,eW,Kd.R_mono (Ru HO579.out) (fun _ hk=>trivial),bL HB.out⟩
def penumbraref01_Half.T5 : Bool × List (List Nat × List Nat):=(true,[([],[]),([],[]),([],[]),([2],[2]),([1,3],[1,3]),([4],[4]),([5],[5]),([],[]),([],[]),([7,8],[7,8]),([9],[9]),([10],[10]),([6,11],[6,11]),([12],[12]),([13],[13]),([14],[14]),([0,15,4],[0,15]),([16,16,0,1,2,3,4,5,6,7,8,9,10,11,12,13,14,15,16],[0,16])])
def penumbraref01_Half.B5 : List Nat:=[0,0,0,4,14,30,62,0,0,384,896,1920,4094,8190,16382,32766,65535,131071]
theorem penumbraref01_Half.tab5 : rtab .any (opsOf Try.f79 5)=penumbraref01_Half.T5:=by kernel_rfl
theorem penumbraref01_Half.bits5 : waitsOk penumbraref01_Half.T5.2 penumbraref01_Half.B5=true:=by kernel_rfl
theorem penumbraref01_Half.calls (k : Nat) (A0 : Option Addr) (c0 : Nat) (l0 : List Int) (r : List Int) (w : World) (hr0 : Kd.C (Kd.int .u32) w A0 l0.length l0) (hc0 : l0.length≤c0) (h : penumbraref01_Half.f k l0=some r) :
  Calls Try.prog 79 #[.slice A0 l0.length c0] w fun e w'=>∃ v0_ : Value,e=.returned (v0_)∧Kd.R (Kd.int .u32) 82 w' w.heap.size (fun _=>True) v0_ r∧Below w.heap.size w w':=by
 have HR0:=Aside0.mk hr0
 have HC0:=Aside0.mk hc0
 clear hr0 hc0
 have HB:=Aside0.mk (Below.refl w.heap.size w)
 have H : (penumbraref01_Half.l0 k l0 (([] : List Int)) 0)=some r:=h
 clear h
 obtain ⟨y589,hy589⟩ : ∃ y_ : List Int,y_=(([] : List Int)):=⟨_,rfl⟩
 replace H : (penumbraref01_Half.l0 k l0 y589 0)=some r:=by first|(rw [hy589];with_reducible exact H)|(have H2_:=(Option.bind_some _ _).symm.trans H;rw [hy589];with_reducible exact H2_)|(have H2_:=(Option.bind_some _ _).symm.trans H;with_reducible exact H2_)|with_reducible exact H|(rw [hy589];exact H)|exact H
 have Ny589:=Aside0.mk hy589
 clear hy589
 have H':=Aside0.mk H
 clear H
 go_enter Try.func79,Try.ntmps79
 go_wp2_with (first|((with_reducible refine gate_dst (N:=5) rfl ?_);refine Kd.R_lit (Kd.int .u32) _ 82 ?hg (N:=5) ?hd (xs:=([] : List Int)) (inner:=[]) (ok:=fun _=>True) (okp:=fun _=>True) ?hr ?hp (fun _ hk=>hk) trivial (Below.refl _ _) (Nat.le_refl _) (by simp) ?_;(case hd=>rfl);(case hg=>rfl);(case hr=>first|(go_simp;done)|(go_simp;(with_reducible rfl))|(go_simp;rfl)|(go_simp;simp only [hu,Int.emod_sub_emod]));(case hp=>exact (Reps.none _ _));intro v590 w2 ho3 hb hg_ hnew_;clear hg_ hnew_;(first|rw [← Ny589.out] at ho3|(simp only [Int.reduceToNat] at ho3;rw [← Ny589.out] at ho3));have HO591:=Aside0.mk (Kd.R_lower ho3 (below_size (bL HB.out)));replace HB:=Aside0.mk (below_step (bL HB.out) hb);clear hb ho3))
 go_loopg [3,4] k (fun kq v3 v4 w'=>∃ (x3_1 : List Int) (x4_1 : Int),v4=.int .i64 x4_1∧Aside0 (penumbraref01_Half.l0 kq l0 x3_1 x4_1=some r)∧Aside0 (kq≤k)∧Aside0 (Kd.R (Kd.int .u32) 82 w' w.heap.size (fun _=>True) v3 x3_1)∧Aside0 (Below w.heap.size w w'))
 case atStart=>exact ⟨(y589),(0),sD,H',⟨Nat.le_refl _⟩,⟨Ru HO591.out⟩,⟨bL HB.out⟩⟩
 case round =>
  clear H'
  obtain ⟨x3_1,x4_1,rfl,HA,HK1,HO_3,HB⟩:=hrel
  cases gk with
  | zero=>exact absurd HA.out (by simp [penumbraref01_Half.l0])
  | succ k1 =>
   have H:=HA.out
   clear HA
   simp only [penumbraref01_Half.l0] at H
   by_cases c4 : x4_1 < (l0.length : Int)
   ·rw [if_pos c4] at H
    have c4b0 : decide (x4_1 < (l0.length : Int))=true:=decide_eq_true c4
    clear c4
    refine biT H ?_;clear H;intro t592 A5 H
    try dsimp only at H
    replace A5:=Aside0.mk A5
    refine ifT H ?_;clear H;intro c6 H
    have c6b0 : decide (0≤x4_1)=true:=decide_eq_true c6
    clear c6
    refine ifT H ?_;clear H;intro c7 H
    have LMc7:=Aside0.mk c7
    clear c7
    obtain ⟨y594,hy594⟩ : ∃ y_ : List Int,y_=(x3_1++[(IntKind.u64.wrap (Int.tdiv (IntKind.u64.wrap ((IntKind.u64.wrap ((Int.tmod t592 2) * 4294967296))+(IntKind.u64.wrap (rd l0 x4_1)))) 2)) % 4294967296]):=⟨_,rfl⟩
    replace H : (penumbraref01_Half.l0 k1 l0 y594 (wrap64 (x4_1+1)))=some r:=by first|(rw [hy594];with_reducible exact H)|(have H2_:=(Option.bind_some _ _).symm.trans H;rw [hy594];with_reducible exact H2_)|(have H2_:=(Option.bind_some _ _).symm.trans H;with_reducible exact H2_)|with_reducible exact H|(rw [hy594];exact H)|exact H
    have Ny594:=Aside0.mk hy594
    clear hy594
    have H':=Aside0.mk H
    clear H
    try go_wp2
    replace HO_3:=Aside0.mk (Rd HO_3.out)
    replace HB:=Aside0.mk (b1 HB.out)
    have p593 : 0≤(x4_1 : Int):=oA
    have q593 : x4_1 < (l0.length : Int):=oA
    obtain ⟨ad593,e593,hx593_0⟩:=Kd.at_int HR0.out x4_1 p593 q593
    have hw593_0:=hx593_0
    cases e593
    replace hx593_0:=(HB.out.cell (World.block_lt_of_cell? w _ hx593_0)).trans hx593_0
    replace p593:=eq_true p593
    replace q593:=eq_true q593
    refine sT (n:=18) (S:=fun w'=>w'.cell? (ad593.add (x4_1).toNat)=some (.int .u32 (rd l0 x4_1))) (ds:=[]) (by kernel_rfl) rfl (((HB.out.cell (World.block_lt_of_cell? w _ hw593_0)).trans hw593_0)) (fun hHeld=>?_);refine with_tabW penumbraref01_Half.tab5 penumbraref01_Half.bits5 (fun HT_ HW_=>?_)
    generalize wr.drew=w8 at HO_3 HB hx593_0 hHeld ⊢
    refine pz 0 (some 12) rfl rfl ?_
    refine pz 1 (some 13) rfl rfl ?_
    refine pz 2 (some 14) rfl rfl ?_
    refine pz 3 (some 15) rfl rfl ?_
    refine pz 7 (some 19) rfl rfl ?_
    refine pz 8 (some 20) rfl rfl ?_
    refine pz 9 (some 21) rfl rfl ?_
    refine tz 10 (some 22) rfl rfl hHeld ?_
    refine pz 11 (some 23) rfl rfl ?_
    refine oN 4 (some 16) rfl rfl fun K hK=>?_
    refine gS Try.func68 #[.slice (some ad593) l0.length c0,.int .i64 (wrap64 (x4_1+1))] ?_
    with_reducible refine (penumbraref01_limb.calls _ _ l0 (wrap64 (x4_1+1)) t592 _ ?side1 ?side2 A5.out).mono ?_
    (case side1=>exact Cu (Kd.C_below HR0.out HB.out))
    (case side2=>exact HC0.out)
    rintro e w' ⟨rfl,⟨nd,rfl⟩⟩
    refine ⟨_,rfl,?_⟩
    refine hK.out _ _ (((HB.out.cell (World.block_lt_of_cell? w _ hw593_0)).trans hw593_0)) (fun hHeld=>?_)
    clear hK K
    refine nZ ?_
    refine pz 5 (some 17) rfl rfl ?_
    refine pz 6 (some 18) rfl rfl ?_
    refine pz 12 (some 24) rfl rfl ?_
    refine pz 13 (some 25) rfl rfl ?_
    refine pz 14 (some 26) rfl rfl ?_
    refine oN 15 (some 27) rfl rfl fun K hK=>?_
    refine value_ (w1:=?_) (v:=?_) (by rfl) rfl ?_ ?_
    rotate_left 2
    ·go_simp
     constructor
     ·rfl
     ·rfl
    refine hK.out _ _ ((World.cell?_alloc_lt _ _ _ (World.block_lt_of_cell? _ _ (((HB.out.cell (World.block_lt_of_cell? w _ hw593_0)).trans hw593_0)))).trans (((HB.out.cell (World.block_lt_of_cell? w _ hw593_0)).trans hw593_0))) (fun hHeld=>?_)
    clear hK K
    refine nZ ?_
    refine oN 16 (some 28) rfl rfl fun K hK=>?_
    refine Kd.R_append_step (Kd.int .u32) (w0:=w) w.heap.size (by rfl) (.tmp 12) (.tmp 27) 61 82 (.int .u32 0) 4 rfl Try.underlying61 info82 rfl (by decide) (by omega) u3 x3_1 ((IntKind.u64.wrap (Int.tdiv (IntKind.u64.wrap ((IntKind.u64.wrap ((Int.tmod t592 2) * 4294967296))+(IntKind.u64.wrap (rd l0 x4_1)))) 2)) % 4294967296) [.int .u32 ((IntKind.u64.wrap (Int.tdiv (IntKind.u64.wrap ((IntKind.u64.wrap ((Int.tmod t592 2) * 4294967296))+(IntKind.u64.wrap (rd l0 x4_1)))) 2)) % 4294967296)] (fun _=>True) (fun _=>False) rfl rfl ?aP (fun _ hk=>hk.elim) ?aF ?aO ?aB ?aS ?aL ?_
    (case aP=>exact rfl)
    (case aB=>exact (bL HB.out))
    (case aF=>exact (fun _ _=>trivial))
    (case aO=>exact (Ru HO_3.out))
    (case aS=>exact (below_size (bL HB.out)))
    (case aL=>have:=LMc7.out;omega)
    intro v595 w9 ho hb hg hat
    rw [← Ny594.out] at ho
    replace HB:=Aside0.mk hb
    have HO596:=Aside0.mk ho
    clear HO_3
    clear ho hb hg hat
    refine hK.out _ _ (((HB.out.cell (World.block_lt_of_cell? w _ hw593_0)).trans hw593_0)) (fun hHeld=>?_)
    clear hK K
    refine nZ ?_
    refine pz 17 (some 3) rfl rfl ?_
    refine dN ?_
    try go_wp2
    go_roundg k1
    case measure=>have:=HK1.out;omega
    case rel=>exact ⟨(y594),(wrap64 (x4_1+1)),sD,H',⟨by have:=HK1.out;omega⟩,⟨Ru HO596.out⟩,⟨bL HB.out⟩⟩
   ·rw [if_neg c4] at H
    have c4b0 : decide (x4_1 < (l0.length : Int))=false:=decide_eq_false c4
    clear c4
    refine biT H ?_;clear H;intro t597 A10 H
    try dsimp only at H
    replace A10:=Aside0.mk A10
    obtain rfl:=Option.some.inj H
    obtain ⟨Ao11,co11,eo11⟩:=Kd.R_slice HO_3.out
    subst eo11
    go_wp2_with (first|((with_reducible refine gate_callee (f:=67) rfl ?_);refine gL (some 30) Try.func67 #[.slice Ao11 x3_1.length co11] ?_;(with_reducible refine (penumbraref01_Norm.calls k1 _ _ x3_1 t597 _ ?side1 ?side2 A10.out).mono ?_);(case side1=>exact Cu (Kd.R_reads' HO_3.out).2.2);(case side2=>exact (Kd.R_reads' HO_3.out).2.1);rintro e w12 ⟨v598,rfl,ho0,hb⟩;refine ⟨_,rfl,?_⟩;have HO599:=Aside0.mk (Kd.R_lower (Kd.R_new' ho0 (Kd.R_lt (Ru HO_3.out))) (below_size (bL HB.out)));replace HO_3:=Aside0.mk (Kd.R_elder' (Ru HO_3.out) (Kd.R_base ho0) hb);replace HB:=Aside0.mk (below_step (bL HB.out) hb)))
    go_ret
    exact ⟨_,eW,Kd.R_mono (Ru HO599.out) (fun _ hk=>trivial),bL HB.out⟩
theorem penumbraref01_Zero.calls (k : Nat) (A0 : Option Addr) (c0 : Nat) (l0 : List Int) (r : Bool) (w : World) (hr0 : Kd.C (Kd.int .u32) w A0 l0.length l0) (hc0 : l0.length≤c0) (h : penumbraref01_Zero.f k l0=some r) :
  Calls Try.prog 64 #[.slice A0 l0.length c0] w fun e w'=>e=.returned (.bool r)∧Below w.heap.size w w':=by
 have HR0:=Aside0.mk hr0
 have HC0:=Aside0.mk hc0
 clear hr0 hc0
 have HB:=Aside0.mk (Below.refl w.heap.size w)
 have H : ((penumbraref01_Cmp.f k l0 ([] : List Int)).bind fun t514=>(some (t514 == 0)))=some r:=h
 clear h
 refine biT H ?_;clear H;intro t514 A2 H
 try dsimp only at H
 replace A2:=Aside0.mk A2
 obtain rfl:=Option.some.inj H
 go_enter Try.func64,Try.ntmps64
 go_wp2_with (first|((with_reducible refine gate_callee (f:=54) rfl ?_);refine gL (some 4) Try.func54 #[.slice A0 l0.length c0,.slice none 0 0] ?_;(refine (penumbraref01_Cmp.calls k _ _ l0 _ _ ([] : List Int) t514 _ ?side1 ?side2 ?side3 ?side4 A2.out).mono ?_);(case side1=>exact Cu HR0.out);(case side2=>exact HC0.out);(case side3=>exact Kd.C_nil _ _);(case side4=>exact Nat.le_refl _);rintro e w3 ⟨rfl,hb⟩;refine ⟨_,rfl,?_⟩;replace HB:=Aside0.mk (below_step (bL HB.out) hb)))
 go_ret
 exact ⟨eW,bL HB.out⟩
theorem penumbraref01_at.calls (a0 : Int) (a1 : Int) (r : List Int) (w : World) (h : penumbraref01_at.f a0 a1=some r) :
  Calls Try.prog 78 #[.int .u64 a0,.int .i64 a1] w fun e w'=>∃ v0_ : Value,e=.returned (v0_)∧Kd.R (Kd.int .u32) 82 w' w.heap.size (fun _=>True) v0_ r∧Below w.heap.size w w':=by
 have HB:=Aside0.mk (Below.refl w.heap.size w)
 have H : (if 0≤a1 then (if (a1 : Int).toNat≤70368744177664 then ((some (List.replicate (a1 : Int).toNat 0 : List Int)).bind fun y580=>((some (([(Int.tmod a0 4294967296) % 4294967296,(IntKind.u64.wrap (Int.tdiv a0 4294967296)) % 4294967296] : List Int) : List Int)).bind fun y583=>(if y580.length+y583.length < 35184372088832 then (some (y580++y583)) else (none)))) else (none)) else (none))=some r:=h
 clear h
 refine ifT H ?_;clear H;intro c3 H
 have c3b0:=eq_true c3
 have c3b1 : decide (0≤a1)=true:=decide_eq_true c3
 clear c3
 refine ifT H ?_;clear H;intro c4 H
 have c4b0:=eq_true c4
 have c4b1 : decide ((a1 : Int).toNat≤70368744177664)=true:=decide_eq_true c4
 clear c4
 obtain ⟨y580,hy580⟩ : ∃ y_ : List Int,y_=(List.replicate (a1 : Int).toNat 0):=⟨_,rfl⟩
 replace H : ((some (([(Int.tmod a0 4294967296) % 4294967296,(IntKind.u64.wrap (Int.tdiv a0 4294967296)) % 4294967296] : List Int) : List Int)).bind fun y583=>(if y580.length+y583.length < 35184372088832 then (some (y580++y583)) else (none)))=some r:=by first|(rw [hy580];with_reducible exact H)|(have H2_:=(Option.bind_some _ _).symm.trans H;rw [hy580];with_reducible exact H2_)|(have H2_:=(Option.bind_some _ _).symm.trans H;with_reducible exact H2_)|with_reducible exact H|(rw [hy580];exact H)|exact H
 have Ny580:=Aside0.mk hy580
 clear hy580
 obtain ⟨y583,hy583⟩ : ∃ y_ : List Int,y_=(([(Int.tmod a0 4294967296) % 4294967296,(IntKind.u64.wrap (Int.tdiv a0 4294967296)) % 4294967296] : List Int)):=⟨_,rfl⟩
 replace H : (if y580.length+y583.length < 35184372088832 then (some (y580++y583)) else (none))=some r:=by first|(rw [hy583];with_reducible exact H)|(have H2_:=(Option.bind_some _ _).symm.trans H;rw [hy583];with_reducible exact H2_)|(have H2_:=(Option.bind_some _ _).symm.trans H;with_reducible exact H2_)|with_reducible exact H|(rw [hy583];exact H)|exact H
 have Ny583:=Aside0.mk hy583
 clear hy583
 refine ifT H ?_;clear H;intro c5 H
 have LMc5:=Aside0.mk c5
 clear c5
 obtain ⟨y586,hy586⟩ : ∃ y_ : List Int,y_=(y580++y583):=⟨_,rfl⟩
 replace H : (some y586)=some r:=by first|(rw [hy586];with_reducible exact H)|(have H2_:=(Option.bind_some _ _).symm.trans H;rw [hy586];with_reducible exact H2_)|(have H2_:=(Option.bind_some _ _).symm.trans H;with_reducible exact H2_)|with_reducible exact H|(rw [hy586];exact H)|exact H
 have Ny586:=Aside0.mk hy586
 clear hy586
 obtain rfl:=Option.some.inj H
 go_enter Try.func78,Try.ntmps78
 go_wp2_with (first|((with_reducible refine gate_dst (N:=6) rfl ?_);refine Kd.R_make (Kd.int .u32) _ 82 rfl (N:=6) rfl 61 _ _ rfl a1 rfl rfl Try.underlying61 (.int .u32 0) 4 info82 rfl (by decide) (by omega) 0 (ok:=fun _=>True) (okp:=fun _=>True) rfl (fun _ hk=>hk) trivial (oA) (Nat.le_trans (Nat.mul_le_mul_right _ (oA : a1.toNat≤70368744177664)) (by omega)) (Below.refl _ _) (Nat.le_refl _) ?_;intro v581 w6 ho7 hb hg_ hnew_;clear hg_ hnew_;(first|rw [← Ny580.out] at ho7|(simp only [Int.reduceToNat] at ho7;rw [← Ny580.out] at ho7));have HO582:=Aside0.mk (Kd.R_lower ho7 (below_size (bL HB.out)));replace HB:=Aside0.mk (below_step (bL HB.out) hb);clear hb ho7)|((with_reducible refine gate_dst (N:=13) rfl ?_);refine Kd.R_lit (Kd.int .u32) _ 82 ?hg (N:=13) ?hd (xs:=([(Int.tmod a0 4294967296) % 4294967296,(IntKind.u64.wrap (Int.tdiv a0 4294967296)) % 4294967296] : List Int)) (inner:=[.int .u32 ((Int.tmod a0 4294967296) % 4294967296),.int .u32 ((IntKind.u64.wrap (Int.tdiv a0 4294967296)) % 4294967296)]) (ok:=fun _=>True) (okp:=fun _=>True) ?hr ?hp (fun _ hk=>hk) trivial (Below.refl _ _) (Nat.le_refl _) (by simp) ?_;(case hd=>rfl);(case hg=>rfl);(case hr=>first|(go_simp;done)|(go_simp;(with_reducible rfl))|(go_simp;rfl)|(go_simp;simp only [hu,Int.emod_sub_emod]));(case hp=>exact (Reps.one (show Kd.M (Kd.int .u32) _ _ _ ((Int.tmod a0 4294967296) % 4294967296) [.int .u32 ((Int.tmod a0 4294967296) % 4294967296)] from rfl) (Reps.one (show Kd.M (Kd.int .u32) _ _ _ ((IntKind.u64.wrap (Int.tdiv a0 4294967296)) % 4294967296) [.int .u32 ((IntKind.u64.wrap (Int.tdiv a0 4294967296)) % 4294967296)] from rfl) (Reps.none _ _))));intro v584 w8 ho9 hb hg_ hnew_;clear hg_ hnew_;(first|rw [← Ny583.out] at ho9|(simp only [Int.reduceToNat] at ho9;rw [← Ny583.out] at ho9));have HO585:=Aside0.mk (Kd.R_lower (Kd.R_new' ho9 (Kd.R_lt (Ru HO582.out))) (below_size (bL HB.out)));replace HO582:=Aside0.mk (Kd.R_elder' (Ru HO582.out) (Kd.R_base ho9) hb);replace HB:=Aside0.mk (below_step (bL HB.out) hb);clear hb ho9;obtain ⟨Ao11,co11,eo11⟩:=Kd.R_slice HO585.out;subst eo11)|((with_reducible refine gate_builtin (b:=.append) (xs:=#[.tmp 6,.tmp 13]) rfl ?_);at_builtin;refine Kd.R_append_rows (Kd.int .u32) (w0:=w) w.heap.size rfl (.tmp 6) (.tmp 13) 61 82 (.int .u32 0) 4 rfl Try.underlying61 info82 rfl (by decide) (by omega) v581 y580 y583 _ _ _ (fun k_=>some k_≠(.slice Ao11 y583.length co11 : Value).ownBlock) (fun _=>False) rfl rfl ?aO ?aR (fun _ _ h=>h) (fun _ h=>h.elim) ?aF ?aB ?aS ?aL ?_;(case aR=>repeat (first|exact (Kd.R_reads' HO585.out).2.2|(with_reducible refine Kd.C_alloc ?_ _)|(with_reducible refine Kd.C_drewN ?_ _)|(with_reducible refine Kd.C_drew ?_)));(case aB=>exact (bL HB.out));(case aF=>exact (fun k_ hk=>Kd.fresh' (Kd.R_lt (Ru HO585.out)) k_ hk));(case aO=>exact (Kd.R_mono (Ru HO582.out) (fun _ hk=>hk.2)));(case aS=>exact (below_size (bL HB.out)));(case aL=>have:=LMc5.out;omega);intro v587 w10 ho hb hg hat;rw [← Ny586.out] at ho;replace HO585:=Aside0.mk (Kd.R_after (ok:=(fun _=>True)) (Ru HO585.out) hg hat);replace HB:=Aside0.mk hb;have HO588:=Aside0.mk ho;clear HO582;clear ho hb hg hat))
 go_ret
 exact ⟨_,eW,Kd.R_mono (Ru HO588.out) (fun _ hk=>trivial),bL HB.out⟩
theorem penumbraref01_DivMod.calls (k : Nat) (A0 : Option Addr) (c0 : Nat) (l0 : List Int) (A1 : Option Addr) (c1 : Nat) (l1 : List Int) (r1 : List Int) (r2 : List Int) (r3 : Bool) (w : World) (hr0 : Kd.C (Kd.int .u32) w A0 l0.length l0) (hc0 : l0.length≤c0) (hr1 : Kd.C (Kd.int .u32) w A1 l1.length l1) (hc1 : l1.length≤c1) (h : penumbraref01_DivMod.f k l0 l1=some (r1,r2,r3)) :
  Calls Try.prog 66 #[.slice A0 l0.length c0,.slice A1 l1.length c1] w fun e w'=>∃ v0_ v1_ : Value,e=.returned (.tuple #[v0_,v1_,.bool r3])∧Kd.R (Kd.int .u32) 82 w' w.heap.size (fun k_=>some k_≠(v1_ : Value).ownBlock) v0_ r1∧Kd.R (Kd.int .u32) 82 w' w.heap.size (fun k_=>some k_≠(v0_ : Value).ownBlock) v1_ r2∧Below w.heap.size w w':=by
 have HR0:=Aside0.mk hr0
 have HC0:=Aside0.mk hc0
 clear hr0 hc0
 have HR1:=Aside0.mk hr1
 have HC1:=Aside0.mk hc1
 clear hr1 hc1
 have HB:=Aside0.mk (Below.refl w.heap.size w)
 have H : ((penumbraref01_Zero.f k l1).bind fun t600=>(if t600=true then (some (([] : List Int),([] : List Int),false)) else ((penumbraref01_Norm.f k l1).bind fun t601=>((penumbraref01_Norm.f k l0).bind fun t604=>(penumbraref01_DivMod.l0 k t601 t604 0)))))=some (r1,r2,r3):=h
 clear h
 refine biT H ?_;clear H;intro t600 A3 H
 try dsimp only at H
 replace A3:=Aside0.mk A3
 by_cases c4 : t600=true
 ·subst c4
  rw [if_pos rfl] at H
  simp only [Option.some.injEq,Prod.mk.injEq] at H
  obtain ⟨rfl,rfl,rfl⟩:=H
  go_enter Try.func66,Try.ntmps66
  go_wp2_with (first|(go_at_call 64;(with_reducible refine (penumbraref01_Zero.calls k _ _ l1 true _ ?side1 ?side2 A3.out).mono ?_);(case side1=>exact Cu HR1.out);(case side2=>exact HC1.out);rintro e w5 ⟨rfl,hb⟩;replace HB:=Aside0.mk (below_step (bL HB.out) hb)))
  go_ret3
  exact ⟨_,_,eW,by first|exact Kd.R_nil _ _ _ _ _|exact Kd.N_nil _ _ _ _ _|exact Kd.V_nil _ _ _ _ _|exact Kd.Q_nil _ _ _ _ _|exact Kd.S_nil _ _ _ _ _,by first|exact Kd.R_nil _ _ _ _ _|exact Kd.N_nil _ _ _ _ _|exact Kd.V_nil _ _ _ _ _|exact Kd.Q_nil _ _ _ _ _|exact Kd.S_nil _ _ _ _ _,bL HB.out⟩
 ·replace c4:=Bool.eq_false_iff.mpr c4
  subst c4
  rw [if_neg (show ¬ (false=true) by decide)] at H
  refine biT H ?_;clear H;intro t601 A6 H
  try dsimp only at H
  replace A6:=Aside0.mk A6
  refine biT H ?_;clear H;intro t604 A7 H
  try dsimp only at H
  replace A7:=Aside0.mk A7
  have H':=Aside0.mk H
  clear H
  go_enter Try.func66,Try.ntmps66
  go_wp2_with (first|(go_at_call 64;(with_reducible refine (penumbraref01_Zero.calls k _ _ l1 false _ ?side1 ?side2 A3.out).mono ?_);(case side1=>exact Cu HR1.out);(case side2=>exact HC1.out);rintro e w8 ⟨rfl,hb⟩;replace HB:=Aside0.mk (below_step (bL HB.out) hb))|(go_at_call 67;(with_reducible refine (penumbraref01_Norm.calls k _ _ l1 t601 _ ?side1 ?side2 A6.out).mono ?_);(case side1=>exact Cu (Kd.C_below HR1.out HB.out));(case side2=>exact HC1.out);rintro e w9 ⟨v602,rfl,ho0,hb⟩;have HO603:=Aside0.mk (Kd.R_lower ho0 (below_size (bL HB.out)));replace HB:=Aside0.mk (below_step (bL HB.out) hb))|(go_at_call 67;(with_reducible refine (penumbraref01_Norm.calls k _ _ l0 t604 _ ?side1 ?side2 A7.out).mono ?_);(case side1=>exact Cu (Kd.C_below HR0.out HB.out));(case side2=>exact HC0.out);rintro e w10 ⟨v605,rfl,ho0,hb⟩;have HO606:=Aside0.mk (Kd.R_lower (Kd.R_new' ho0 (Kd.R_lt (Ru HO603.out))) (below_size (bL HB.out)));replace HO603:=Aside0.mk (Kd.R_elder' (Ru HO603.out) (Kd.R_base ho0) hb);replace HB:=Aside0.mk (below_step (bL HB.out) hb)))
  go_loopg [7,8,9] k (fun kq v7 v8 v9 w'=>∃ (x7_1 : List Int) (x8_1 : List Int) (x9_1 : Int),v9=.int .i64 x9_1∧Aside0 (penumbraref01_DivMod.l0 kq x7_1 x8_1 x9_1=some (r1,r2,r3))∧Aside0 (kq≤k)∧Aside0 (Kd.R (Kd.int .u32) 82 w' w.heap.size (fun k_=>some k_≠(v8 : Value).ownBlock) v7 x7_1)∧Aside0 (Kd.R (Kd.int .u32) 82 w' w.heap.size (fun k_=>some k_≠(v7 : Value).ownBlock) v8 x8_1)∧Aside0 (Below w.heap.size w w'))
  case atStart=>exact ⟨(t601),(t604),(0),sD,H',⟨Nat.le_refl _⟩,⟨Kd.R_mono (Ru HO603.out) (fun _ hk=>hk.2)⟩,⟨Kd.R_mono (Ru HO606.out) (fun _ hk=>hk.2)⟩,⟨bL HB.out⟩⟩
  case round =>
   clear H'
   obtain ⟨x7_1,x8_1,x9_1,rfl,HA,HK1,HO_7,HO_8,HB⟩:=hrel
   cases gk with
   | zero=>exact absurd HA.out (by simp [penumbraref01_DivMod.l0])
   | succ k1 =>
    have H:=HA.out
    clear HA
    simp only [penumbraref01_DivMod.l0] at H
    obtain ⟨ji11,hji11⟩ : ∃ j_ : Int,(wrap64 ((x7_1.length : Int) - 1))=j_:=⟨_,rfl⟩
    first|rw [hji11] at H|simp only [hji11] at H ⊢
    have hji11w:=(i64_w _).trans hji11
    refine ifT H ?_;clear H;intro c12 H
    have c12b0 : decide (0≤(ji11))=true:=decide_eq_true c12
    clear c12
    refine ifT H ?_;clear H;intro c13 H
    have c13b0 : decide ((ji11) < (x7_1.length : Int))=true:=decide_eq_true c13
    clear c13
    by_cases c14 : (rd x7_1 (ji11)) < 2147483648
    ·rw [if_pos c14] at H
     have c14b0 : decide ((rd x7_1 (ji11)) < 2147483648)=true:=decide_eq_true c14
     clear c14
     refine biT H ?_;clear H;intro t608 A15 H
     try dsimp only at H
     replace A15:=Aside0.mk A15
     refine biT H ?_;clear H;intro t611 A16 H
     try dsimp only at H
     replace A16:=Aside0.mk A16
     have H':=Aside0.mk H
     clear H
     obtain ⟨Ao17,co17,eo17⟩:=Kd.R_slice HO_7.out
     subst eo17
     have p607 : 0≤((ji11) : Int):=oA
     have q607 : (ji11) < (x7_1.length : Int):=oA
     obtain ⟨ad607,e607,hx607_0⟩:=Kd.at_int (Kd.R_reads' HO_7.out).2.2 (ji11) p607 q607
     cases e607
     replace p607:=eq_true p607
     replace q607:=eq_true q607
     go_wp2_with (first|(go_at_call 77;(with_reducible refine (penumbraref01_Double.calls k1 _ _ x7_1 false t608 _ ?side1 ?side2 A15.out).mono ?_);(case side1=>exact Cu (Kd.R_reads' HO_7.out).2.2);(case side2=>exact (Kd.R_reads' HO_7.out).2.1);rintro e w18 ⟨v609,rfl,ho0,hb⟩;have HO610:=Aside0.mk (Kd.R_lower (Kd.R_new' (Kd.R_new' ho0 (Kd.R_lt (Ru HO_7.out))) (Kd.R_lt (Ru HO_8.out))) (below_size (bL HB.out)));replace HO_7:=Aside0.mk (Kd.R_elder' (Ru HO_7.out) (Kd.R_base ho0) hb);replace HO_8:=Aside0.mk (Kd.R_elder' (Ru HO_8.out) (Kd.R_base ho0) hb);replace HB:=Aside0.mk (below_step (bL HB.out) hb);obtain ⟨Ao19,co19,eo19⟩:=Kd.R_slice HO_8.out;subst eo19)|(go_at_call 77;(with_reducible refine (penumbraref01_Double.calls k1 _ _ x8_1 false t611 _ ?side1 ?side2 A16.out).mono ?_);(case side1=>exact Cu (Kd.R_reads' HO_8.out).2.2);(case side2=>exact (Kd.R_reads' HO_8.out).2.1);rintro e w20 ⟨v612,rfl,ho0,hb⟩;have HO613:=Aside0.mk (Kd.R_lower (Kd.R_new' (Kd.R_new' (Kd.R_new' ho0 (Kd.R_lt (Ru HO_7.out))) (Kd.R_lt (Ru HO_8.out))) (Kd.R_lt (Ru HO610.out))) (below_size (bL HB.out)));replace HO_7:=Aside0.mk (Kd.R_elder' (Ru HO_7.out) (Kd.R_base ho0) hb);replace HO_8:=Aside0.mk (Kd.R_elder' (Ru HO_8.out) (Kd.R_base ho0) hb);replace HO610:=Aside0.mk (Kd.R_elder' (Ru HO610.out) (Kd.R_base ho0) hb);replace HB:=Aside0.mk (below_step (bL HB.out) hb)))
     go_roundg k1
     case measure=>have:=HK1.out;omega
     case rel=>exact ⟨(t608),(t611),(wrap64 (x9_1+1)),sD,H',⟨by have:=HK1.out;omega⟩,⟨Kd.R_mono (Ru HO610.out) (fun _ hk=>hk.2)⟩,⟨Kd.R_mono (Ru HO613.out) (fun _ hk=>hk.2)⟩,⟨bL HB.out⟩⟩
    ·rw [if_neg c14] at H
     have c14b0 : decide ((rd x7_1 (ji11)) < 2147483648)=false:=decide_eq_false c14
     clear c14
     obtain ⟨y614,hy614⟩ : ∃ y_ : List Int,y_=(([] : List Int)):=⟨_,rfl⟩
     replace H : (penumbraref01_DivMod.l1 k1 x7_1 x8_1 x9_1 y614 (x7_1.length : Int) (IntKind.u64.wrap ((IntKind.u64.wrap (rd x7_1 (ji11)))+1)))=some (r1,r2,r3):=by first|(rw [hy614];with_reducible exact H)|(have H2_:=(Option.bind_some _ _).symm.trans H;rw [hy614];with_reducible exact H2_)|(have H2_:=(Option.bind_some _ _).symm.trans H;with_reducible exact H2_)|with_reducible exact H|(rw [hy614];exact H)|exact H
     have Ny614:=Aside0.mk hy614
     clear hy614
     have H':=Aside0.mk H
     clear H
     obtain ⟨Ao21,co21,eo21⟩:=Kd.R_slice HO_7.out
     subst eo21
     have p607 : 0≤((ji11) : Int):=oA
     have q607 : (ji11) < (x7_1.length : Int):=oA
     obtain ⟨ad607,e607,hx607_0⟩:=Kd.at_int (Kd.R_reads' HO_7.out).2.2 (ji11) p607 q607
     cases e607
     replace p607:=eq_true p607
     replace q607:=eq_true q607
     go_wp2_with (first|((with_reducible refine gate_dst (N:=37) rfl ?_);refine Kd.R_lit (Kd.int .u32) _ 82 ?hg (N:=37) ?hd (xs:=([] : List Int)) (inner:=[]) (ok:=fun _=>True) (okp:=fun _=>True) ?hr ?hp (fun _ hk=>hk) trivial (Below.refl _ _) (Nat.le_refl _) (by simp) ?_;(case hd=>rfl);(case hg=>rfl);(case hr=>first|(go_simp;done)|(go_simp;(with_reducible rfl))|(go_simp;rfl)|(go_simp;simp only [hu,Int.emod_sub_emod]));(case hp=>exact (Reps.none _ _));intro v615 w22 ho23 hb hg_ hnew_;clear hg_ hnew_;(first|rw [← Ny614.out] at ho23|(simp only [Int.reduceToNat] at ho23;rw [← Ny614.out] at ho23));have HO616:=Aside0.mk (Kd.R_lower (Kd.R_new' (Kd.R_new' ho23 (Kd.R_lt (Ru HO_7.out))) (Kd.R_lt (Ru HO_8.out))) (below_size (bL HB.out)));replace HO_7:=Aside0.mk (Kd.R_elder' (Ru HO_7.out) (Kd.R_base ho23) hb);replace HO_8:=Aside0.mk (Kd.R_elder' (Ru HO_8.out) (Kd.R_base ho23) hb);replace HB:=Aside0.mk (below_step (bL HB.out) hb);clear hb ho23;have p617 : 0≤((ji11) : Int):=oA;have q617 : (ji11) < (x7_1.length : Int):=oA;obtain ⟨ad617,e617,hx617_0⟩:=Kd.at_int (Kd.R_reads' HO_7.out).2.2 (ji11) p617 q617;obtain rfl : ad607=ad617:=(by injection e617);replace p617:=eq_true p617;replace q617:=eq_true q617))
     go_loopg [8,10] k1 (fun kq v8 v10 w'=>∃ (x8_2 : List Int) (x10_2 : List Int),Aside0 (penumbraref01_DivMod.l1 kq x7_1 x8_2 x9_1 x10_2 (x7_1.length : Int) (IntKind.u64.wrap ((IntKind.u64.wrap (rd x7_1 (ji11)))+1))=some (r1,r2,r3))∧Aside0 (kq≤k1)∧Aside0 (Kd.R (Kd.int .u32) 82 w' w.heap.size (fun k_=>some k_≠(v8 : Value).ownBlock∧some k_≠(v10 : Value).ownBlock) (.slice (some ad607) x7_1.length co21) x7_1)∧Aside0 (Kd.R (Kd.int .u32) 82 w' w.heap.size (fun k_=>some k_≠((.slice (some ad607) x7_1.length co21) : Value).ownBlock∧some k_≠(v10 : Value).ownBlock) v8 x8_2)∧Aside0 (Kd.R (Kd.int .u32) 82 w' w.heap.size (fun k_=>some k_≠((.slice (some ad607) x7_1.length co21) : Value).ownBlock∧some k_≠(v8 : Value).ownBlock) v10 x10_2)∧Aside0 (Below w.heap.size w w'))
     case atStart=>exact ⟨(x8_1),(y614),H',⟨Nat.le_refl _⟩,⟨Ru HO_7.out⟩,⟨Ru HO_8.out⟩,⟨Kd.R_mono (Ru HO616.out) (fun _ hk=>⟨hk.1.2,hk.2⟩)⟩,⟨bL HB.out⟩⟩
     case round =>
      clear H'
      obtain ⟨x8_2,x10_2,HA,HK2,HO_7,HO_8,HO_10,HB⟩:=hrel
      cases gk with
      | zero=>exact absurd HA.out (by simp [penumbraref01_DivMod.l1])
      | succ k2 =>
       have H:=HA.out
       clear HA
       simp only [penumbraref01_DivMod.l1] at H
       refine biT H ?_;clear H;intro t618 A24 H
       try dsimp only at H
       replace A24:=Aside0.mk A24
       by_cases c25 : t618 ≥ 0
       ·rw [if_pos c25] at H
        have c25b0 : decide (0≤t618)=true:=decide_eq_true c25
        clear c25
        obtain ⟨ji26,hji26⟩ : ∃ j_ : Int,(wrap64 ((x8_2.length : Int) - 1))=j_:=⟨_,rfl⟩
        replace H : (if 0≤(ji26) then (if (ji26) < (x8_2.length : Int) then (if (IntKind.u64.wrap ((IntKind.u64.wrap (rd x7_1 (ji11)))+1))=0 then (none) else (if (IntKind.u64.wrap (Int.tdiv (IntKind.u64.wrap (rd x8_2 (ji26))) (IntKind.u64.wrap ((IntKind.u64.wrap (rd x7_1 (ji11)))+1))))=0 then (penumbraref01_DivMod.j2 k2 x7_1 x8_2 x9_1 x10_2 (x7_1.length : Int) (IntKind.u64.wrap ((IntKind.u64.wrap (rd x7_1 (ji11)))+1)) (x8_2.length : Int) (wrap64 ((x8_2.length : Int) - (x7_1.length : Int))) (IntKind.u64.wrap (Int.tdiv (IntKind.u64.wrap (rd x8_2 (ji26))) (IntKind.u64.wrap ((IntKind.u64.wrap (rd x7_1 (ji11)))+1)))) (decide ((x8_2.length : Int) > (x7_1.length : Int)))) else (penumbraref01_DivMod.j2 k2 x7_1 x8_2 x9_1 x10_2 (x7_1.length : Int) (IntKind.u64.wrap ((IntKind.u64.wrap (rd x7_1 (ji11)))+1)) (x8_2.length : Int) (wrap64 ((x8_2.length : Int) - (x7_1.length : Int))) (IntKind.u64.wrap (Int.tdiv (IntKind.u64.wrap (rd x8_2 (ji26))) (IntKind.u64.wrap ((IntKind.u64.wrap (rd x7_1 (ji11)))+1)))) false))) else (none)) else (none))=some (r1,r2,r3):=by first|(rw [hji26] at H;exact H)|(simp only [hji26] at H ⊢;exact H)
        (try rw [hji26] at A24)
        have hji26w : (IntKind.i64.wrap ((x8_2.length : Int) - 1))=ji26:=(i64_w _).trans hji26
        refine ifT H ?_;clear H;intro c27 H
        have c27b0 : decide (0≤(ji26))=true:=decide_eq_true c27
        clear c27
        refine ifT H ?_;clear H;intro c28 H
        have c28b0 : decide ((ji26) < (x8_2.length : Int))=true:=decide_eq_true c28
        clear c28
        refine ifF H ?_;clear H;intro c29 H
        have c29b0 : ((IntKind.u64.wrap ((IntKind.u64.wrap (rd x7_1 (ji11)))+1)) == 0)=false:=beq_eq_false_iff_ne.mpr c29
        have c29b1 : ((IntKind.u64.wrap ((IntKind.u64.wrap (rd x7_1 (ji11)))+1)) != 0)=true:=bne_iff_ne.mpr c29
        have HC30:=Aside0.mk H
        clear H
        obtain ⟨Ao31,co31,eo31⟩:=Kd.R_slice HO_8.out
        subst eo31
        go_upto_region 17 with (first|(go_at_call 54;(with_reducible refine (penumbraref01_Cmp.calls k2 _ _ x8_2 _ _ x7_1 t618 _ ?side1 ?side2 ?side3 ?side4 A24.out).mono ?_);(case side1=>exact Cu (Kd.R_reads' HO_8.out).2.2);(case side2=>exact (Kd.R_reads' HO_8.out).2.1);(case side3=>exact Cu (Kd.R_reads' HO_7.out).2.2);(case side4=>exact (Kd.R_reads' HO_7.out).2.1);rintro e w32 ⟨rfl,hb⟩;replace HO_7:=Aside0.mk (Kd.R_below (Ru HO_7.out) hb);replace HO_8:=Aside0.mk (Kd.R_below (Ru HO_8.out) hb);replace HO_10:=Aside0.mk (Kd.R_below (Ru HO_10.out) hb);replace HB:=Aside0.mk (below_step (bL HB.out) hb);have p619 : 0≤((ji26) : Int):=oA;have q619 : (ji26) < (x8_2.length : Int):=oA;obtain ⟨ad619,e619,hx619_0⟩:=Kd.at_int (Kd.R_reads' HO_8.out).2.2 (ji26) p619 q619;cases e619;replace p619:=eq_true p619;replace q619:=eq_true q619))
        (try simp only [Act.put,s0,s1,s2])
        go_cut [70] (fun v70 wc=>∃ (kq : Nat) (x70_29 : Bool),v70=.bool x70_29∧Aside0 (penumbraref01_DivMod.j2 kq x7_1 x8_2 x9_1 x10_2 (x7_1.length : Int) (IntKind.u64.wrap ((IntKind.u64.wrap (rd x7_1 (ji11)))+1)) (x8_2.length : Int) (wrap64 ((x8_2.length : Int) - (x7_1.length : Int))) (IntKind.u64.wrap (Int.tdiv (IntKind.u64.wrap (rd x8_2 (ji26))) (IntKind.u64.wrap ((IntKind.u64.wrap (rd x7_1 (ji11)))+1)))) x70_29=some (r1,r2,r3))∧Aside0 (kq≤k2)∧Aside0 (Kd.R (Kd.int .u32) 82 wc w.heap.size (fun k_=>some k_≠((.slice (some ad619) x8_2.length co31) : Value).ownBlock∧some k_≠(u10 : Value).ownBlock) (.slice (some ad607) x7_1.length co21) x7_1)∧Aside0 (Kd.R (Kd.int .u32) 82 wc w.heap.size (fun k_=>some k_≠((.slice (some ad607) x7_1.length co21) : Value).ownBlock∧some k_≠(u10 : Value).ownBlock) (.slice (some ad619) x8_2.length co31) x8_2)∧Aside0 (Kd.R (Kd.int .u32) 82 wc w.heap.size (fun k_=>some k_≠((.slice (some ad607) x7_1.length co21) : Value).ownBlock∧some k_≠((.slice (some ad619) x8_2.length co31) : Value).ownBlock) u10 x10_2)∧Aside0 (Below w.heap.size w wc))
        case first =>
         have H:=HC30.out
         clear HC30
         by_cases c33 : (IntKind.u64.wrap (Int.tdiv (IntKind.u64.wrap (rd x8_2 (ji26))) (IntKind.u64.wrap ((IntKind.u64.wrap (rd x7_1 (ji11)))+1))))=0
         ·rw [if_pos c33] at H
          have c33b0 : ((IntKind.u64.wrap (Int.tdiv (IntKind.u64.wrap (rd x8_2 (ji26))) (IntKind.u64.wrap ((IntKind.u64.wrap (rd x7_1 (ji11)))+1)))) == 0)=true:=beq_iff_eq.mpr c33
          have c33b1 : ((IntKind.u64.wrap (Int.tdiv (IntKind.u64.wrap (rd x8_2 (ji26))) (IntKind.u64.wrap ((IntKind.u64.wrap (rd x7_1 (ji11)))+1)))) != 0)=false:=bne_eq_false_iff_eq.mpr c33
          clear c33
          (first|rw [c33b0]|(simp only [i64_w,i32_w];rw [c33b0])|skip)
          have H':=Aside0.mk H
          clear H
          go_wp2
          go_meet
          case rel=>exact ⟨_,(decide ((x8_2.length : Int) > (x7_1.length : Int))),sD,H',⟨by have:=HK1.out;have:=HK2.out;first|omega|exact Nat.le_refl _⟩,⟨Ru HO_7.out⟩,⟨Ru HO_8.out⟩,⟨Ru HO_10.out⟩,⟨bL HB.out⟩⟩
         ·rw [if_neg c33] at H
          have c33b0 : ((IntKind.u64.wrap (Int.tdiv (IntKind.u64.wrap (rd x8_2 (ji26))) (IntKind.u64.wrap ((IntKind.u64.wrap (rd x7_1 (ji11)))+1)))) == 0)=false:=beq_eq_false_iff_ne.mpr c33
          have c33b1 : ((IntKind.u64.wrap (Int.tdiv (IntKind.u64.wrap (rd x8_2 (ji26))) (IntKind.u64.wrap ((IntKind.u64.wrap (rd x7_1 (ji11)))+1)))) != 0)=true:=bne_iff_ne.mpr c33
          (first|rw [c33b0]|(simp only [i64_w,i32_w];rw [c33b0])|skip)
          have H':=Aside0.mk H
          clear H
          go_wp2
          go_meet
          case rel=>exact ⟨_,(false),sD,H',⟨by have:=HK1.out;have:=HK2.out;first|omega|exact Nat.le_refl _⟩,⟨Ru HO_7.out⟩,⟨Ru HO_8.out⟩,⟨Ru HO_10.out⟩,⟨bL HB.out⟩⟩
        case rest =>
         clear HC30
         obtain ⟨kq,x70_29,rfl,HA,HJ29,HO_7,HO_8,HO_10,HB⟩:=hcut
         cases kq with
         | zero=>exact absurd HA.out (by simp [penumbraref01_DivMod.j2])
         | succ kj29 =>
          have H:=HA.out
          clear HA
          simp only [penumbraref01_DivMod.j2] at H
          have HC34:=Aside0.mk H
          clear H
          go_upto_if 70 with (fail)
          go_cut [14,15] (fun v14 v15 wc=>∃ (kq : Nat) (x14_33 : Int) (x15_33 : Int),v14=.int .i64 x14_33∧v15=.int .u64 x15_33∧Aside0 (penumbraref01_DivMod.j3 kq x7_1 x8_2 x9_1 x10_2 (x7_1.length : Int) (IntKind.u64.wrap ((IntKind.u64.wrap (rd x7_1 (ji11)))+1)) x14_33 x15_33=some (r1,r2,r3))∧Aside0 (kq≤kj29)∧Aside0 (Kd.R (Kd.int .u32) 82 wc w.heap.size (fun k_=>some k_≠((.slice (some ad619) x8_2.length co31) : Value).ownBlock∧some k_≠(u10 : Value).ownBlock) (.slice (some ad607) x7_1.length co21) x7_1)∧Aside0 (Kd.R (Kd.int .u32) 82 wc w.heap.size (fun k_=>some k_≠((.slice (some ad607) x7_1.length co21) : Value).ownBlock∧some k_≠(u10 : Value).ownBlock) (.slice (some ad619) x8_2.length co31) x8_2)∧Aside0 (Kd.R (Kd.int .u32) 82 wc w.heap.size (fun k_=>some k_≠((.slice (some ad607) x7_1.length co21) : Value).ownBlock∧some k_≠((.slice (some ad619) x8_2.length co31) : Value).ownBlock) u10 x10_2)∧Aside0 (Below w.heap.size w wc))
          case first =>
           have H:=HC34.out
           clear HC34
           by_cases c35 : x70_29=true
           ·subst c35
            rw [if_pos rfl] at H
            replace H : (if 0≤(ji26) then (if (ji26) < (x8_2.length : Int) then (if 0≤(wrap64 ((x8_2.length : Int) - 2)) then (if (wrap64 ((x8_2.length : Int) - 2)) < (x8_2.length : Int) then (if (IntKind.u64.wrap ((IntKind.u64.wrap (rd x7_1 (ji11)))+1))=0 then (none) else (penumbraref01_DivMod.j3 kj29 x7_1 x8_2 x9_1 x10_2 (x7_1.length : Int) (IntKind.u64.wrap ((IntKind.u64.wrap (rd x7_1 (ji11)))+1)) (wrap64 ((wrap64 ((x8_2.length : Int) - (x7_1.length : Int))) - 1)) (IntKind.u64.wrap (Int.tdiv (IntKind.u64.wrap ((IntKind.u64.wrap ((IntKind.u64.wrap (rd x8_2 (ji26))) * 4294967296))+(IntKind.u64.wrap (rd x8_2 (wrap64 ((x8_2.length : Int) - 2)))))) (IntKind.u64.wrap ((IntKind.u64.wrap (rd x7_1 (ji11)))+1)))))) else (none)) else (none)) else (none)) else (none))=some (r1,r2,r3):=by first|(rw [hji26] at H;exact H)|(simp only [hji26] at H ⊢;exact H)
            have hji26w : (IntKind.i64.wrap ((x8_2.length : Int) - 1))=ji26:=(i64_w _).trans hji26
            refine ifT H ?_;clear H;intro c36 H
            have c36b0 : decide (0≤(ji26))=true:=decide_eq_true c36
            clear c36
            (first|rw [c36b0]|(simp only [i64_w,i32_w];rw [c36b0])|skip)
            refine ifT H ?_;clear H;intro c37 H
            have c37b0 : decide ((ji26) < (x8_2.length : Int))=true:=decide_eq_true c37
            clear c37
            obtain ⟨ji38,hji38⟩ : ∃ j_ : Int,(wrap64 ((x8_2.length : Int) - 2))=j_:=⟨_,rfl⟩
            first|rw [hji38] at H|simp only [hji38] at H ⊢
            have hji38w:=(i64_w _).trans hji38
            refine ifT H ?_;clear H;intro c39 H
            have c39b0 : decide (0≤(ji38))=true:=decide_eq_true c39
            clear c39
            refine ifT H ?_;clear H;intro c40 H
            have c40b0 : decide ((ji38) < (x8_2.length : Int))=true:=decide_eq_true c40
            clear c40
            refine ifF H ?_;clear H;intro c41 H
            have c41b0 : ((IntKind.u64.wrap ((IntKind.u64.wrap (rd x7_1 (ji11)))+1)) == 0)=false:=beq_eq_false_iff_ne.mpr c41
            have c41b1 : ((IntKind.u64.wrap ((IntKind.u64.wrap (rd x7_1 (ji11)))+1)) != 0)=true:=bne_iff_ne.mpr c41
            have H':=Aside0.mk H
            clear H
            have p620 : 0≤((ji26) : Int):=oA
            have q620 : (ji26) < (x8_2.length : Int):=oA
            obtain ⟨ad620,e620,hx620_0⟩:=Kd.at_int (Kd.R_reads' HO_8.out).2.2 (ji26) p620 q620
            obtain rfl : ad619=ad620:=(by injection e620)
            replace p620:=eq_true p620
            replace q620:=eq_true q620
            have p621 : 0≤((ji38) : Int):=oA
            have q621 : (ji38) < (x8_2.length : Int):=oA
            obtain ⟨ad621,e621,hx621_0⟩:=Kd.at_int (Kd.R_reads' HO_8.out).2.2 (ji38) p621 q621
            obtain rfl : ad619=ad621:=(by injection e621)
            replace p621:=eq_true p621
            replace q621:=eq_true q621
            go_wp2
            repeat (go_quiet (fail);try go_wp2)
            go_meet
            case rel=>exact ⟨_,(wrap64 ((wrap64 ((x8_2.length : Int) - (x7_1.length : Int))) - 1)),(IntKind.u64.wrap (Int.tdiv (IntKind.u64.wrap ((IntKind.u64.wrap ((IntKind.u64.wrap (rd x8_2 (ji26))) * 4294967296))+(IntKind.u64.wrap (rd x8_2 (ji38))))) (IntKind.u64.wrap ((IntKind.u64.wrap (rd x7_1 (ji11)))+1)))),sD,(by first|rfl|(simp;done)|(simp only [← hji11,← hji26,← hji26,← hji38] <;> (first|rfl|simp))|(simp [*];done)),H',⟨by have:=HK1.out;have:=HK2.out;have:=HJ29.out;first|omega|exact Nat.le_refl _⟩,⟨Ru HO_7.out⟩,⟨Ru HO_8.out⟩,⟨Ru HO_10.out⟩,⟨bL HB.out⟩⟩
           ·replace c35:=Bool.eq_false_iff.mpr c35
            subst c35
            rw [if_neg (show ¬ (false=true) by decide)] at H
            have H':=Aside0.mk H
            clear H
            go_wp2
            go_meet
            case rel=>exact ⟨_,((wrap64 ((x8_2.length : Int) - (x7_1.length : Int)))),((IntKind.u64.wrap (Int.tdiv (IntKind.u64.wrap (rd x8_2 (ji26))) (IntKind.u64.wrap ((IntKind.u64.wrap (rd x7_1 (ji11)))+1))))),sD,(by first|rfl|(simp;done)|(simp only [← hji11,← hji26] <;> (first|rfl|simp))|(simp [*];done)),H',⟨by have:=HK1.out;have:=HK2.out;have:=HJ29.out;first|omega|exact Nat.le_refl _⟩,⟨Ru HO_7.out⟩,⟨Ru HO_8.out⟩,⟨Ru HO_10.out⟩,⟨bL HB.out⟩⟩
          case rest =>
           clear HC34
           obtain ⟨kq,x14_33,x15_33,rfl,rfl,HA,HJ33,HO_7,HO_8,HO_10,HB⟩:=hcut
           cases kq with
           | zero=>exact absurd HA.out (by simp [penumbraref01_DivMod.j3])
           | succ kj33 =>
            have H:=HA.out
            clear HA
            simp only [penumbraref01_DivMod.j3] at H
            have HC42:=Aside0.mk H
            clear H
            go_upto_if 90 with (fail)
            go_cut [15] (fun v15 wc=>∃ (kq : Nat) (x15_41 : Int),v15=.int .u64 x15_41∧Aside0 (penumbraref01_DivMod.j4 kq x7_1 x8_2 x9_1 x10_2 (x7_1.length : Int) (IntKind.u64.wrap ((IntKind.u64.wrap (rd x7_1 (ji11)))+1)) x14_33 x15_41=some (r1,r2,r3))∧Aside0 (kq≤kj33)∧Aside0 (Kd.R (Kd.int .u32) 82 wc w.heap.size (fun k_=>some k_≠((.slice (some ad619) x8_2.length co31) : Value).ownBlock∧some k_≠(u10 : Value).ownBlock) (.slice (some ad607) x7_1.length co21) x7_1)∧Aside0 (Kd.R (Kd.int .u32) 82 wc w.heap.size (fun k_=>some k_≠((.slice (some ad607) x7_1.length co21) : Value).ownBlock∧some k_≠(u10 : Value).ownBlock) (.slice (some ad619) x8_2.length co31) x8_2)∧Aside0 (Kd.R (Kd.int .u32) 82 wc w.heap.size (fun k_=>some k_≠((.slice (some ad607) x7_1.length co21) : Value).ownBlock∧some k_≠((.slice (some ad619) x8_2.length co31) : Value).ownBlock) u10 x10_2)∧Aside0 (Below w.heap.size w wc))
            case first =>
             have H:=HC42.out
             clear HC42
             by_cases c43 : x15_33=0
             ·rw [if_pos c43] at H
              have c43b0 : (x15_33 == 0)=true:=beq_iff_eq.mpr c43
              have c43b1 : (x15_33 != 0)=false:=bne_eq_false_iff_eq.mpr c43
              clear c43
              (first|rw [c43b0]|(simp only [i64_w,i32_w];rw [c43b0])|skip)
              have H':=Aside0.mk H
              clear H
              go_wp2
              go_meet
              case rel=>exact ⟨_,(1),sD,H',⟨by have:=HK1.out;have:=HK2.out;have:=HJ29.out;have:=HJ33.out;first|omega|exact Nat.le_refl _⟩,⟨Ru HO_7.out⟩,⟨Ru HO_8.out⟩,⟨Ru HO_10.out⟩,⟨bL HB.out⟩⟩
             ·rw [if_neg c43] at H
              have c43b0 : (x15_33 == 0)=false:=beq_eq_false_iff_ne.mpr c43
              have c43b1 : (x15_33 != 0)=true:=bne_iff_ne.mpr c43
              (first|rw [c43b0]|(simp only [i64_w,i32_w];rw [c43b0])|skip)
              have H':=Aside0.mk H
              clear H
              go_wp2
              go_meet
              case rel=>exact ⟨_,(x15_33),sD,H',⟨by have:=HK1.out;have:=HK2.out;have:=HJ29.out;have:=HJ33.out;first|omega|exact Nat.le_refl _⟩,⟨Ru HO_7.out⟩,⟨Ru HO_8.out⟩,⟨Ru HO_10.out⟩,⟨bL HB.out⟩⟩
            case rest =>
             clear HC42
             obtain ⟨kq,x15_41,rfl,HA,HJ41,HO_7,HO_8,HO_10,HB⟩:=hcut
             cases kq with
             | zero=>exact absurd HA.out (by simp [penumbraref01_DivMod.j4])
             | succ kj41 =>
              have H:=HA.out
              clear HA
              simp only [penumbraref01_DivMod.j4] at H
              refine biT H ?_;clear H;intro t622 A44 H
              try dsimp only at H
              replace A44:=Aside0.mk A44
              refine biT H ?_;clear H;intro t625 A45 H
              try dsimp only at H
              replace A45:=Aside0.mk A45
              refine biT H ?_;clear H;intro t628 A46 H
              try dsimp only at H
              replace A46:=Aside0.mk A46
              refine biT H ?_;clear H;rintro ⟨t631,t632⟩ A47 H
              try dsimp only at H
              replace A47:=Aside0.mk A47
              have H':=Aside0.mk H
              clear H
              go_wp2_with (first|(go_at_call 78;(with_reducible refine (penumbraref01_at.calls x15_41 x14_33 t622 _ A44.out).mono ?_);rintro e w48 ⟨v623,rfl,ho0,hb⟩;have HO624:=Aside0.mk (Kd.R_lower (Kd.R_new' (Kd.R_new' (Kd.R_new' ho0 (Kd.R_lt (Ru HO_7.out))) (Kd.R_lt (Ru HO_8.out))) (Kd.R_lt (Ru HO_10.out))) (below_size (bL HB.out)));replace HO_7:=Aside0.mk (Kd.R_elder' (Ru HO_7.out) (Kd.R_base ho0) hb);replace HO_8:=Aside0.mk (Kd.R_elder' (Ru HO_8.out) (Kd.R_base ho0) hb);replace HO_10:=Aside0.mk (Kd.R_elder' (Ru HO_10.out) (Kd.R_base ho0) hb);replace HB:=Aside0.mk (below_step (bL HB.out) hb);obtain ⟨Ao49,co49,eo49⟩:=Kd.R_slice HO_10.out;subst eo49;obtain ⟨Ao50,co50,eo50⟩:=Kd.R_slice HO624.out;subst eo50)|(go_at_call 53;(with_reducible refine (penumbraref01_Add.calls kj41 _ _ x10_2 _ _ t622 t625 _ ?side1 ?side2 ?side3 ?side4 A45.out).mono ?_);(case side1=>exact Cu (Kd.R_reads' HO_10.out).2.2);(case side2=>exact (Kd.R_reads' HO_10.out).2.1);(case side3=>exact Cu (Kd.R_reads' HO624.out).2.2);(case side4=>exact (Kd.R_reads' HO624.out).2.1);rintro e w51 ⟨v626,rfl,ho0,hb⟩;have HO627:=Aside0.mk (Kd.R_lower (Kd.R_new' (Kd.R_new' (Kd.R_new' (Kd.R_new' ho0 (Kd.R_lt (Ru HO_7.out))) (Kd.R_lt (Ru HO_8.out))) (Kd.R_lt (Ru HO_10.out))) (Kd.R_lt (Ru HO624.out))) (below_size (bL HB.out)));replace HO_7:=Aside0.mk (Kd.R_elder' (Ru HO_7.out) (Kd.R_base ho0) hb);replace HO_8:=Aside0.mk (Kd.R_elder' (Ru HO_8.out) (Kd.R_base ho0) hb);replace HO_10:=Aside0.mk (Kd.R_elder' (Ru HO_10.out) (Kd.R_base ho0) hb);replace HO624:=Aside0.mk (Kd.R_elder' (Ru HO624.out) (Kd.R_base ho0) hb);replace HB:=Aside0.mk (below_step (bL HB.out) hb))|(go_at_call 52;(with_reducible refine (penumbraref01_Mul.calls kj41 _ _ t622 _ _ x7_1 t628 _ ?side1 ?side2 ?side3 ?side4 A46.out).mono ?_);(case side1=>exact Cu (Kd.R_reads' HO624.out).2.2);(case side2=>exact (Kd.R_reads' HO624.out).2.1);(case side3=>exact Cu (Kd.R_reads' HO_7.out).2.2);(case side4=>exact (Kd.R_reads' HO_7.out).2.1);rintro e w52 ⟨v629,rfl,ho0,hb⟩;have HO630:=Aside0.mk (Kd.R_lower (Kd.R_new' (Kd.R_new' (Kd.R_new' (Kd.R_new' (Kd.R_new' ho0 (Kd.R_lt (Ru HO_7.out))) (Kd.R_lt (Ru HO_8.out))) (Kd.R_lt (Ru HO_10.out))) (Kd.R_lt (Ru HO624.out))) (Kd.R_lt (Ru HO627.out))) (below_size (bL HB.out)));replace HO_7:=Aside0.mk (Kd.R_elder' (Ru HO_7.out) (Kd.R_base ho0) hb);replace HO_8:=Aside0.mk (Kd.R_elder' (Ru HO_8.out) (Kd.R_base ho0) hb);replace HO_10:=Aside0.mk (Kd.R_elder' (Ru HO_10.out) (Kd.R_base ho0) hb);replace HO624:=Aside0.mk (Kd.R_elder' (Ru HO624.out) (Kd.R_base ho0) hb);replace HO627:=Aside0.mk (Kd.R_elder' (Ru HO627.out) (Kd.R_base ho0) hb);replace HB:=Aside0.mk (below_step (bL HB.out) hb);obtain ⟨Ao53,co53,eo53⟩:=Kd.R_slice HO630.out;subst eo53)|(go_at_call 55;(with_reducible refine (penumbraref01_Sub.calls kj41 _ _ x8_2 _ _ t628 t631 t632 _ ?side1 ?side2 ?side3 ?side4 A47.out).mono ?_);(case side1=>exact Cu (Kd.R_reads' HO_8.out).2.2);(case side2=>exact (Kd.R_reads' HO_8.out).2.1);(case side3=>exact Cu (Kd.R_reads' HO630.out).2.2);(case side4=>exact (Kd.R_reads' HO630.out).2.1);rintro e w54 ⟨v633,rfl,ho0,hb⟩;have HO634:=Aside0.mk (Kd.R_lower (Kd.R_new' (Kd.R_new' (Kd.R_new' (Kd.R_new' (Kd.R_new' (Kd.R_new' ho0 (Kd.R_lt (Ru HO_7.out))) (Kd.R_lt (Ru HO_8.out))) (Kd.R_lt (Ru HO_10.out))) (Kd.R_lt (Ru HO624.out))) (Kd.R_lt (Ru HO627.out))) (Kd.R_lt (Ru HO630.out))) (below_size (bL HB.out)));replace HO_7:=Aside0.mk (Kd.R_elder' (Ru HO_7.out) (Kd.R_base ho0) hb);replace HO_8:=Aside0.mk (Kd.R_elder' (Ru HO_8.out) (Kd.R_base ho0) hb);replace HO_10:=Aside0.mk (Kd.R_elder' (Ru HO_10.out) (Kd.R_base ho0) hb);replace HO624:=Aside0.mk (Kd.R_elder' (Ru HO624.out) (Kd.R_base ho0) hb);replace HO627:=Aside0.mk (Kd.R_elder' (Ru HO627.out) (Kd.R_base ho0) hb);replace HO630:=Aside0.mk (Kd.R_elder' (Ru HO630.out) (Kd.R_base ho0) hb);replace HB:=Aside0.mk (below_step (bL HB.out) hb)))
              go_roundg kj41
              case measure=>have:=HK1.out;have:=HK2.out;have:=HJ29.out;have:=HJ33.out;have:=HJ41.out;omega
              case rel=>exact ⟨(t631),(t625),H',⟨by have:=HK1.out;have:=HK2.out;have:=HJ29.out;have:=HJ33.out;have:=HJ41.out;omega⟩,⟨Kd.R_mono (Ru HO_7.out) (fun _ hk=>⟨hk.2,hk.1.1.2⟩)⟩,⟨Kd.R_mono (Ru HO634.out) (fun _ hk=>⟨hk.1.1.1.1.1.2,hk.1.2⟩)⟩,⟨Kd.R_mono (Ru HO627.out) (fun _ hk=>⟨hk.1.1.1.1.1.2,hk.2⟩)⟩,⟨bL HB.out⟩⟩
       ·rw [if_neg c25] at H
        have c25b0 : decide (0≤t618)=false:=decide_eq_false c25
        clear c25
        have H':=Aside0.mk H
        clear H
        obtain ⟨Ao55,co55,eo55⟩:=Kd.R_slice HO_8.out
        subst eo55
        go_wp2_with (first|(go_at_call 54;(with_reducible refine (penumbraref01_Cmp.calls k2 _ _ x8_2 _ _ x7_1 t618 _ ?side1 ?side2 ?side3 ?side4 A24.out).mono ?_);(case side1=>exact Cu (Kd.R_reads' HO_8.out).2.2);(case side2=>exact (Kd.R_reads' HO_8.out).2.1);(case side3=>exact Cu (Kd.R_reads' HO_7.out).2.2);(case side4=>exact (Kd.R_reads' HO_7.out).2.1);rintro e w56 ⟨rfl,hb⟩;replace HO_7:=Aside0.mk (Kd.R_below (Ru HO_7.out) hb);replace HO_8:=Aside0.mk (Kd.R_below (Ru HO_8.out) hb);replace HO_10:=Aside0.mk (Kd.R_below (Ru HO_10.out) hb);replace HB:=Aside0.mk (below_step (bL HB.out) hb)))
        go_loopg [8,17] k2 (fun kq v8 v17 w'=>∃ (x8_3 : List Int) (x17_3 : Int),v17=.int .i64 x17_3∧Aside0 (penumbraref01_DivMod.l2 kq x8_3 x9_1 x10_2 x17_3=some (r1,r2,r3))∧Aside0 (kq≤k2)∧Aside0 (Kd.R (Kd.int .u32) 82 w' w.heap.size (fun k_=>some k_≠(u10 : Value).ownBlock) v8 x8_3)∧Aside0 (Kd.R (Kd.int .u32) 82 w' w.heap.size (fun k_=>some k_≠(v8 : Value).ownBlock) u10 x10_2)∧Aside0 (Below w.heap.size w w'))
        case atStart=>exact ⟨(x8_2),(0),sD,H',⟨Nat.le_refl _⟩,⟨Kd.R_mono (Ru HO_8.out) (fun _ hk=>hk.2)⟩,⟨Kd.R_mono (Ru HO_10.out) (fun _ hk=>hk.2)⟩,⟨bL HB.out⟩⟩
        case round =>
         clear H'
         obtain ⟨x8_3,x17_3,rfl,HA,HK3,HO_8,HO_10,HB⟩:=hrel
         cases gk with
         | zero=>exact absurd HA.out (by simp [penumbraref01_DivMod.l2])
         | succ k3 =>
          have H:=HA.out
          clear HA
          simp only [penumbraref01_DivMod.l2] at H
          by_cases c57 : x17_3 < x9_1
          ·rw [if_pos c57] at H
           have c57b0 : decide (x17_3 < x9_1)=true:=decide_eq_true c57
           clear c57
           refine biT H ?_;clear H;intro t635 A58 H
           try dsimp only at H
           replace A58:=Aside0.mk A58
           have H':=Aside0.mk H
           clear H
           obtain ⟨Ao59,co59,eo59⟩:=Kd.R_slice HO_8.out
           subst eo59
           go_wp2_with (first|(go_at_call 79;(with_reducible refine (penumbraref01_Half.calls k3 _ _ x8_3 t635 _ ?side1 ?side2 A58.out).mono ?_);(case side1=>exact Cu (Kd.R_reads' HO_8.out).2.2);(case side2=>exact (Kd.R_reads' HO_8.out).2.1);rintro e w60 ⟨v636,rfl,ho0,hb⟩;have HO637:=Aside0.mk (Kd.R_lower (Kd.R_new' (Kd.R_new' ho0 (Kd.R_lt (Ru HO_8.out))) (Kd.R_lt (Ru HO_10.out))) (below_size (bL HB.out)));replace HO_8:=Aside0.mk (Kd.R_elder' (Ru HO_8.out) (Kd.R_base ho0) hb);replace HO_10:=Aside0.mk (Kd.R_elder' (Ru HO_10.out) (Kd.R_base ho0) hb);replace HB:=Aside0.mk (below_step (bL HB.out) hb)))
           go_roundg k3
           case measure=>have:=HK1.out;have:=HK2.out;have:=HK3.out;omega
           case rel=>exact ⟨(t635),(wrap64 (x17_3+1)),sD,H',⟨by have:=HK1.out;have:=HK2.out;have:=HK3.out;omega⟩,⟨Kd.R_mono (Ru HO637.out) (fun _ hk=>hk.2)⟩,⟨Kd.R_mono (Ru HO_10.out) (fun _ hk=>hk.2)⟩,⟨bL HB.out⟩⟩
          ·rw [if_neg c57] at H
           have c57b0 : decide (x17_3 < x9_1)=false:=decide_eq_false c57
           clear c57
           simp only [Option.some.injEq,Prod.mk.injEq] at H
           obtain ⟨rfl,rfl,rfl⟩:=H
           go_wp2
           go_ret3
           exact ⟨_,_,by first|rfl|(simp [errW_none,errW_some] <;> rfl)|(simp only [← hji11];first|rfl|(simp [errW_none,errW_some] <;> rfl))|(simp [*,errW_none,errW_some] <;> rfl),by (with_reducible repeat (first|apply Ra|apply Rn|apply Rd));exact HO_10.out,by (with_reducible repeat (first|apply Ra|apply Rn|apply Rd));exact HO_8.out,bL HB.out⟩
theorem penumbraref02_Gcd.calls (k : Nat) (P0_ : Nat→Prop) (A0 : Option Addr) (c0 : Nat) (l0 : List Int) (P1_ : Nat→Prop) (A1 : Option Addr) (c1 : Nat) (l1 : List Int) (r : List Int) (w : World) (hs0 : Kd.V (Kd.int .u32) 82 w w.heap.size (fun k_=>P0_ k_) (.slice A0 l0.length c0) l0) (hs1 : Kd.V (Kd.int .u32) 82 w w.heap.size (fun k_=>P1_ k_) (.slice A1 l1.length c1) l1) (h : penumbraref02_Gcd.f k l0 l1=some r) :
  Calls Try.prog 65 #[.slice A0 l0.length c0,.slice A1 l1.length c1] w fun e w'=>∃ v0_ : Value,e=.returned (v0_)∧Kd.R (Kd.int .u32) 82 w' w.heap.size (fun k_=>(w.heap.size≤k_)) v0_ r∧Below w.heap.size w w':=by
 have HO0:=Aside0.mk (show Kd.V (Kd.int .u32) 82 w w.heap.size (fun k_=>((P0_ k_∨P1_ k_)∨w.heap.size≤k_)) (.slice A0 l0.length c0) l0 from Kd.V_mono hs0 (fun k_ hk=>.inl (.inl hk)))
 have HO1:=Aside0.mk (show Kd.V (Kd.int .u32) 82 w w.heap.size (fun k_=>((P0_ k_∨P1_ k_)∨w.heap.size≤k_)) (.slice A1 l1.length c1) l1 from Kd.V_mono hs1 (fun k_ hk=>.inl (.inr hk)))
 have HB:=Aside0.mk (Below.refl w.heap.size w)
 have H : (penumbraref02_Gcd.l0 k l0 l1)=some r:=h
 clear h
 have H':=Aside0.mk H
 clear H
 go_enter Try.func65,Try.ntmps65
 go_wp2
 go_loopg [0,1] k (fun kq v0 v1 w'=>∃ (x0_1 : List Int) (x1_1 : List Int),Aside0 (penumbraref02_Gcd.l0 kq x0_1 x1_1=some r)∧Aside0 (kq≤k)∧Aside0 (Kd.V (Kd.int .u32) 82 w' w.heap.size (fun k_=>((P0_ k_∨P1_ k_)∨w.heap.size≤k_)) v0 x0_1)∧Aside0 (Kd.V (Kd.int .u32) 82 w' w.heap.size (fun k_=>((P0_ k_∨P1_ k_)∨w.heap.size≤k_)) v1 x1_1)∧Aside0 (Below w.heap.size w w'))
 case atStart=>exact ⟨(l0),(l1),H',⟨Nat.le_refl _⟩,⟨by (with_reducible repeat (first|apply Kd.V_alloc|apply Kd.V_drewN|apply Kd.V_drew));exact HO0.out⟩,⟨by (with_reducible repeat (first|apply Kd.V_alloc|apply Kd.V_drewN|apply Kd.V_drew));exact HO1.out⟩,⟨bL HB.out⟩⟩
 case round =>
  clear H'
  obtain ⟨x0_1,x1_1,HA,HK1,HO_0,HO_1,HB⟩:=hrel
  cases gk with
  | zero=>exact absurd HA.out (by simp [penumbraref02_Gcd.l0])
  | succ k1 =>
   have H:=HA.out
   clear HA
   simp only [penumbraref02_Gcd.l0] at H
   refine biT H ?_;clear H;intro t638 A3 H
   try dsimp only at H
   replace A3:=Aside0.mk A3
   by_cases c4 : t638=true
   ·subst c4
    rw [if_pos rfl] at H
    refine biT H ?_;clear H;intro t639 A5 H
    try dsimp only at H
    replace A5:=Aside0.mk A5
    obtain rfl:=Option.some.inj H
    obtain ⟨Ao6,co6,eo6⟩:=Kd.V_slice HO_1.out
    subst eo6
    go_wp2_with (first|((with_reducible refine gate_callee (f:=64) rfl ?_);refine gL (some 9) Try.func64 #[.slice Ao6 x1_1.length co6] ?_;(with_reducible refine (penumbraref01_Zero.calls k1 _ _ x1_1 true _ ?side1 ?side2 A3.out).mono ?_);(case side1=>exact Cu (Kd.V_reads' HO_1.out).2.2);(case side2=>exact (Kd.V_reads' HO_1.out).2.1);rintro e w7 ⟨rfl,hb⟩;refine ⟨_,rfl,?_⟩;replace HO_0:=Aside0.mk (Kd.V_below (by (with_reducible repeat (first|apply Kd.V_alloc|apply Kd.V_drewN|apply Kd.V_drew));exact HO_0.out) hb);replace HO_1:=Aside0.mk (Kd.V_below (by (with_reducible repeat (first|apply Kd.V_alloc|apply Kd.V_drewN|apply Kd.V_drew));exact HO_1.out) hb);replace HB:=Aside0.mk (below_step (bL HB.out) hb);obtain ⟨Ao8,co8,eo8⟩:=Kd.V_slice HO_0.out;subst eo8)|((with_reducible refine gate_callee (f:=67) rfl ?_);refine gL (some 21) Try.func67 #[.slice Ao8 x0_1.length co8] ?_;(with_reducible refine (penumbraref01_Norm.calls k1 _ _ x0_1 t639 _ ?side1 ?side2 A5.out).mono ?_);(case side1=>exact Cu (Kd.V_reads' HO_0.out).2.2);(case side2=>exact (Kd.V_reads' HO_0.out).2.1);rintro e w9 ⟨v640,rfl,ho0,hb⟩;refine ⟨_,rfl,?_⟩;replace HO_0:=Aside0.mk (Kd.V_elder' (by (with_reducible repeat (first|apply Kd.V_alloc|apply Kd.V_drewN|apply Kd.V_drew));exact HO_0.out) (Kd.R_base ho0) hb);replace HO_1:=Aside0.mk (Kd.V_elder' (by (with_reducible repeat (first|apply Kd.V_alloc|apply Kd.V_drewN|apply Kd.V_drew));exact HO_1.out) (Kd.R_base ho0) hb);have HO641:=Aside0.mk (Kd.R_lower (Kd.R_newM (M:=fun k_=>(w.heap.size≤k_)) ho0 (below_size (bL HB.out)) (fun k_ h_=>h_)) (below_size (bL HB.out)));replace HB:=Aside0.mk (below_step (bL HB.out) hb)))
    go_ret
    exact ⟨_,eW,Kd.R_mono (Ru HO641.out) (fun _ hk=>hk.1),bL HB.out⟩
   ·replace c4:=Bool.eq_false_iff.mpr c4
    subst c4
    rw [if_neg (show ¬ (false=true) by decide)] at H
    refine biT H ?_;clear H;rintro ⟨t642,t643,t644⟩ A10 H
    try dsimp only at H
    replace A10:=Aside0.mk A10
    have H':=Aside0.mk H
    clear H
    obtain ⟨Ao11,co11,eo11⟩:=Kd.V_slice HO_1.out
    subst eo11
    go_wp2_with (first|((with_reducible refine gate_callee (f:=64) rfl ?_);refine gL (some 9) Try.func64 #[.slice Ao11 x1_1.length co11] ?_;(with_reducible refine (penumbraref01_Zero.calls k1 _ _ x1_1 false _ ?side1 ?side2 A3.out).mono ?_);(case side1=>exact Cu (Kd.V_reads' HO_1.out).2.2);(case side2=>exact (Kd.V_reads' HO_1.out).2.1);rintro e w12 ⟨rfl,hb⟩;refine ⟨_,rfl,?_⟩;replace HO_0:=Aside0.mk (Kd.V_below (by (with_reducible repeat (first|apply Kd.V_alloc|apply Kd.V_drewN|apply Kd.V_drew));exact HO_0.out) hb);replace HO_1:=Aside0.mk (Kd.V_below (by (with_reducible repeat (first|apply Kd.V_alloc|apply Kd.V_drewN|apply Kd.V_drew));exact HO_1.out) hb);replace HB:=Aside0.mk (below_step (bL HB.out) hb);obtain ⟨Ao13,co13,eo13⟩:=Kd.V_slice HO_0.out;subst eo13)|((with_reducible refine gate_callee (f:=66) rfl ?_);refine gL (some 14) Try.func66 #[.slice Ao13 x0_1.length co13,.slice Ao11 x1_1.length co11] ?_;(with_reducible refine (penumbraref01_DivMod.calls k1 _ _ x0_1 _ _ x1_1 t642 t643 t644 _ ?side1 ?side2 ?side3 ?side4 A10.out).mono ?_);(case side1=>exact Cu (Kd.V_reads' HO_0.out).2.2);(case side2=>exact (Kd.V_reads' HO_0.out).2.1);(case side3=>exact Cu (Kd.V_reads' HO_1.out).2.2);(case side4=>exact (Kd.V_reads' HO_1.out).2.1);rintro e w14 ⟨v645,v647,rfl,ho0,ho1,hb⟩;refine ⟨_,rfl,?_⟩;replace HO_0:=Aside0.mk (Kd.V_mono (Kd.V_told (Kd.V_told (Kd.V_old (by (with_reducible repeat (first|apply Kd.V_alloc|apply Kd.V_drewN|apply Kd.V_drew));exact HO_0.out) hb) (Kd.R_base ho0)) (Kd.R_base ho1)) (fun _ h_=>h_.1));replace HO_1:=Aside0.mk (Kd.V_mono (Kd.V_told (Kd.V_told (Kd.V_old (by (with_reducible repeat (first|apply Kd.V_alloc|apply Kd.V_drewN|apply Kd.V_drew));exact HO_1.out) hb) (Kd.R_base ho0)) (Kd.R_base ho1)) (fun _ h_=>h_.1));have HO646:=Aside0.mk (Kd.R_lower (Kd.R_newM (M:=fun k_=>(w.heap.size≤k_)) ho0 (below_size (bL HB.out)) (fun k_ h_=>h_)) (below_size (bL HB.out)));have HO648:=Aside0.mk (Kd.R_lower (Kd.R_newM (M:=fun k_=>(w.heap.size≤k_)) ho1 (below_size (bL HB.out)) (fun k_ h_=>h_)) (below_size (bL HB.out)));replace HB:=Aside0.mk (below_step (bL HB.out) hb)))
    go_roundg k1
    case measure=>have:=HK1.out;omega
    case rel=>exact ⟨(x1_1),(t643),H',⟨by have:=HK1.out;omega⟩,⟨by (with_reducible repeat (first|apply Kd.V_alloc|apply Kd.V_drewN|apply Kd.V_drew));exact Kd.V_mono HO_1.out (fun _ hk=>hk.1.1)⟩,⟨Kd.V_mono (Kd.R_V (Kd.R_mono (Ru HO648.out) (fun _ hk=>hk.1))) (fun k_ hk=>by first|exact ⟨(.inr (hk.1)),hk.2⟩|exact (.inr (hk)))⟩,⟨bL HB.out⟩⟩
theorem penumbraref03_Zero.calls  (r1 : Bool) (r2 : List Int) (r3 : List Int) (w : World) (h : penumbraref03_Zero.f  = some (r1,r2,r3)) :
  Calls Try.prog 36 #[] w fun e w'=>∃ v1_ v2_ : Value,e=.returned (.agg #[.bool r1,v1_,v2_])∧Kd.R (Kd.int .u32) 82 w' w.heap.size (fun k_=>some k_≠(v2_ : Value).ownBlock) v1_ r2∧Kd.R (Kd.int .u32) 82 w' w.heap.size (fun k_=>some k_≠(v1_ : Value).ownBlock) v2_ r3∧Below w.heap.size w w':=by
 have hu63:=Try.underlying63
 have HB:=Aside0.mk (Below.refl w.heap.size w)
 have H : (some (false,([] : List Int),(([1] : List Int))))=some (r1,r2,r3):=h
 clear h
 obtain ⟨y485,hy485⟩ : ∃ y_ : List Int,y_=(([1] : List Int)):=⟨_,rfl⟩
 replace H : (some (false,([] : List Int),y485))=some (r1,r2,r3):=by first|(rw [hy485];with_reducible exact H)|(have H2_:=(Option.bind_some _ _).symm.trans H;rw [hy485];with_reducible exact H2_)|(have H2_:=(Option.bind_some _ _).symm.trans H;with_reducible exact H2_)|with_reducible exact H|(rw [hy485];exact H)|exact H
 have Ny485:=Aside0.mk hy485
 clear hy485
 simp only [Option.some.injEq,Prod.mk.injEq] at H
 obtain ⟨rfl,rfl,rfl⟩:=H
 go_enter Try.func36,Try.ntmps36
 go_wp2_with (first|((with_reducible refine gate_dst (N:=0) rfl ?_);refine boxA #[.bool false,.slice none 0 0,.slice none 0 0] 63 ?_;intro gb484 hg w1 hbox hb;have BK484:=Aside0.mk hbox;have GW484:=Aside0.mk ((by rw [hg];exact (below_size (bL HB.out)) : w.heap.size≤gb484));have GE484:=Aside0.mk ((by rw [hg];exact (below_size (bL HB.out)) : w.heap.size≤gb484));replace HB:=Aside0.mk (below_step (bL HB.out) hb);clear hb hbox hg)|((with_reducible refine gate_dst (N:=1) rfl ?_);refine Kd.R_lit (Kd.int .u32) _ 82 ?hg (N:=1) ?hd (xs:=([1] : List Int)) (inner:=[.int .u32 1]) (ok:=fun _=>True) (okp:=fun _=>True) ?hr ?hp (fun _ hk=>hk) trivial (Below.refl _ _) (Nat.le_refl _) (by simp) ?_;(case hd=>rfl);(case hg=>rfl);(case hr=>first|(go_simp;done)|(go_simp;(with_reducible rfl))|(go_simp;rfl)|(go_simp;simp only [hu,Int.emod_sub_emod]));(case hp=>exact (Reps.one (show Kd.M (Kd.int .u32) _ _ _ 1 [.int .u32 1] from rfl) (Reps.none _ _)));intro v486 w2 ho3 hb hg_ hnew_;clear hg_ hnew_;(first|rw [← Ny485.out] at ho3|(simp only [Int.reduceToNat] at ho3;rw [← Ny485.out] at ho3));have HO487:=Aside0.mk (Kd.R_lower ho3 (below_size (bL HB.out)));replace BK484:=Aside0.mk (blk_below (Bu BK484.out) hb);replace HB:=Aside0.mk (below_step (bL HB.out) hb);clear hb ho3;obtain ⟨Ao4,co4,eo4⟩:=Kd.R_slice HO487.out;subst eo4;obtain ⟨hcz5_0,hcz5_1,hcz5_2⟩:=cl3 BK484.out;obtain ⟨hfz5_0,hfz5_1,hfz5_2⟩:=fr3 BK484.out))
 refine bodyPost_ret (results_cell_row rfl _ _ gb484 63 #[.bool false,.slice none 0 0,.slice Ao4 y485.length co4] (0,0) _ rfl (by (with_reducible repeat (first|refine blk_drewN ?_ _|refine blk_drew ?_|refine blk_alloc ?_ _));refine blk_put (cs:=#[.bool false,.slice none 0 0,.slice none 0 0]) ?_ 2 _ rfl;(with_reducible repeat (first|refine blk_drewN ?_ _|refine blk_drew ?_|refine blk_alloc ?_ _));refine blk_put (cs:=#[.bool false,.slice none 0 0,.slice none 0 0]) ?_ 1 _ rfl;(with_reducible repeat (first|refine blk_drewN ?_ _|refine blk_drew ?_|refine blk_alloc ?_ _));refine blk_put (cs:=#[.bool false,.slice none 0 0,.slice none 0 0]) ?_ 0 _ rfl;(with_reducible repeat (first|refine blk_drewN ?_ _|refine blk_drew ?_|refine blk_alloc ?_ _));exact BK484.out) Try.underlying63 rfl (by kernel_rfl)) rfl ?_
 exact ⟨_,_,eW,by first|exact Kd.R_nil _ _ _ _ _|exact Kd.N_nil _ _ _ _ _|exact Kd.V_nil _ _ _ _ _|exact Kd.Q_nil _ _ _ _ _|exact Kd.S_nil _ _ _ _ _,by (with_reducible repeat (first|apply Ra|apply Rn|apply Rd));exact Kd.R_mono (Kd.R_far (p:=⟨gb484,2,none⟩) (Kd.R_far (p:=⟨gb484,1,none⟩) (Kd.R_far (p:=⟨gb484,0,none⟩) (Kd.R_types HO487.out BK484.out (by decide)) (fun _ hk=>hk.2) (.bool false)) (fun _ hk=>hk.2) (.slice none 0 0)) (fun _ hk=>hk.2) (.slice Ao4 y485.length co4)) (fun _ hk=>(by simp [Value.ownBlock])),bL HB.out⟩
theorem penumbraref03_Read.calls (k : Nat) (a0_0 : Bool) (A0_1 : Option Addr) (c0_1 : Nat) (l0_1 : List Int) (A0_2 : Option Addr) (c0_2 : Nat) (l0_2 : List Int) (r1 : Bool) (r2 : List Int) (r3 : List Int) (w : World) (hr0_1 : Kd.C (Kd.int .u32) w A0_1 l0_1.length l0_1) (hc0_1 : l0_1.length≤c0_1) (hr0_2 : Kd.C (Kd.int .u32) w A0_2 l0_2.length l0_2) (hc0_2 : l0_2.length≤c0_2) (h : penumbraref03_Read.f k a0_0 l0_1 l0_2=some (r1,r2,r3)) :
  Calls Try.prog 51 #[.agg #[.bool a0_0,.slice A0_1 l0_1.length c0_1,.slice A0_2 l0_2.length c0_2]] w fun e w'=>∃ v1_ v2_ : Value,e=.returned (.agg #[.bool r1,v1_,v2_])∧Kd.R (Kd.int .u32) 82 w' w.heap.size (fun k_=>some k_≠(v2_ : Value).ownBlock) v1_ r2∧Kd.R (Kd.int .u32) 82 w' w.heap.size (fun k_=>some k_≠(v1_ : Value).ownBlock) v2_ r3∧Below w.heap.size w w':=by
 have hu63:=Try.underlying63
 have HR0_1:=Aside0.mk hr0_1
 have HC0_1:=Aside0.mk hc0_1
 clear hr0_1 hc0_1
 have HR0_2:=Aside0.mk hr0_2
 have HC0_2:=Aside0.mk hc0_2
 clear hr0_2 hc0_2
 have HB:=Aside0.mk (Below.refl w.heap.size w)
 have H : ((penumbraref01_Zero.f k l0_2).bind fun t651=>(if t651=true then (penumbraref03_Read.j0 k true a0_0 l0_1 l0_2) else ((penumbraref01_Zero.f k l0_1).bind fun t652=>(penumbraref03_Read.j0 k t652 a0_0 l0_1 l0_2))))=some (r1,r2,r3):=h
 clear h
 have HC2:=Aside0.mk H
 clear H
 go_enter Try.func51,Try.ntmps51
 go_upto_region 1 with (first|((with_reducible refine gate_dst (N:=1) rfl ?_);refine boxA #[.bool a0_0,.slice A0_1 l0_1.length c0_1,.slice A0_2 l0_2.length c0_2] 63 ?_;intro gb649 hg w3 hbox hb;have BK649:=Aside0.mk hbox;have GW649:=Aside0.mk ((by rw [hg];exact (below_size (bL HB.out)) : w.heap.size≤gb649));have GE649:=Aside0.mk ((by rw [hg];exact (below_size (bL HB.out)) : w.heap.size≤gb649));replace HB:=Aside0.mk (below_step (bL HB.out) hb);clear hb hbox hg)|((with_reducible refine gate_dst (N:=2) rfl ?_);refine boxA #[.bool false,.slice none 0 0,.slice none 0 0] 63 ?_;intro gb650 hg w4 hbox hb;have BK650:=Aside0.mk hbox;have GW650:=Aside0.mk ((by rw [hg];exact (below_size (bL HB.out)) : w.heap.size≤gb650));have GE650:=Aside0.mk ((by rw [hg];exact (below_size (bL HB.out)) : w.heap.size≤gb650));replace HB:=Aside0.mk (below_step (bL HB.out) hb);have NB649_650:=Aside0.mk ((by rw [hg];exact Nat.ne_of_lt (blk_lt (Bu BK649.out)) : gb649≠gb650));have NB650_649:=Aside0.mk ((by rw [hg];exact Nat.ne_of_gt (blk_lt (Bu BK649.out)) : gb650≠gb649));replace BK649:=Aside0.mk (blk_below (Bu BK649.out) hb);clear hb hbox hg))
 (try simp only [Act.put,s0,s1,s2])
 go_cut [17] (fun v17 wc=>∃ (kq : Nat) (x17_1 : Bool),v17=.bool x17_1∧Aside0 (penumbraref03_Read.j0 kq x17_1 a0_0 l0_1 l0_2=some (r1,r2,r3))∧Aside0 (kq≤k)∧Aside0 (wc.heap[gb649]? = some (.cells #[.bool a0_0,(.slice A0_1 l0_1.length c0_1),(.slice A0_2 l0_2.length c0_2)] 63 (0,0)))∧Aside0 (wc.heap[gb650]? = some (.cells #[.bool false,(.slice none 0 0),(.slice none 0 0)] 63 (0,0)))∧Aside0 (Below w.heap.size w wc))
 case first =>
  have H:=HC2.out
  clear HC2
  refine biT H ?_;clear H;intro t651 A5 H
  try dsimp only at H
  replace A5:=Aside0.mk A5
  by_cases c6 : t651=true
  ·subst c6
   rw [if_pos rfl] at H
   have H':=Aside0.mk H
   clear H
   have hnb7:=NB649_650.out
   have hnc7:=NB650_649.out
   obtain ⟨hcz8_0,hcz8_1,hcz8_2⟩:=cl3 BK649.out
   obtain ⟨hfz8_0,hfz8_1,hfz8_2⟩:=fr3 BK649.out
   go_wp2_with (first|((with_reducible refine gate_callee (f:=64) rfl ?_);refine gL (some 12) Try.func64 #[.slice A0_2 l0_2.length c0_2] ?_;(with_reducible refine (penumbraref01_Zero.calls k _ _ l0_2 true _ ?side1 ?side2 A5.out).mono ?_);(case side1=>exact Cu (Kd.C_below HR0_2.out HB.out));(case side2=>exact HC0_2.out);rintro e w9 ⟨rfl,hb⟩;refine ⟨_,rfl,?_⟩;replace BK649:=Aside0.mk (blk_below (Bu BK649.out) hb);replace BK650:=Aside0.mk (blk_below (Bu BK650.out) hb);replace HB:=Aside0.mk (below_step (bL HB.out) hb)))
   go_meet
   case rel=>exact ⟨_,(true),sD,H',⟨by first|omega|exact Nat.le_refl _⟩,⟨Bu BK649.out⟩,⟨Bu BK650.out⟩,⟨bL HB.out⟩⟩
  ·replace c6:=Bool.eq_false_iff.mpr c6
   subst c6
   rw [if_neg (show ¬ (false=true) by decide)] at H
   refine biT H ?_;clear H;intro t652 A10 H
   try dsimp only at H
   replace A10:=Aside0.mk A10
   have H':=Aside0.mk H
   clear H
   have hnb11:=NB649_650.out
   have hnc11:=NB650_649.out
   obtain ⟨hcz12_0,hcz12_1,hcz12_2⟩:=cl3 BK649.out
   obtain ⟨hfz12_0,hfz12_1,hfz12_2⟩:=fr3 BK649.out
   go_wp2_with (first|((with_reducible refine gate_callee (f:=64) rfl ?_);refine gL (some 12) Try.func64 #[.slice A0_2 l0_2.length c0_2] ?_;(with_reducible refine (penumbraref01_Zero.calls k _ _ l0_2 false _ ?side1 ?side2 A5.out).mono ?_);(case side1=>exact Cu (Kd.C_below HR0_2.out HB.out));(case side2=>exact HC0_2.out);rintro e w13 ⟨rfl,hb⟩;refine ⟨_,rfl,?_⟩;replace BK649:=Aside0.mk (blk_below (Bu BK649.out) hb);replace BK650:=Aside0.mk (blk_below (Bu BK650.out) hb);replace HB:=Aside0.mk (below_step (bL HB.out) hb);obtain ⟨hcz14_0,hcz14_1,hcz14_2⟩:=cl3 BK649.out;obtain ⟨hfz14_0,hfz14_1,hfz14_2⟩:=fr3 BK649.out)|(go_at_call 64;(with_reducible refine (penumbraref01_Zero.calls k _ _ l0_1 t652 _ ?side1 ?side2 A10.out).mono ?_);(case side1=>exact Cu (Kd.C_below HR0_1.out HB.out));(case side2=>exact HC0_1.out);rintro e w15 ⟨rfl,hb⟩;replace BK649:=Aside0.mk (blk_below (Bu BK649.out) hb);replace BK650:=Aside0.mk (blk_below (Bu BK650.out) hb);replace HB:=Aside0.mk (below_step (bL HB.out) hb)))
   go_meet
   case rel=>exact ⟨_,(t652),sD,H',⟨by first|omega|exact Nat.le_refl _⟩,⟨Bu BK649.out⟩,⟨Bu BK650.out⟩,⟨bL HB.out⟩⟩
 case rest =>
  clear HC2
  obtain ⟨kq,x17_1,rfl,HA,HJ1,BK649,BK650,HB⟩:=hcut
  cases kq with
  | zero=>exact absurd HA.out (by simp [penumbraref03_Read.j0])
  | succ kj1 =>
   have H:=HA.out
   clear HA
   simp only [penumbraref03_Read.j0] at H
   by_cases c16 : x17_1=true
   ·subst c16
    rw [if_pos rfl] at H
    refine biT H ?_;clear H;rintro ⟨t653,t654,t657⟩ A17 H
    try dsimp only at H
    replace A17:=Aside0.mk A17
    simp only [Option.some.injEq,Prod.mk.injEq] at H
    obtain ⟨rfl,rfl,rfl⟩:=H
    go_wp2_with (first|((with_reducible refine gate_callee (f:=36) rfl ?_);refine gL (some 18) Try.func36 #[] ?_;(with_reducible refine (penumbraref03_Zero.calls  t653 t654 t657 _ A17.out).mono ?_);rintro e w18 ⟨v655,v658,rfl,ho0,ho1,hb⟩;refine ⟨_,rfl,?_⟩;have HO656:=Aside0.mk (Kd.R_lower ho0 (below_size (bL HB.out)));have HO659:=Aside0.mk (Kd.R_lower ho1 (below_size (bL HB.out)));replace BK649:=Aside0.mk (blk_below (Bu BK649.out) hb);replace BK650:=Aside0.mk (blk_below (Bu BK650.out) hb);replace HB:=Aside0.mk (below_step (bL HB.out) hb);have hnb19:=NB650_649.out;have hnc19:=NB649_650.out;obtain ⟨hcz20_0,hcz20_1,hcz20_2⟩:=cl3 BK650.out;obtain ⟨hfz20_0,hfz20_1,hfz20_2⟩:=fr3 BK650.out;obtain ⟨Ao21,co21,eo21⟩:=Kd.R_slice HO656.out;subst eo21;obtain ⟨Ao22,co22,eo22⟩:=Kd.R_slice HO659.out;subst eo22))
    refine bodyPost_ret (results_cell_row rfl _ _ gb650 63 #[.bool t653,.slice Ao21 t654.length co21,.slice Ao22 t657.length co22] (0,0) _ rfl (by (with_reducible repeat (first|refine blk_drewN ?_ _|refine blk_drew ?_|refine blk_alloc ?_ _));refine blk_put (cs:=#[.bool t653,.slice Ao21 t654.length co21,.slice none 0 0]) ?_ 2 _ rfl;(with_reducible repeat (first|refine blk_drewN ?_ _|refine blk_drew ?_|refine blk_alloc ?_ _));refine blk_put (cs:=#[.bool t653,.slice none 0 0,.slice none 0 0]) ?_ 1 _ rfl;(with_reducible repeat (first|refine blk_drewN ?_ _|refine blk_drew ?_|refine blk_alloc ?_ _));refine blk_put (cs:=#[.bool false,.slice none 0 0,.slice none 0 0]) ?_ 0 _ rfl;(with_reducible repeat (first|refine blk_drewN ?_ _|refine blk_drew ?_|refine blk_alloc ?_ _));exact BK650.out) Try.underlying63 rfl (by kernel_rfl)) rfl ?_
    exact ⟨_,_,eW,by (with_reducible repeat (first|apply Ra|apply Rn|apply Rd));exact Kd.R_mono (Kd.R_far (p:=⟨gb650,2,none⟩) (Kd.R_far (p:=⟨gb650,1,none⟩) (Kd.R_far (p:=⟨gb650,0,none⟩) (Kd.R_types HO656.out BK650.out (by decide)) (fun _ hk=>hk.2) (.bool t653)) (fun _ hk=>hk.2) (.slice Ao21 t654.length co21)) (fun _ hk=>hk.2) (.slice Ao22 t657.length co22)) (fun _ hk=>hk.1),by (with_reducible repeat (first|apply Ra|apply Rn|apply Rd));exact Kd.R_mono (Kd.R_far (p:=⟨gb650,2,none⟩) (Kd.R_far (p:=⟨gb650,1,none⟩) (Kd.R_far (p:=⟨gb650,0,none⟩) (Kd.R_types HO659.out BK650.out (by decide)) (fun _ hk=>hk.2) (.bool t653)) (fun _ hk=>hk.2) (.slice Ao21 t654.length co21)) (fun _ hk=>hk.2) (.slice Ao22 t657.length co22)) (fun _ hk=>hk.1),bL HB.out⟩
   ·replace c16:=Bool.eq_false_iff.mpr c16
    subst c16
    rw [if_neg (show ¬ (false=true) by decide)] at H
    refine biT H ?_;clear H;intro t660 A23 H
    try dsimp only at H
    replace A23:=Aside0.mk A23
    refine biT H ?_;clear H;rintro ⟨t663,t664,t665⟩ A24 H
    try dsimp only at H
    replace A24:=Aside0.mk A24
    refine biT H ?_;clear H;rintro ⟨t670,t671,t672⟩ A25 H
    try dsimp only at H
    replace A25:=Aside0.mk A25
    simp only [Option.some.injEq,Prod.mk.injEq] at H
    obtain ⟨rfl,rfl,rfl⟩:=H
    have hnb26:=NB649_650.out
    have hnc26:=NB650_649.out
    obtain ⟨hcz27_0,hcz27_1,hcz27_2⟩:=cl3 BK649.out
    obtain ⟨hfz27_0,hfz27_1,hfz27_2⟩:=fr3 BK649.out
    go_wp2_with (first|((with_reducible refine gate_callee (f:=65) rfl ?_);refine gL (some 23) Try.func65 #[.slice A0_1 l0_1.length c0_1,.slice A0_2 l0_2.length c0_2] ?_;(with_reducible refine (penumbraref02_Gcd.calls kj1 (fun k_=>k_ < w.heap.size) _ _ l0_1 (fun k_=>k_ < w.heap.size) _ _ l0_2 t660 _ ?side1 ?side2 A23.out).mono ?_);(case side1=>exact Kd.V_mk HC0_1.out (Kd.F_below (Kd.C_F (Kd.heap_int .u32) HR0_1.out) (bL HB.out)));(case side2=>exact Kd.V_mk HC0_2.out (Kd.F_below (Kd.C_F (Kd.heap_int .u32) HR0_2.out) (bL HB.out)));rintro e w28 ⟨v661,rfl,ho0,hb⟩;refine ⟨_,rfl,?_⟩;have HO662:=Aside0.mk (Kd.R_lower (Kd.R_mono (ok':=fun k_=>True) ho0 (fun _ hk_=>trivial)) (below_size (bL HB.out)));replace BK649:=Aside0.mk (blk_below (Bu BK649.out) hb);replace BK650:=Aside0.mk (blk_below (Bu BK650.out) hb);replace HB:=Aside0.mk (below_step (bL HB.out) hb);obtain ⟨hcz29_0,hcz29_1,hcz29_2⟩:=cl3 BK649.out;obtain ⟨hfz29_0,hfz29_1,hfz29_2⟩:=fr3 BK649.out;obtain ⟨Ao30,co30,eo30⟩:=Kd.R_slice HO662.out;subst eo30)|((with_reducible refine gate_callee (f:=66) rfl ?_);refine gL (some 28) Try.func66 #[.slice A0_1 l0_1.length c0_1,.slice Ao30 t660.length co30] ?_;(with_reducible refine (penumbraref01_DivMod.calls kj1 _ _ l0_1 _ _ t660 t663 t664 t665 _ ?side1 ?side2 ?side3 ?side4 A24.out).mono ?_);(case side1=>exact Cu (Kd.C_below HR0_1.out HB.out));(case side2=>exact HC0_1.out);(case side3=>exact Cu (Kd.R_reads' HO662.out).2.2);(case side4=>exact (Kd.R_reads' HO662.out).2.1);rintro e w31 ⟨v666,v668,rfl,ho0,ho1,hb⟩;refine ⟨_,rfl,?_⟩;have HO667:=Aside0.mk (Kd.R_lower (Kd.R_new' ho0 (Kd.R_lt (Ru HO662.out))) (below_size (bL HB.out)));have HO669:=Aside0.mk (Kd.R_lower (Kd.R_new' ho1 (Kd.R_lt (Ru HO662.out))) (below_size (bL HB.out)));replace HO662:=Aside0.mk (Kd.R_mono (Kd.R_told (Kd.R_told (Kd.R_old (Ru HO662.out) hb) (Kd.R_base ho0)) (Kd.R_base ho1)) (fun _ h_=>h_.1));replace BK649:=Aside0.mk (blk_below (Bu BK649.out) hb);replace BK650:=Aside0.mk (blk_below (Bu BK650.out) hb);replace HB:=Aside0.mk (below_step (bL HB.out) hb);obtain ⟨hcz32_0,hcz32_1,hcz32_2⟩:=cl3 BK649.out;obtain ⟨hfz32_0,hfz32_1,hfz32_2⟩:=fr3 BK649.out)|((with_reducible refine gate_callee (f:=66) rfl ?_);refine gL (some 36) Try.func66 #[.slice A0_2 l0_2.length c0_2,.slice Ao30 t660.length co30] ?_;(with_reducible refine (penumbraref01_DivMod.calls kj1 _ _ l0_2 _ _ t660 t670 t671 t672 _ ?side1 ?side2 ?side3 ?side4 A25.out).mono ?_);(case side1=>exact Cu (Kd.C_below HR0_2.out HB.out));(case side2=>exact HC0_2.out);(case side3=>exact Cu (Kd.R_reads' HO662.out).2.2);(case side4=>exact (Kd.R_reads' HO662.out).2.1);rintro e w33 ⟨v673,v675,rfl,ho0,ho1,hb⟩;refine ⟨_,rfl,?_⟩;have HO674:=Aside0.mk (Kd.R_lower (Kd.R_new' (Kd.R_new' (Kd.R_new' ho0 (Kd.R_lt (Ru HO662.out))) (Kd.R_lt (Ru HO667.out))) (Kd.R_lt (Ru HO669.out))) (below_size (bL HB.out)));have HO676:=Aside0.mk (Kd.R_lower (Kd.R_new' (Kd.R_new' (Kd.R_new' ho1 (Kd.R_lt (Ru HO662.out))) (Kd.R_lt (Ru HO667.out))) (Kd.R_lt (Ru HO669.out))) (below_size (bL HB.out)));replace HO662:=Aside0.mk (Kd.R_mono (Kd.R_told (Kd.R_told (Kd.R_old (Ru HO662.out) hb) (Kd.R_base ho0)) (Kd.R_base ho1)) (fun _ h_=>h_.1));replace HO667:=Aside0.mk (Kd.R_mono (Kd.R_told (Kd.R_told (Kd.R_old (Ru HO667.out) hb) (Kd.R_base ho0)) (Kd.R_base ho1)) (fun _ h_=>h_.1));replace HO669:=Aside0.mk (Kd.R_mono (Kd.R_told (Kd.R_told (Kd.R_old (Ru HO669.out) hb) (Kd.R_base ho0)) (Kd.R_base ho1)) (fun _ h_=>h_.1));replace BK649:=Aside0.mk (blk_below (Bu BK649.out) hb);replace BK650:=Aside0.mk (blk_below (Bu BK650.out) hb);replace HB:=Aside0.mk (below_step (bL HB.out) hb);obtain ⟨hcz34_0,hcz34_1,hcz34_2⟩:=cl3 BK649.out;obtain ⟨hfz34_0,hfz34_1,hfz34_2⟩:=fr3 BK649.out;obtain ⟨Ao35,co35,eo35⟩:=Kd.R_slice HO674.out;subst eo35;obtain ⟨Ao36,co36,eo36⟩:=Kd.R_slice HO667.out;subst eo36;obtain ⟨hcz37_0,hcz37_1,hcz37_2⟩:=cl3 BK650.out;obtain ⟨hfz37_0,hfz37_1,hfz37_2⟩:=fr3 BK650.out))
    refine bodyPost_ret (results_cell_row rfl _ _ gb650 63 #[.bool a0_0,.slice Ao36 t663.length co36,.slice Ao35 t670.length co35] (0,0) _ rfl (by (with_reducible repeat (first|refine blk_drewN ?_ _|refine blk_drew ?_|refine blk_alloc ?_ _));refine blk_put (cs:=#[.bool a0_0,.slice Ao36 t663.length co36,.slice none 0 0]) ?_ 2 _ rfl;(with_reducible repeat (first|refine blk_drewN ?_ _|refine blk_drew ?_|refine blk_alloc ?_ _));refine blk_put (cs:=#[.bool a0_0,.slice none 0 0,.slice none 0 0]) ?_ 1 _ rfl;(with_reducible repeat (first|refine blk_drewN ?_ _|refine blk_drew ?_|refine blk_alloc ?_ _));refine blk_put (cs:=#[.bool false,.slice none 0 0,.slice none 0 0]) ?_ 0 _ rfl;(with_reducible repeat (first|refine blk_drewN ?_ _|refine blk_drew ?_|refine blk_alloc ?_ _));exact BK650.out) Try.underlying63 rfl (by kernel_rfl)) rfl ?_
    exact ⟨_,_,eW,by (with_reducible repeat (first|apply Ra|apply Rn|apply Rd));exact Kd.R_mono (Kd.R_far (p:=⟨gb650,2,none⟩) (Kd.R_far (p:=⟨gb650,1,none⟩) (Kd.R_far (p:=⟨gb650,0,none⟩) (Kd.R_types HO667.out BK650.out (by decide)) (fun _ hk=>hk.2) (.bool a0_0)) (fun _ hk=>hk.2) (.slice Ao36 t663.length co36)) (fun _ hk=>hk.2) (.slice Ao35 t670.length co35)) (fun _ hk=>hk.1.1.2),by (with_reducible repeat (first|apply Ra|apply Rn|apply Rd));exact Kd.R_mono (Kd.R_far (p:=⟨gb650,2,none⟩) (Kd.R_far (p:=⟨gb650,1,none⟩) (Kd.R_far (p:=⟨gb650,0,none⟩) (Kd.R_types HO674.out BK650.out (by decide)) (fun _ hk=>hk.2) (.bool a0_0)) (fun _ hk=>hk.2) (.slice Ao36 t663.length co36)) (fun _ hk=>hk.2) (.slice Ao35 t670.length co35)) (fun _ hk=>hk.1.1.2),bL HB.out⟩
theorem penumbraref03_Sign.calls (k : Nat) (a0_0 : Bool) (A0_1 : Option Addr) (c0_1 : Nat) (l0_1 : List Int) (A0_2 : Option Addr) (c0_2 : Nat) (l0_2 : List Int) (r : Int) (w : World) (hr0_1 : Kd.C (Kd.int .u32) w A0_1 l0_1.length l0_1) (hc0_1 : l0_1.length≤c0_1) (hr0_2 : Kd.C (Kd.int .u32) w A0_2 l0_2.length l0_2) (hc0_2 : l0_2.length≤c0_2) (h : penumbraref03_Sign.f k a0_0 l0_1 l0_2=some r) :
  Calls Try.prog 50 #[.agg #[.bool a0_0,.slice A0_1 l0_1.length c0_1,.slice A0_2 l0_2.length c0_2]] w fun e w'=>e=.returned (.int .i64 r)∧Below w.heap.size w w':=by
 have hu63:=Try.underlying63
 have HR0_1:=Aside0.mk hr0_1
 have HC0_1:=Aside0.mk hc0_1
 clear hr0_1 hc0_1
 have HR0_2:=Aside0.mk hr0_2
 have HC0_2:=Aside0.mk hc0_2
 clear hr0_2 hc0_2
 have HB:=Aside0.mk (Below.refl w.heap.size w)
 have H : ((penumbraref01_Zero.f k l0_1).bind fun t693=>(if t693=true then (penumbraref03_Sign.j0 k true a0_0 l0_1 l0_2) else ((penumbraref01_Zero.f k l0_2).bind fun t694=>(penumbraref03_Sign.j0 k t694 a0_0 l0_1 l0_2))))=some r:=h
 clear h
 have HC2:=Aside0.mk H
 clear H
 go_enter Try.func50,Try.ntmps50
 go_upto_region 1 with (first|((with_reducible refine gate_dst (N:=1) rfl ?_);refine boxA #[.bool a0_0,.slice A0_1 l0_1.length c0_1,.slice A0_2 l0_2.length c0_2] 63 ?_;intro gb692 hg w3 hbox hb;have BK692:=Aside0.mk hbox;have GW692:=Aside0.mk ((by rw [hg];exact (below_size (bL HB.out)) : w.heap.size≤gb692));have GE692:=Aside0.mk ((by rw [hg];exact (below_size (bL HB.out)) : w.heap.size≤gb692));replace HB:=Aside0.mk (below_step (bL HB.out) hb);clear hb hbox hg))
 (try simp only [Act.put,s0,s1,s2])
 go_cut [10] (fun v10 wc=>∃ (kq : Nat) (x10_1 : Bool),v10=.bool x10_1∧Aside0 (penumbraref03_Sign.j0 kq x10_1 a0_0 l0_1 l0_2=some r)∧Aside0 (kq≤k)∧Aside0 (wc.heap[gb692]? = some (.cells #[.bool a0_0,(.slice A0_1 l0_1.length c0_1),(.slice A0_2 l0_2.length c0_2)] 63 (0,0)))∧Aside0 (Below w.heap.size w wc))
 case first =>
  have H:=HC2.out
  clear HC2
  refine biT H ?_;clear H;intro t693 A4 H
  try dsimp only at H
  replace A4:=Aside0.mk A4
  by_cases c5 : t693=true
  ·subst c5
   rw [if_pos rfl] at H
   have H':=Aside0.mk H
   clear H
   obtain ⟨hcz6_0,hcz6_1,hcz6_2⟩:=cl3 BK692.out
   obtain ⟨hfz6_0,hfz6_1,hfz6_2⟩:=fr3 BK692.out
   go_wp2_with (first|((with_reducible refine gate_callee (f:=64) rfl ?_);refine gL (some 5) Try.func64 #[.slice A0_1 l0_1.length c0_1] ?_;(with_reducible refine (penumbraref01_Zero.calls k _ _ l0_1 true _ ?side1 ?side2 A4.out).mono ?_);(case side1=>exact Cu (Kd.C_below HR0_1.out HB.out));(case side2=>exact HC0_1.out);rintro e w7 ⟨rfl,hb⟩;refine ⟨_,rfl,?_⟩;replace BK692:=Aside0.mk (blk_below (Bu BK692.out) hb);replace HB:=Aside0.mk (below_step (bL HB.out) hb)))
   go_meet
   case rel=>exact ⟨_,(true),sD,H',⟨by first|omega|exact Nat.le_refl _⟩,⟨Bu BK692.out⟩,⟨bL HB.out⟩⟩
  ·replace c5:=Bool.eq_false_iff.mpr c5
   subst c5
   rw [if_neg (show ¬ (false=true) by decide)] at H
   refine biT H ?_;clear H;intro t694 A8 H
   try dsimp only at H
   replace A8:=Aside0.mk A8
   have H':=Aside0.mk H
   clear H
   obtain ⟨hcz9_0,hcz9_1,hcz9_2⟩:=cl3 BK692.out
   obtain ⟨hfz9_0,hfz9_1,hfz9_2⟩:=fr3 BK692.out
   go_wp2_with (first|((with_reducible refine gate_callee (f:=64) rfl ?_);refine gL (some 5) Try.func64 #[.slice A0_1 l0_1.length c0_1] ?_;(with_reducible refine (penumbraref01_Zero.calls k _ _ l0_1 false _ ?side1 ?side2 A4.out).mono ?_);(case side1=>exact Cu (Kd.C_below HR0_1.out HB.out));(case side2=>exact HC0_1.out);rintro e w10 ⟨rfl,hb⟩;refine ⟨_,rfl,?_⟩;replace BK692:=Aside0.mk (blk_below (Bu BK692.out) hb);replace HB:=Aside0.mk (below_step (bL HB.out) hb);obtain ⟨hcz11_0,hcz11_1,hcz11_2⟩:=cl3 BK692.out;obtain ⟨hfz11_0,hfz11_1,hfz11_2⟩:=fr3 BK692.out)|(go_at_call 64;(with_reducible refine (penumbraref01_Zero.calls k _ _ l0_2 t694 _ ?side1 ?side2 A8.out).mono ?_);(case side1=>exact Cu (Kd.C_below HR0_2.out HB.out));(case side2=>exact HC0_2.out);rintro e w12 ⟨rfl,hb⟩;replace BK692:=Aside0.mk (blk_below (Bu BK692.out) hb);replace HB:=Aside0.mk (below_step (bL HB.out) hb)))
   go_meet
   case rel=>exact ⟨_,(t694),sD,H',⟨by first|omega|exact Nat.le_refl _⟩,⟨Bu BK692.out⟩,⟨bL HB.out⟩⟩
 case rest =>
  clear HC2
  obtain ⟨kq,x10_1,rfl,HA,HJ1,BK692,HB⟩:=hcut
  cases kq with
  | zero=>exact absurd HA.out (by simp [penumbraref03_Sign.j0])
  | succ kj1 =>
   have H:=HA.out
   clear HA
   simp only [penumbraref03_Sign.j0] at H
   by_cases c13 : x10_1=true
   ·subst c13
    rw [if_pos rfl] at H
    obtain rfl:=Option.some.inj H
    go_wp2
    go_ret
    exact ⟨eW,bL HB.out⟩
   ·replace c13:=Bool.eq_false_iff.mpr c13
    subst c13
    rw [if_neg (show ¬ (false=true) by decide)] at H
    by_cases c14 : a0_0=true
    ·subst c14
     rw [if_pos rfl] at H
     obtain rfl:=Option.some.inj H
     obtain ⟨hcz15_0,hcz15_1,hcz15_2⟩:=cl3 BK692.out
     obtain ⟨hfz15_0,hfz15_1,hfz15_2⟩:=fr3 BK692.out
     go_wp2
     go_ret
     exact ⟨eW,bL HB.out⟩
    ·replace c14:=Bool.eq_false_iff.mpr c14
     subst c14
     rw [if_neg (show ¬ (false=true) by decide)] at H
     obtain rfl:=Option.some.inj H
     obtain ⟨hcz16_0,hcz16_1,hcz16_2⟩:=cl3 BK692.out
     obtain ⟨hfz16_0,hfz16_1,hfz16_2⟩:=fr3 BK692.out
     go_wp2
     go_ret
     exact ⟨eW,bL HB.out⟩
def penumbraref03_Add.T9 : Bool × List (List Nat × List Nat):=(true,[([],[]),([0],[0]),([],[]),([],[]),([2,3],[2,3]),([],[]),([1,4,5],[1,4,5]),([6,4],[6]),([7,7,0,1,2,3,4,5,6,7],[7])])
def penumbraref03_Add.B9 : List Nat:=[0,1,0,0,12,0,63,127,255]
theorem penumbraref03_Add.tab9 : rtab .any (opsOf Try.f39 9)=penumbraref03_Add.T9:=by kernel_rfl
theorem penumbraref03_Add.bits9 : waitsOk penumbraref03_Add.T9.2 penumbraref03_Add.B9=true:=by kernel_rfl
theorem penumbraref03_Add.calls (k : Nat) (a0_0 : Bool) (A0_1 : Option Addr) (c0_1 : Nat) (l0_1 : List Int) (A0_2 : Option Addr) (c0_2 : Nat) (l0_2 : List Int) (a1_0 : Bool) (A1_1 : Option Addr) (c1_1 : Nat) (l1_1 : List Int) (A1_2 : Option Addr) (c1_2 : Nat) (l1_2 : List Int) (r1 : Bool) (r2 : List Int) (r3 : List Int) (w : World) (hr0_1 : Kd.C (Kd.int .u32) w A0_1 l0_1.length l0_1) (hc0_1 : l0_1.length≤c0_1) (hr0_2 : Kd.C (Kd.int .u32) w A0_2 l0_2.length l0_2) (hc0_2 : l0_2.length≤c0_2) (hr1_1 : Kd.C (Kd.int .u32) w A1_1 l1_1.length l1_1) (hc1_1 : l1_1.length≤c1_1) (hr1_2 : Kd.C (Kd.int .u32) w A1_2 l1_2.length l1_2) (hc1_2 : l1_2.length≤c1_2) (h : penumbraref03_Add.f k a0_0 l0_1 l0_2 a1_0 l1_1 l1_2=some (r1,r2,r3)) :
  Calls Try.prog 39 #[.agg #[.bool a0_0,.slice A0_1 l0_1.length c0_1,.slice A0_2 l0_2.length c0_2],.agg #[.bool a1_0,.slice A1_1 l1_1.length c1_1,.slice A1_2 l1_2.length c1_2]] w fun e w'=>∃ v1_ v2_ : Value,e=.returned (.agg #[.bool r1,v1_,v2_])∧Kd.R (Kd.int .u32) 82 w' w.heap.size (fun k_=>some k_≠(v2_ : Value).ownBlock) v1_ r2∧Kd.R (Kd.int .u32) 82 w' w.heap.size (fun k_=>some k_≠(v1_ : Value).ownBlock) v2_ r3∧Below w.heap.size w w':=by
 have hu63:=Try.underlying63
 have HR0_1:=Aside0.mk hr0_1
 have HC0_1:=Aside0.mk hc0_1
 clear hr0_1 hc0_1
 have HR0_2:=Aside0.mk hr0_2
 have HC0_2:=Aside0.mk hc0_2
 clear hr0_2 hc0_2
 have HR1_1:=Aside0.mk hr1_1
 have HC1_1:=Aside0.mk hc1_1
 clear hr1_1 hc1_1
 have HR1_2:=Aside0.mk hr1_2
 have HC1_2:=Aside0.mk hc1_2
 clear hr1_2 hc1_2
 have HB:=Aside0.mk (Below.refl w.heap.size w)
 have H : ((penumbraref03_Sign.f k a0_0 l0_1 l0_2).bind fun t698=>(if t698=0 then ((penumbraref03_Read.f k a1_0 l1_1 l1_2).bind fun bt699=>(some (bt699.1,bt699.2.1,bt699.2.2))) else ((penumbraref03_Sign.f k a1_0 l1_1 l1_2).bind fun t706=>(if t706=0 then ((penumbraref03_Read.f k a0_0 l0_1 l0_2).bind fun bt707=>(some (bt707.1,bt707.2.1,bt707.2.2))) else ((penumbraref01_Mul.f k l0_1 l1_2).bind fun t714=>((penumbraref01_Mul.f k l1_1 l0_2).bind fun t717=>((penumbraref01_Mul.f k l0_2 l1_2).bind fun t720=>(if (a0_0 == a1_0)=true then ((penumbraref01_Add.f k t714 t717).bind fun t723=>((penumbraref03_Read.f k a0_0 t723 t720).bind fun bt726=>(some (bt726.1,bt726.2.1,bt726.2.2)))) else ((penumbraref01_Cmp.f k t714 t717).bind fun t733=>(if t733 ≥ 0 then ((penumbraref01_Sub.f k t714 t717).bind fun bt734=>((penumbraref03_Read.f k a0_0 bt734.1 t720).bind fun bt738=>(some (bt738.1,bt738.2.1,bt738.2.2)))) else ((penumbraref01_Sub.f k t717 t714).bind fun bt745=>((penumbraref03_Read.f k a1_0 bt745.1 t720).bind fun bt749=>(some (bt749.1,bt749.2.1,bt749.2.2))))))))))))))=some (r1,r2,r3):=h
 clear h
 refine biT H ?_;clear H;intro t698 A3 H
 try dsimp only at H
 replace A3:=Aside0.mk A3
 by_cases c4 : t698=0
 ·rw [if_pos c4] at H
  have c4b0 : (t698 == 0)=true:=beq_iff_eq.mpr c4
  have c4b1 : (t698 != 0)=false:=bne_eq_false_iff_eq.mpr c4
  clear c4
  refine biT H ?_;clear H;rintro ⟨t699,t700,t703⟩ A5 H
  try dsimp only at H
  replace A5:=Aside0.mk A5
  simp only [Option.some.injEq,Prod.mk.injEq] at H
  obtain ⟨rfl,rfl,rfl⟩:=H
  go_enter Try.func39,Try.ntmps39
  go_wp2_with (first|((with_reducible refine gate_dst (N:=2) rfl ?_);refine boxA #[.bool a0_0,.slice A0_1 l0_1.length c0_1,.slice A0_2 l0_2.length c0_2] 63 ?_;intro gb695 hg w6 hbox hb;have BK695:=Aside0.mk hbox;have GW695:=Aside0.mk ((by rw [hg];exact (below_size (bL HB.out)) : w.heap.size≤gb695));have GE695:=Aside0.mk ((by rw [hg];exact (below_size (bL HB.out)) : w.heap.size≤gb695));replace HB:=Aside0.mk (below_step (bL HB.out) hb);clear hb hbox hg)|((with_reducible refine gate_dst (N:=3) rfl ?_);refine boxA #[.bool a1_0,.slice A1_1 l1_1.length c1_1,.slice A1_2 l1_2.length c1_2] 63 ?_;intro gb696 hg w7 hbox hb;have BK696:=Aside0.mk hbox;have GW696:=Aside0.mk ((by rw [hg];exact (below_size (bL HB.out)) : w.heap.size≤gb696));have GE696:=Aside0.mk ((by rw [hg];exact (below_size (bL HB.out)) : w.heap.size≤gb696));replace HB:=Aside0.mk (below_step (bL HB.out) hb);have NB695_696:=Aside0.mk ((by rw [hg];exact Nat.ne_of_lt (blk_lt (Bu BK695.out)) : gb695≠gb696));have NB696_695:=Aside0.mk ((by rw [hg];exact Nat.ne_of_gt (blk_lt (Bu BK695.out)) : gb696≠gb695));replace BK695:=Aside0.mk (blk_below (Bu BK695.out) hb);clear hb hbox hg)|((with_reducible refine gate_dst (N:=4) rfl ?_);refine boxA #[.bool false,.slice none 0 0,.slice none 0 0] 63 ?_;intro gb697 hg w8 hbox hb;have BK697:=Aside0.mk hbox;have GW697:=Aside0.mk ((by rw [hg];exact (below_size (bL HB.out)) : w.heap.size≤gb697));have GE697:=Aside0.mk ((by rw [hg];exact (below_size (bL HB.out)) : w.heap.size≤gb697));replace HB:=Aside0.mk (below_step (bL HB.out) hb);have NB695_697:=Aside0.mk ((by rw [hg];exact Nat.ne_of_lt (blk_lt (Bu BK695.out)) : gb695≠gb697));have NB697_695:=Aside0.mk ((by rw [hg];exact Nat.ne_of_gt (blk_lt (Bu BK695.out)) : gb697≠gb695));replace BK695:=Aside0.mk (blk_below (Bu BK695.out) hb);have NB696_697:=Aside0.mk ((by rw [hg];exact Nat.ne_of_lt (blk_lt (Bu BK696.out)) : gb696≠gb697));have NB697_696:=Aside0.mk ((by rw [hg];exact Nat.ne_of_gt (blk_lt (Bu BK696.out)) : gb697≠gb696));replace BK696:=Aside0.mk (blk_below (Bu BK696.out) hb);clear hb hbox hg;have hnb9:=NB695_696.out;have hnc9:=NB696_695.out;have hnb10:=NB695_697.out;have hnc10:=NB697_695.out;obtain ⟨hcz11_0,hcz11_1,hcz11_2⟩:=cl3 BK695.out;obtain ⟨hfz11_0,hfz11_1,hfz11_2⟩:=fr3 BK695.out)|((with_reducible refine gate_callee (f:=50) rfl ?_);refine gL (some 13) Try.func50 #[.agg #[.bool a0_0,.slice A0_1 l0_1.length c0_1,.slice A0_2 l0_2.length c0_2]] ?_;(with_reducible refine (penumbraref03_Sign.calls k a0_0 _ _ l0_1 _ _ l0_2 t698 _ ?side1 ?side2 ?side3 ?side4 A3.out).mono ?_);(case side1=>exact Cu (Kd.C_below HR0_1.out HB.out));(case side2=>exact HC0_1.out);(case side3=>exact Cu (Kd.C_below HR0_2.out HB.out));(case side4=>exact HC0_2.out);rintro e w12 ⟨rfl,hb⟩;refine ⟨_,rfl,?_⟩;replace BK695:=Aside0.mk (blk_below (Bu BK695.out) hb);replace BK696:=Aside0.mk (blk_below (Bu BK696.out) hb);replace BK697:=Aside0.mk (blk_below (Bu BK697.out) hb);replace HB:=Aside0.mk (below_step (bL HB.out) hb);have hnb13:=NB696_697.out;have hnc13:=NB697_696.out;obtain ⟨hcz14_0,hcz14_1,hcz14_2⟩:=cl3 BK696.out;obtain ⟨hfz14_0,hfz14_1,hfz14_2⟩:=fr3 BK696.out)|((with_reducible refine gate_callee (f:=51) rfl ?_);refine gL (some 16) Try.func51 #[.agg #[.bool a1_0,.slice A1_1 l1_1.length c1_1,.slice A1_2 l1_2.length c1_2]] ?_;(with_reducible refine (penumbraref03_Read.calls k a1_0 _ _ l1_1 _ _ l1_2 t699 t700 t703 _ ?side1 ?side2 ?side3 ?side4 A5.out).mono ?_);(case side1=>exact Cu (Kd.C_below HR1_1.out HB.out));(case side2=>exact HC1_1.out);(case side3=>exact Cu (Kd.C_below HR1_2.out HB.out));(case side4=>exact HC1_2.out);rintro e w15 ⟨v701,v704,rfl,ho0,ho1,hb⟩;refine ⟨_,rfl,?_⟩;have HO702:=Aside0.mk (Kd.R_lower ho0 (below_size (bL HB.out)));have HO705:=Aside0.mk (Kd.R_lower ho1 (below_size (bL HB.out)));replace BK695:=Aside0.mk (blk_below (Bu BK695.out) hb);replace BK696:=Aside0.mk (blk_below (Bu BK696.out) hb);replace BK697:=Aside0.mk (blk_below (Bu BK697.out) hb);replace HB:=Aside0.mk (below_step (bL HB.out) hb);obtain ⟨hcz16_0,hcz16_1,hcz16_2⟩:=cl3 BK697.out;obtain ⟨hfz16_0,hfz16_1,hfz16_2⟩:=fr3 BK697.out;obtain ⟨Ao17,co17,eo17⟩:=Kd.R_slice HO702.out;subst eo17;obtain ⟨Ao18,co18,eo18⟩:=Kd.R_slice HO705.out;subst eo18))
  refine bodyPost_ret (results_cell_row rfl _ _ gb697 63 #[.bool t699,.slice Ao17 t700.length co17,.slice Ao18 t703.length co18] (0,0) _ rfl (by (with_reducible repeat (first|refine blk_drewN ?_ _|refine blk_drew ?_|refine blk_alloc ?_ _));refine blk_put (cs:=#[.bool t699,.slice Ao17 t700.length co17,.slice none 0 0]) ?_ 2 _ rfl;(with_reducible repeat (first|refine blk_drewN ?_ _|refine blk_drew ?_|refine blk_alloc ?_ _));refine blk_put (cs:=#[.bool t699,.slice none 0 0,.slice none 0 0]) ?_ 1 _ rfl;(with_reducible repeat (first|refine blk_drewN ?_ _|refine blk_drew ?_|refine blk_alloc ?_ _));refine blk_put (cs:=#[.bool false,.slice none 0 0,.slice none 0 0]) ?_ 0 _ rfl;(with_reducible repeat (first|refine blk_drewN ?_ _|refine blk_drew ?_|refine blk_alloc ?_ _));exact BK697.out) Try.underlying63 rfl (by kernel_rfl)) rfl ?_
  exact ⟨_,_,eW,by (with_reducible repeat (first|apply Ra|apply Rn|apply Rd));exact Kd.R_mono (Kd.R_far (p:=⟨gb697,2,none⟩) (Kd.R_far (p:=⟨gb697,1,none⟩) (Kd.R_far (p:=⟨gb697,0,none⟩) (Kd.R_types HO702.out BK697.out (by decide)) (fun _ hk=>hk.2) (.bool t699)) (fun _ hk=>hk.2) (.slice Ao17 t700.length co17)) (fun _ hk=>hk.2) (.slice Ao18 t703.length co18)) (fun _ hk=>hk.1),by (with_reducible repeat (first|apply Ra|apply Rn|apply Rd));exact Kd.R_mono (Kd.R_far (p:=⟨gb697,2,none⟩) (Kd.R_far (p:=⟨gb697,1,none⟩) (Kd.R_far (p:=⟨gb697,0,none⟩) (Kd.R_types HO705.out BK697.out (by decide)) (fun _ hk=>hk.2) (.bool t699)) (fun _ hk=>hk.2) (.slice Ao17 t700.length co17)) (fun _ hk=>hk.2) (.slice Ao18 t703.length co18)) (fun _ hk=>hk.1),bL HB.out⟩
 ·rw [if_neg c4] at H
  have c4b0 : (t698 == 0)=false:=beq_eq_false_iff_ne.mpr c4
  have c4b1 : (t698 != 0)=true:=bne_iff_ne.mpr c4
  refine biT H ?_;clear H;intro t706 A19 H
  try dsimp only at H
  replace A19:=Aside0.mk A19
  by_cases c20 : t706=0
  ·rw [if_pos c20] at H
   have c20b0 : (t706 == 0)=true:=beq_iff_eq.mpr c20
   have c20b1 : (t706 != 0)=false:=bne_eq_false_iff_eq.mpr c20
   clear c20
   refine biT H ?_;clear H;rintro ⟨t707,t708,t711⟩ A21 H
   try dsimp only at H
   replace A21:=Aside0.mk A21
   simp only [Option.some.injEq,Prod.mk.injEq] at H
   obtain ⟨rfl,rfl,rfl⟩:=H
   go_enter Try.func39,Try.ntmps39
   go_wp2_with (first|((with_reducible refine gate_dst (N:=2) rfl ?_);refine boxA #[.bool a0_0,.slice A0_1 l0_1.length c0_1,.slice A0_2 l0_2.length c0_2] 63 ?_;intro gb695 hg w22 hbox hb;have BK695:=Aside0.mk hbox;have GW695:=Aside0.mk ((by rw [hg];exact (below_size (bL HB.out)) : w.heap.size≤gb695));have GE695:=Aside0.mk ((by rw [hg];exact (below_size (bL HB.out)) : w.heap.size≤gb695));replace HB:=Aside0.mk (below_step (bL HB.out) hb);clear hb hbox hg)|((with_reducible refine gate_dst (N:=3) rfl ?_);refine boxA #[.bool a1_0,.slice A1_1 l1_1.length c1_1,.slice A1_2 l1_2.length c1_2] 63 ?_;intro gb696 hg w23 hbox hb;have BK696:=Aside0.mk hbox;have GW696:=Aside0.mk ((by rw [hg];exact (below_size (bL HB.out)) : w.heap.size≤gb696));have GE696:=Aside0.mk ((by rw [hg];exact (below_size (bL HB.out)) : w.heap.size≤gb696));replace HB:=Aside0.mk (below_step (bL HB.out) hb);have NB695_696:=Aside0.mk ((by rw [hg];exact Nat.ne_of_lt (blk_lt (Bu BK695.out)) : gb695≠gb696));have NB696_695:=Aside0.mk ((by rw [hg];exact Nat.ne_of_gt (blk_lt (Bu BK695.out)) : gb696≠gb695));replace BK695:=Aside0.mk (blk_below (Bu BK695.out) hb);clear hb hbox hg)|((with_reducible refine gate_dst (N:=4) rfl ?_);refine boxA #[.bool false,.slice none 0 0,.slice none 0 0] 63 ?_;intro gb697 hg w24 hbox hb;have BK697:=Aside0.mk hbox;have GW697:=Aside0.mk ((by rw [hg];exact (below_size (bL HB.out)) : w.heap.size≤gb697));have GE697:=Aside0.mk ((by rw [hg];exact (below_size (bL HB.out)) : w.heap.size≤gb697));replace HB:=Aside0.mk (below_step (bL HB.out) hb);have NB695_697:=Aside0.mk ((by rw [hg];exact Nat.ne_of_lt (blk_lt (Bu BK695.out)) : gb695≠gb697));have NB697_695:=Aside0.mk ((by rw [hg];exact Nat.ne_of_gt (blk_lt (Bu BK695.out)) : gb697≠gb695));replace BK695:=Aside0.mk (blk_below (Bu BK695.out) hb);have NB696_697:=Aside0.mk ((by rw [hg];exact Nat.ne_of_lt (blk_lt (Bu BK696.out)) : gb696≠gb697));have NB697_696:=Aside0.mk ((by rw [hg];exact Nat.ne_of_gt (blk_lt (Bu BK696.out)) : gb697≠gb696));replace BK696:=Aside0.mk (blk_below (Bu BK696.out) hb);clear hb hbox hg;have hnb25:=NB695_696.out;have hnc25:=NB696_695.out;have hnb26:=NB695_697.out;have hnc26:=NB697_695.out;obtain ⟨hcz27_0,hcz27_1,hcz27_2⟩:=cl3 BK695.out;obtain ⟨hfz27_0,hfz27_1,hfz27_2⟩:=fr3 BK695.out)|((with_reducible refine gate_callee (f:=50) rfl ?_);refine gL (some 13) Try.func50 #[.agg #[.bool a0_0,.slice A0_1 l0_1.length c0_1,.slice A0_2 l0_2.length c0_2]] ?_;(with_reducible refine (penumbraref03_Sign.calls k a0_0 _ _ l0_1 _ _ l0_2 t698 _ ?side1 ?side2 ?side3 ?side4 A3.out).mono ?_);(case side1=>exact Cu (Kd.C_below HR0_1.out HB.out));(case side2=>exact HC0_1.out);(case side3=>exact Cu (Kd.C_below HR0_2.out HB.out));(case side4=>exact HC0_2.out);rintro e w28 ⟨rfl,hb⟩;refine ⟨_,rfl,?_⟩;replace BK695:=Aside0.mk (blk_below (Bu BK695.out) hb);replace BK696:=Aside0.mk (blk_below (Bu BK696.out) hb);replace BK697:=Aside0.mk (blk_below (Bu BK697.out) hb);replace HB:=Aside0.mk (below_step (bL HB.out) hb);have hnb29:=NB696_697.out;have hnc29:=NB697_696.out;obtain ⟨hcz30_0,hcz30_1,hcz30_2⟩:=cl3 BK696.out;obtain ⟨hfz30_0,hfz30_1,hfz30_2⟩:=fr3 BK696.out)|((with_reducible refine gate_callee (f:=50) rfl ?_);refine gL (some 18) Try.func50 #[.agg #[.bool a1_0,.slice A1_1 l1_1.length c1_1,.slice A1_2 l1_2.length c1_2]] ?_;(with_reducible refine (penumbraref03_Sign.calls k a1_0 _ _ l1_1 _ _ l1_2 t706 _ ?side1 ?side2 ?side3 ?side4 A19.out).mono ?_);(case side1=>exact Cu (Kd.C_below HR1_1.out HB.out));(case side2=>exact HC1_1.out);(case side3=>exact Cu (Kd.C_below HR1_2.out HB.out));(case side4=>exact HC1_2.out);rintro e w31 ⟨rfl,hb⟩;refine ⟨_,rfl,?_⟩;replace BK695:=Aside0.mk (blk_below (Bu BK695.out) hb);replace BK696:=Aside0.mk (blk_below (Bu BK696.out) hb);replace BK697:=Aside0.mk (blk_below (Bu BK697.out) hb);replace HB:=Aside0.mk (below_step (bL HB.out) hb);obtain ⟨hcz32_0,hcz32_1,hcz32_2⟩:=cl3 BK695.out;obtain ⟨hfz32_0,hfz32_1,hfz32_2⟩:=fr3 BK695.out)|((with_reducible refine gate_callee (f:=51) rfl ?_);refine gL (some 21) Try.func51 #[.agg #[.bool a0_0,.slice A0_1 l0_1.length c0_1,.slice A0_2 l0_2.length c0_2]] ?_;(with_reducible refine (penumbraref03_Read.calls k a0_0 _ _ l0_1 _ _ l0_2 t707 t708 t711 _ ?side1 ?side2 ?side3 ?side4 A21.out).mono ?_);(case side1=>exact Cu (Kd.C_below HR0_1.out HB.out));(case side2=>exact HC0_1.out);(case side3=>exact Cu (Kd.C_below HR0_2.out HB.out));(case side4=>exact HC0_2.out);rintro e w33 ⟨v709,v712,rfl,ho0,ho1,hb⟩;refine ⟨_,rfl,?_⟩;have HO710:=Aside0.mk (Kd.R_lower ho0 (below_size (bL HB.out)));have HO713:=Aside0.mk (Kd.R_lower ho1 (below_size (bL HB.out)));replace BK695:=Aside0.mk (blk_below (Bu BK695.out) hb);replace BK696:=Aside0.mk (blk_below (Bu BK696.out) hb);replace BK697:=Aside0.mk (blk_below (Bu BK697.out) hb);replace HB:=Aside0.mk (below_step (bL HB.out) hb);obtain ⟨hcz34_0,hcz34_1,hcz34_2⟩:=cl3 BK697.out;obtain ⟨hfz34_0,hfz34_1,hfz34_2⟩:=fr3 BK697.out;obtain ⟨Ao35,co35,eo35⟩:=Kd.R_slice HO710.out;subst eo35;obtain ⟨Ao36,co36,eo36⟩:=Kd.R_slice HO713.out;subst eo36))
   refine bodyPost_ret (results_cell_row rfl _ _ gb697 63 #[.bool t707,.slice Ao35 t708.length co35,.slice Ao36 t711.length co36] (0,0) _ rfl (by (with_reducible repeat (first|refine blk_drewN ?_ _|refine blk_drew ?_|refine blk_alloc ?_ _));refine blk_put (cs:=#[.bool t707,.slice Ao35 t708.length co35,.slice none 0 0]) ?_ 2 _ rfl;(with_reducible repeat (first|refine blk_drewN ?_ _|refine blk_drew ?_|refine blk_alloc ?_ _));refine blk_put (cs:=#[.bool t707,.slice none 0 0,.slice none 0 0]) ?_ 1 _ rfl;(with_reducible repeat (first|refine blk_drewN ?_ _|refine blk_drew ?_|refine blk_alloc ?_ _));refine blk_put (cs:=#[.bool false,.slice none 0 0,.slice none 0 0]) ?_ 0 _ rfl;(with_reducible repeat (first|refine blk_drewN ?_ _|refine blk_drew ?_|refine blk_alloc ?_ _));exact BK697.out) Try.underlying63 rfl (by kernel_rfl)) rfl ?_
   exact ⟨_,_,eW,by (with_reducible repeat (first|apply Ra|apply Rn|apply Rd));exact Kd.R_mono (Kd.R_far (p:=⟨gb697,2,none⟩) (Kd.R_far (p:=⟨gb697,1,none⟩) (Kd.R_far (p:=⟨gb697,0,none⟩) (Kd.R_types HO710.out BK697.out (by decide)) (fun _ hk=>hk.2) (.bool t707)) (fun _ hk=>hk.2) (.slice Ao35 t708.length co35)) (fun _ hk=>hk.2) (.slice Ao36 t711.length co36)) (fun _ hk=>hk.1),by (with_reducible repeat (first|apply Ra|apply Rn|apply Rd));exact Kd.R_mono (Kd.R_far (p:=⟨gb697,2,none⟩) (Kd.R_far (p:=⟨gb697,1,none⟩) (Kd.R_far (p:=⟨gb697,0,none⟩) (Kd.R_types HO713.out BK697.out (by decide)) (fun _ hk=>hk.2) (.bool t707)) (fun _ hk=>hk.2) (.slice Ao35 t708.length co35)) (fun _ hk=>hk.2) (.slice Ao36 t711.length co36)) (fun _ hk=>hk.1),bL HB.out⟩
  ·rw [if_neg c20] at H
   have c20b0 : (t706 == 0)=false:=beq_eq_false_iff_ne.mpr c20
   have c20b1 : (t706 != 0)=true:=bne_iff_ne.mpr c20
   refine biT H ?_;clear H;intro t714 A37 H
   try dsimp only at H
   replace A37:=Aside0.mk A37
   refine biT H ?_;clear H;intro t717 A38 H
   try dsimp only at H
   replace A38:=Aside0.mk A38
   refine biT H ?_;clear H;intro t720 A39 H
   try dsimp only at H
   replace A39:=Aside0.mk A39
   by_cases c40 : (a0_0 == a1_0)=true
   ·rw [if_pos c40] at H
    have c40b0 : (a0_0 == a1_0)=true:=c40
    (try (have c40b1 : decide (a0_0=a1_0)=true:=by simpa using c40))
    (try (have c40b2 : (a0_0 == a1_0)=true:=by simpa using c40))
    clear c40
    refine biT H ?_;clear H;intro t723 A41 H
    try dsimp only at H
    replace A41:=Aside0.mk A41
    refine biT H ?_;clear H;rintro ⟨t726,t727,t730⟩ A42 H
    try dsimp only at H
    replace A42:=Aside0.mk A42
    simp only [Option.some.injEq,Prod.mk.injEq] at H
    obtain ⟨rfl,rfl,rfl⟩:=H
    go_enter Try.func39,Try.ntmps39
    try go_wp2_with (first|((with_reducible refine gate_dst (N:=2) rfl ?_);refine boxA #[.bool a0_0,.slice A0_1 l0_1.length c0_1,.slice A0_2 l0_2.length c0_2] 63 ?_;intro gb695 hg w43 hbox hb;have BK695:=Aside0.mk hbox;have GW695:=Aside0.mk ((by rw [hg];exact (below_size (bL HB.out)) : w.heap.size≤gb695));have GE695:=Aside0.mk ((by rw [hg];exact (below_size (bL HB.out)) : w.heap.size≤gb695));replace HB:=Aside0.mk (below_step (bL HB.out) hb);clear hb hbox hg)|((with_reducible refine gate_dst (N:=3) rfl ?_);refine boxA #[.bool a1_0,.slice A1_1 l1_1.length c1_1,.slice A1_2 l1_2.length c1_2] 63 ?_;intro gb696 hg w44 hbox hb;have BK696:=Aside0.mk hbox;have GW696:=Aside0.mk ((by rw [hg];exact (below_size (bL HB.out)) : w.heap.size≤gb696));have GE696:=Aside0.mk ((by rw [hg];exact (below_size (bL HB.out)) : w.heap.size≤gb696));replace HB:=Aside0.mk (below_step (bL HB.out) hb);have NB695_696:=Aside0.mk ((by rw [hg];exact Nat.ne_of_lt (blk_lt (Bu BK695.out)) : gb695≠gb696));have NB696_695:=Aside0.mk ((by rw [hg];exact Nat.ne_of_gt (blk_lt (Bu BK695.out)) : gb696≠gb695));replace BK695:=Aside0.mk (blk_below (Bu BK695.out) hb);clear hb hbox hg)|((with_reducible refine gate_dst (N:=4) rfl ?_);refine boxA #[.bool false,.slice none 0 0,.slice none 0 0] 63 ?_;intro gb697 hg w45 hbox hb;have BK697:=Aside0.mk hbox;have GW697:=Aside0.mk ((by rw [hg];exact (below_size (bL HB.out)) : w.heap.size≤gb697));have GE697:=Aside0.mk ((by rw [hg];exact (below_size (bL HB.out)) : w.heap.size≤gb697));replace HB:=Aside0.mk (below_step (bL HB.out) hb);have NB695_697:=Aside0.mk ((by rw [hg];exact Nat.ne_of_lt (blk_lt (Bu BK695.out)) : gb695≠gb697));have NB697_695:=Aside0.mk ((by rw [hg];exact Nat.ne_of_gt (blk_lt (Bu BK695.out)) : gb697≠gb695));replace BK695:=Aside0.mk (blk_below (Bu BK695.out) hb);have NB696_697:=Aside0.mk ((by rw [hg];exact Nat.ne_of_lt (blk_lt (Bu BK696.out)) : gb696≠gb697));have NB697_696:=Aside0.mk ((by rw [hg];exact Nat.ne_of_gt (blk_lt (Bu BK696.out)) : gb697≠gb696));replace BK696:=Aside0.mk (blk_below (Bu BK696.out) hb);clear hb hbox hg;have hnb46:=NB695_696.out;have hnc46:=NB696_695.out;have hnb47:=NB695_697.out;have hnc47:=NB697_695.out;obtain ⟨hcz48_0,hcz48_1,hcz48_2⟩:=cl3 BK695.out;obtain ⟨hfz48_0,hfz48_1,hfz48_2⟩:=fr3 BK695.out)|((with_reducible refine gate_callee (f:=50) rfl ?_);refine gL (some 13) Try.func50 #[.agg #[.bool a0_0,.slice A0_1 l0_1.length c0_1,.slice A0_2 l0_2.length c0_2]] ?_;(with_reducible refine (penumbraref03_Sign.calls k a0_0 _ _ l0_1 _ _ l0_2 t698 _ ?side1 ?side2 ?side3 ?side4 A3.out).mono ?_);(case side1=>exact Cu (Kd.C_below HR0_1.out HB.out));(case side2=>exact HC0_1.out);(case side3=>exact Cu (Kd.C_below HR0_2.out HB.out));(case side4=>exact HC0_2.out);rintro e w49 ⟨rfl,hb⟩;refine ⟨_,rfl,?_⟩;replace BK695:=Aside0.mk (blk_below (Bu BK695.out) hb);replace BK696:=Aside0.mk (blk_below (Bu BK696.out) hb);replace BK697:=Aside0.mk (blk_below (Bu BK697.out) hb);replace HB:=Aside0.mk (below_step (bL HB.out) hb);have hnb50:=NB696_697.out;have hnc50:=NB697_696.out;obtain ⟨hcz51_0,hcz51_1,hcz51_2⟩:=cl3 BK696.out;obtain ⟨hfz51_0,hfz51_1,hfz51_2⟩:=fr3 BK696.out)|((with_reducible refine gate_callee (f:=50) rfl ?_);refine gL (some 18) Try.func50 #[.agg #[.bool a1_0,.slice A1_1 l1_1.length c1_1,.slice A1_2 l1_2.length c1_2]] ?_;(with_reducible refine (penumbraref03_Sign.calls k a1_0 _ _ l1_1 _ _ l1_2 t706 _ ?side1 ?side2 ?side3 ?side4 A19.out).mono ?_);(case side1=>exact Cu (Kd.C_below HR1_1.out HB.out));(case side2=>exact HC1_1.out);(case side3=>exact Cu (Kd.C_below HR1_2.out HB.out));(case side4=>exact HC1_2.out);rintro e w52 ⟨rfl,hb⟩;refine ⟨_,rfl,?_⟩;replace BK695:=Aside0.mk (blk_below (Bu BK695.out) hb);replace BK696:=Aside0.mk (blk_below (Bu BK696.out) hb);replace BK697:=Aside0.mk (blk_below (Bu BK697.out) hb);replace HB:=Aside0.mk (below_step (bL HB.out) hb);obtain ⟨hcz53_0,hcz53_1,hcz53_2⟩:=cl3 BK695.out;obtain ⟨hfz53_0,hfz53_1,hfz53_2⟩:=fr3 BK695.out;obtain ⟨hcz54_0,hcz54_1,hcz54_2⟩:=cl3 BK696.out;obtain ⟨hfz54_0,hfz54_1,hfz54_2⟩:=fr3 BK696.out)|((with_reducible refine gate_callee (f:=52) rfl ?_);refine gL (some 26) Try.func52 #[.slice A0_1 l0_1.length c0_1,.slice A1_2 l1_2.length c1_2] ?_;(with_reducible refine (penumbraref01_Mul.calls k _ _ l0_1 _ _ l1_2 t714 _ ?side1 ?side2 ?side3 ?side4 A37.out).mono ?_);(case side1=>exact Cu (Kd.C_below HR0_1.out HB.out));(case side2=>exact HC0_1.out);(case side3=>exact Cu (Kd.C_below HR1_2.out HB.out));(case side4=>exact HC1_2.out);rintro e w55 ⟨v715,rfl,ho0,hb⟩;refine ⟨_,rfl,?_⟩;have HO716:=Aside0.mk (Kd.R_lower ho0 (below_size (bL HB.out)));replace BK695:=Aside0.mk (blk_below (Bu BK695.out) hb);replace BK696:=Aside0.mk (blk_below (Bu BK696.out) hb);replace BK697:=Aside0.mk (blk_below (Bu BK697.out) hb);replace HB:=Aside0.mk (below_step (bL HB.out) hb);obtain ⟨hcz56_0,hcz56_1,hcz56_2⟩:=cl3 BK696.out;obtain ⟨hfz56_0,hfz56_1,hfz56_2⟩:=fr3 BK696.out;obtain ⟨hcz57_0,hcz57_1,hcz57_2⟩:=cl3 BK695.out;obtain ⟨hfz57_0,hfz57_1,hfz57_2⟩:=fr3 BK695.out)|((with_reducible refine gate_callee (f:=52) rfl ?_);refine gL (some 31) Try.func52 #[.slice A1_1 l1_1.length c1_1,.slice A0_2 l0_2.length c0_2] ?_;(with_reducible refine (penumbraref01_Mul.calls k _ _ l1_1 _ _ l0_2 t717 _ ?side1 ?side2 ?side3 ?side4 A38.out).mono ?_);(case side1=>exact Cu (Kd.C_below HR1_1.out HB.out));(case side2=>exact HC1_1.out);(case side3=>exact Cu (Kd.C_below HR0_2.out HB.out));(case side4=>exact HC0_2.out);rintro e w58 ⟨v718,rfl,ho0,hb⟩;refine ⟨_,rfl,?_⟩;have HO719:=Aside0.mk (Kd.R_lower (Kd.R_new' ho0 (Kd.R_lt (Ru HO716.out))) (below_size (bL HB.out)));replace HO716:=Aside0.mk (Kd.R_elder' (Ru HO716.out) (Kd.R_base ho0) hb);replace BK695:=Aside0.mk (blk_below (Bu BK695.out) hb);replace BK696:=Aside0.mk (blk_below (Bu BK696.out) hb);replace BK697:=Aside0.mk (blk_below (Bu BK697.out) hb);replace HB:=Aside0.mk (below_step (bL HB.out) hb);obtain ⟨hcz59_0,hcz59_1,hcz59_2⟩:=cl3 BK695.out;obtain ⟨hfz59_0,hfz59_1,hfz59_2⟩:=fr3 BK695.out;obtain ⟨hcz60_0,hcz60_1,hcz60_2⟩:=cl3 BK696.out;obtain ⟨hfz60_0,hfz60_1,hfz60_2⟩:=fr3 BK696.out)|((with_reducible refine gate_callee (f:=52) rfl ?_);refine gL (some 36) Try.func52 #[.slice A0_2 l0_2.length c0_2,.slice A1_2 l1_2.length c1_2] ?_;(with_reducible refine (penumbraref01_Mul.calls k _ _ l0_2 _ _ l1_2 t720 _ ?side1 ?side2 ?side3 ?side4 A39.out).mono ?_);(case side1=>exact Cu (Kd.C_below HR0_2.out HB.out));(case side2=>exact HC0_2.out);(case side3=>exact Cu (Kd.C_below HR1_2.out HB.out));(case side4=>exact HC1_2.out);rintro e w61 ⟨v721,rfl,ho0,hb⟩;refine ⟨_,rfl,?_⟩;have HO722:=Aside0.mk (Kd.R_lower (Kd.R_new' (Kd.R_new' ho0 (Kd.R_lt (Ru HO716.out))) (Kd.R_lt (Ru HO719.out))) (below_size (bL HB.out)));replace HO716:=Aside0.mk (Kd.R_elder' (Ru HO716.out) (Kd.R_base ho0) hb);replace HO719:=Aside0.mk (Kd.R_elder' (Ru HO719.out) (Kd.R_base ho0) hb);replace BK695:=Aside0.mk (blk_below (Bu BK695.out) hb);replace BK696:=Aside0.mk (blk_below (Bu BK696.out) hb);replace BK697:=Aside0.mk (blk_below (Bu BK697.out) hb);replace HB:=Aside0.mk (below_step (bL HB.out) hb);obtain ⟨hcz62_0,hcz62_1,hcz62_2⟩:=cl3 BK695.out;obtain ⟨hfz62_0,hfz62_1,hfz62_2⟩:=fr3 BK695.out;obtain ⟨hcz63_0,hcz63_1,hcz63_2⟩:=cl3 BK696.out;obtain ⟨hfz63_0,hfz63_1,hfz63_2⟩:=fr3 BK696.out))
    replace HO716:=Aside0.mk (Rd HO716.out)
    replace HO719:=Aside0.mk (Rd HO719.out)
    replace HO722:=Aside0.mk (Rd HO722.out)
    replace BK695:=Aside0.mk (blk_drew BK695.out)
    replace BK696:=Aside0.mk (blk_drew BK696.out)
    replace BK697:=Aside0.mk (blk_drew BK697.out)
    replace HB:=Aside0.mk (b1 HB.out)
    obtain ⟨Ao65,co65,eo65⟩:=Kd.R_slice HO716.out
    (first|subst eo65|(injection eo65 with f1_ f2_ f3_;have f4_:=f1_.symm;have f5_:=f3_.symm;clear f1_ f2_ f3_;subst f4_;subst f5_))
    obtain ⟨Ao66,co66,eo66⟩:=Kd.R_slice HO719.out
    (first|subst eo66|(injection eo66 with f1_ f2_ f3_;have f4_:=f1_.symm;have f5_:=f3_.symm;clear f1_ f2_ f3_;subst f4_;subst f5_))
    refine sT (n:=9) (S:=fun w'=>w'.cell? ⟨gb695,0,none⟩=some (.bool a0_0)∧w'.cell? ⟨gb695,1,none⟩=some (.slice A0_1 l0_1.length c0_1)∧w'.cell? ⟨gb695,2,none⟩=some (.slice A0_2 l0_2.length c0_2)) (ds:=[]) (by kernel_rfl) rfl (cl3 BK695.out) (fun hHeld=>?_);refine with_tabW penumbraref03_Add.tab9 penumbraref03_Add.bits9 (fun HT_ HW_=>?_)
    generalize w61.drew=w64 at HO716 HO719 HO722 BK695 BK696 BK697 HB hHeld ⊢
    refine pz 0 (some 42) rfl rfl ?_
    refine pz 2 (some 44) rfl rfl ?_
    refine pz 3 (some 45) rfl rfl ?_
    refine pz 5 (some 47) rfl rfl ?_
    refine tz 1 (some 43) rfl rfl hHeld ?_
    refine oN 4 (some 46) rfl rfl fun K hK=>?_
    refine gS Try.func53 #[.slice Ao65 t714.length co65,.slice Ao66 t717.length co66] ?_
    with_reducible refine (penumbraref01_Add.calls k _ _ t714 _ _ t717 t723 _ ?side1 ?side2 ?side3 ?side4 A41.out).mono ?_
    (case side1=>exact Cu (Kd.R_reads' HO716.out).2.2)
    (case side2=>exact (Kd.R_reads' HO716.out).2.1)
    (case side3=>exact Cu (Kd.R_reads' HO719.out).2.2)
    (case side4=>exact (Kd.R_reads' HO719.out).2.1)
    rintro e w67 ⟨v724,rfl,ho0,hb⟩
    refine ⟨_,rfl,?_⟩
    have HO725:=Aside0.mk (Kd.R_lower (Kd.R_new' (Kd.R_new' (Kd.R_new' ho0 (Kd.R_lt (Ru HO716.out))) (Kd.R_lt (Ru HO719.out))) (Kd.R_lt (Ru HO722.out))) (below_size (bL HB.out)))
    replace HO716:=Aside0.mk (Kd.R_elder' (Ru HO716.out) (Kd.R_base ho0) hb)
    replace HO719:=Aside0.mk (Kd.R_elder' (Ru HO719.out) (Kd.R_base ho0) hb)
    replace HO722:=Aside0.mk (Kd.R_elder' (Ru HO722.out) (Kd.R_base ho0) hb)
    replace BK695:=Aside0.mk (blk_below (Bu BK695.out) hb)
    replace BK696:=Aside0.mk (blk_below (Bu BK696.out) hb)
    replace BK697:=Aside0.mk (blk_below (Bu BK697.out) hb)
    replace HB:=Aside0.mk (below_step (bL HB.out) hb)
    (try clear hb)
    (try clear hb2)
    (try clear hk)
    (try clear hi)
    (try clear ho0)
    obtain ⟨Ao68,co68,eo68⟩:=Kd.R_slice HO722.out
    (first|subst eo68|(injection eo68 with f1_ f2_ f3_;have f4_:=f1_.symm;have f5_:=f3_.symm;clear f1_ f2_ f3_;subst f4_;subst f5_))
    obtain ⟨Ao69,co69,eo69⟩:=Kd.R_slice HO725.out
    (first|subst eo69|(injection eo69 with f1_ f2_ f3_;have f4_:=f1_.symm;have f5_:=f3_.symm;clear f1_ f2_ f3_;subst f4_;subst f5_))
    refine hK.out _ _ (cl3 BK695.out) (fun hHeld=>?_)
    clear hK K
    refine nZ ?_
    refine pz 6 (some 48) rfl rfl ?_
    refine oN 7 (some 49) rfl rfl fun K hK=>?_
    refine gS Try.func51 #[.agg #[.bool a0_0,.slice Ao69 t723.length co69,.slice Ao68 t720.length co68]] ?_
    with_reducible refine (penumbraref03_Read.calls k a0_0 _ _ t723 _ _ t720 t726 t727 t730 _ ?side1 ?side2 ?side3 ?side4 A42.out).mono ?_
    (case side1=>exact Cu (Kd.R_reads' HO725.out).2.2)
    (case side2=>exact (Kd.R_reads' HO725.out).2.1)
    (case side3=>exact Cu (Kd.R_reads' HO722.out).2.2)
    (case side4=>exact (Kd.R_reads' HO722.out).2.1)
    rintro e w70 ⟨v728,v731,rfl,ho0,ho1,hb⟩
    refine ⟨_,rfl,?_⟩
    have HO729:=Aside0.mk (Kd.R_lower (Kd.R_new' (Kd.R_new' (Kd.R_new' (Kd.R_new' ho0 (Kd.R_lt (Ru HO716.out))) (Kd.R_lt (Ru HO719.out))) (Kd.R_lt (Ru HO722.out))) (Kd.R_lt (Ru HO725.out))) (below_size (bL HB.out)))
    have HO732:=Aside0.mk (Kd.R_lower (Kd.R_new' (Kd.R_new' (Kd.R_new' (Kd.R_new' ho1 (Kd.R_lt (Ru HO716.out))) (Kd.R_lt (Ru HO719.out))) (Kd.R_lt (Ru HO722.out))) (Kd.R_lt (Ru HO725.out))) (below_size (bL HB.out)))
    replace HO716:=Aside0.mk (Kd.R_mono (Kd.R_told (Kd.R_told (Kd.R_old (Ru HO716.out) hb) (Kd.R_base ho0)) (Kd.R_base ho1)) (fun _ h_=>h_.1))
    replace HO719:=Aside0.mk (Kd.R_mono (Kd.R_told (Kd.R_told (Kd.R_old (Ru HO719.out) hb) (Kd.R_base ho0)) (Kd.R_base ho1)) (fun _ h_=>h_.1))
    replace HO722:=Aside0.mk (Kd.R_mono (Kd.R_told (Kd.R_told (Kd.R_old (Ru HO722.out) hb) (Kd.R_base ho0)) (Kd.R_base ho1)) (fun _ h_=>h_.1))
    replace HO725:=Aside0.mk (Kd.R_mono (Kd.R_told (Kd.R_told (Kd.R_old (Ru HO725.out) hb) (Kd.R_base ho0)) (Kd.R_base ho1)) (fun _ h_=>h_.1))
    replace BK695:=Aside0.mk (blk_below (Bu BK695.out) hb)
    replace BK696:=Aside0.mk (blk_below (Bu BK696.out) hb)
    replace BK697:=Aside0.mk (blk_below (Bu BK697.out) hb)
    replace HB:=Aside0.mk (below_step (bL HB.out) hb)
    (try clear hb)
    (try clear hb2)
    (try clear hk)
    (try clear hi)
    (try clear ho0)
    (try clear ho1)
    obtain ⟨Ao72,co72,eo72⟩:=Kd.R_slice HO729.out
    (first|subst eo72|(injection eo72 with f1_ f2_ f3_;have f4_:=f1_.symm;have f5_:=f3_.symm;clear f1_ f2_ f3_;subst f4_;subst f5_))
    obtain ⟨Ao74,co74,eo74⟩:=Kd.R_slice HO732.out
    (first|subst eo74|(injection eo74 with f1_ f2_ f3_;have f4_:=f1_.symm;have f5_:=f3_.symm;clear f1_ f2_ f3_;subst f4_;subst f5_))
    refine hK.out _ _ (cl3 BK695.out) (fun hHeld=>?_)
    clear hK K
    refine nZ ?_
    refine oN 8 (none) rfl rfl fun K hK=>?_
    have hs71 : w70.cell? ⟨gb697,0,none⟩=some (.bool false):=(blk_cell BK697.out 0).trans rfl
    have hfs71:=blk_frozen BK697.out 0
    have hns71_0:=NB695_697.out
    have hns71_1:=NB696_697.out
    have hms71_0:=NB697_695.out
    have hms71_1:=NB697_696.out
    have hs73 : w70.cell? ⟨gb697,1,none⟩=some (.slice none 0 0):=(blk_cell BK697.out 1).trans rfl
    have hfs73:=blk_frozen BK697.out 1
    have hns73_0:=NB695_697.out
    have hns73_1:=NB696_697.out
    have hms73_0:=NB697_695.out
    have hms73_1:=NB697_696.out
    have hs75 : w70.cell? ⟨gb697,2,none⟩=some (.slice none 0 0):=(blk_cell BK697.out 2).trans rfl
    have hfs75:=blk_frozen BK697.out 2
    have hns75_0:=NB695_697.out
    have hns75_1:=NB696_697.out
    have hms75_0:=NB697_695.out
    have hms75_1:=NB697_696.out
    refine skip_ (w1:=?_) (by rfl) rfl ?_ ?_
    rotate_left
    ·go_simp
     rfl
    refine hK.out _ _ ⟨((cell_far (p:=⟨gb697,_,none⟩) NB695_697.out _).trans (((cell_far (p:=⟨gb697,_,none⟩) NB695_697.out _).trans (((cell_far (p:=⟨gb697,_,none⟩) NB695_697.out _).trans (hHeld.1)))))),((cell_far (p:=⟨gb697,_,none⟩) NB695_697.out _).trans (((cell_far (p:=⟨gb697,_,none⟩) NB695_697.out _).trans (((cell_far (p:=⟨gb697,_,none⟩) NB695_697.out _).trans (hHeld.2.1)))))),((cell_far (p:=⟨gb697,_,none⟩) NB695_697.out _).trans (((cell_far (p:=⟨gb697,_,none⟩) NB695_697.out _).trans (((cell_far (p:=⟨gb697,_,none⟩) NB695_697.out _).trans (hHeld.2.2))))))⟩ (fun hHeld=>?_)
    clear hK K
    refine dN ?_
    try go_wp2
    refine bodyPost_ret (results_cell_row rfl _ _ gb697 63 #[.bool t726,.slice Ao72 t727.length co72,.slice Ao74 t730.length co74] (0,0) _ rfl (by (with_reducible repeat (first|refine blk_drewN ?_ _|refine blk_drew ?_|refine blk_alloc ?_ _));refine blk_put (cs:=#[.bool t726,.slice Ao72 t727.length co72,.slice none 0 0]) ?_ 2 _ rfl;(with_reducible repeat (first|refine blk_drewN ?_ _|refine blk_drew ?_|refine blk_alloc ?_ _));refine blk_put (cs:=#[.bool t726,.slice none 0 0,.slice none 0 0]) ?_ 1 _ rfl;(with_reducible repeat (first|refine blk_drewN ?_ _|refine blk_drew ?_|refine blk_alloc ?_ _));refine blk_put (cs:=#[.bool false,.slice none 0 0,.slice none 0 0]) ?_ 0 _ rfl;(with_reducible repeat (first|refine blk_drewN ?_ _|refine blk_drew ?_|refine blk_alloc ?_ _));exact BK697.out) Try.underlying63 rfl (by kernel_rfl)) rfl ?_
    exact ⟨_,_,eW,by (with_reducible repeat (first|apply Ra|apply Rn|apply Rd));exact Kd.R_mono (Kd.R_far (p:=⟨gb697,2,none⟩) (Kd.R_far (p:=⟨gb697,1,none⟩) (Kd.R_far (p:=⟨gb697,0,none⟩) (Kd.R_types HO729.out BK697.out (by decide)) (fun _ hk=>hk.2) (.bool t726)) (fun _ hk=>hk.2) (.slice Ao72 t727.length co72)) (fun _ hk=>hk.2) (.slice Ao74 t730.length co74)) (fun _ hk=>hk.1.1.1.1.1),by (with_reducible repeat (first|apply Ra|apply Rn|apply Rd));exact Kd.R_mono (Kd.R_far (p:=⟨gb697,2,none⟩) (Kd.R_far (p:=⟨gb697,1,none⟩) (Kd.R_far (p:=⟨gb697,0,none⟩) (Kd.R_types HO732.out BK697.out (by decide)) (fun _ hk=>hk.2) (.bool t726)) (fun _ hk=>hk.2) (.slice Ao72 t727.length co72)) (fun _ hk=>hk.2) (.slice Ao74 t730.length co74)) (fun _ hk=>hk.1.1.1.1.1),bL HB.out⟩
   ·rw [if_neg c40] at H
    have c40b0 : (a0_0 == a1_0)=false:=by simpa using c40
    (try (have c40b1 : decide (a0_0=a1_0)=false:=by simpa using c40))
    (try (have c40b2 : (a0_0 == a1_0)=false:=by simpa using c40))
    (try (have c40b3 : ¬ (a0_0=a1_0):=by simpa using c40))
    clear c40
    refine biT H ?_;clear H;intro t733 A76 H
    try dsimp only at H
    replace A76:=Aside0.mk A76
    by_cases c77 : t733 ≥ 0
    ·rw [if_pos c77] at H
     have c77b0 : decide (0≤t733)=true:=decide_eq_true c77
     clear c77
     refine biT H ?_;clear H;rintro ⟨t734,t735⟩ A78 H
     try dsimp only at H
     replace A78:=Aside0.mk A78
     refine biT H ?_;clear H;rintro ⟨t738,t739,t742⟩ A79 H
     try dsimp only at H
     replace A79:=Aside0.mk A79
     simp only [Option.some.injEq,Prod.mk.injEq] at H
     obtain ⟨rfl,rfl,rfl⟩:=H
     go_enter Try.func39,Try.ntmps39
     go_wp2_with (first|((with_reducible refine gate_dst (N:=2) rfl ?_);refine boxA #[.bool a0_0,.slice A0_1 l0_1.length c0_1,.slice A0_2 l0_2.length c0_2] 63 ?_;intro gb695 hg w80 hbox hb;have BK695:=Aside0.mk hbox;have GW695:=Aside0.mk ((by rw [hg];exact (below_size (bL HB.out)) : w.heap.size≤gb695));have GE695:=Aside0.mk ((by rw [hg];exact (below_size (bL HB.out)) : w.heap.size≤gb695));replace HB:=Aside0.mk (below_step (bL HB.out) hb);clear hb hbox hg)|((with_reducible refine gate_dst (N:=3) rfl ?_);refine boxA #[.bool a1_0,.slice A1_1 l1_1.length c1_1,.slice A1_2 l1_2.length c1_2] 63 ?_;intro gb696 hg w81 hbox hb;have BK696:=Aside0.mk hbox;have GW696:=Aside0.mk ((by rw [hg];exact (below_size (bL HB.out)) : w.heap.size≤gb696));have GE696:=Aside0.mk ((by rw [hg];exact (below_size (bL HB.out)) : w.heap.size≤gb696));replace HB:=Aside0.mk (below_step (bL HB.out) hb);have NB695_696:=Aside0.mk ((by rw [hg];exact Nat.ne_of_lt (blk_lt (Bu BK695.out)) : gb695≠gb696));have NB696_695:=Aside0.mk ((by rw [hg];exact Nat.ne_of_gt (blk_lt (Bu BK695.out)) : gb696≠gb695));replace BK695:=Aside0.mk (blk_below (Bu BK695.out) hb);clear hb hbox hg)|((with_reducible refine gate_dst (N:=4) rfl ?_);refine boxA #[.bool false,.slice none 0 0,.slice none 0 0] 63 ?_;intro gb697 hg w82 hbox hb;have BK697:=Aside0.mk hbox;have GW697:=Aside0.mk ((by rw [hg];exact (below_size (bL HB.out)) : w.heap.size≤gb697));have GE697:=Aside0.mk ((by rw [hg];exact (below_size (bL HB.out)) : w.heap.size≤gb697));replace HB:=Aside0.mk (below_step (bL HB.out) hb);have NB695_697:=Aside0.mk ((by rw [hg];exact Nat.ne_of_lt (blk_lt (Bu BK695.out)) : gb695≠gb697));have NB697_695:=Aside0.mk ((by rw [hg];exact Nat.ne_of_gt (blk_lt (Bu BK695.out)) : gb697≠gb695));replace BK695:=Aside0.mk (blk_below (Bu BK695.out) hb);have NB696_697:=Aside0.mk ((by rw [hg];exact Nat.ne_of_lt (blk_lt (Bu BK696.out)) : gb696≠gb697));have NB697_696:=Aside0.mk ((by rw [hg];exact Nat.ne_of_gt (blk_lt (Bu BK696.out)) : gb697≠gb696));replace BK696:=Aside0.mk (blk_below (Bu BK696.out) hb);clear hb hbox hg;have hnb83:=NB695_696.out;have hnc83:=NB696_695.out;have hnb84:=NB695_697.out;have hnc84:=NB697_695.out;obtain ⟨hcz85_0,hcz85_1,hcz85_2⟩:=cl3 BK695.out;obtain ⟨hfz85_0,hfz85_1,hfz85_2⟩:=fr3 BK695.out)|((with_reducible refine gate_callee (f:=50) rfl ?_);refine gL (some 13) Try.func50 #[.agg #[.bool a0_0,.slice A0_1 l0_1.length c0_1,.slice A0_2 l0_2.length c0_2]] ?_;(with_reducible refine (penumbraref03_Sign.calls k a0_0 _ _ l0_1 _ _ l0_2 t698 _ ?side1 ?side2 ?side3 ?side4 A3.out).mono ?_);(case side1=>exact Cu (Kd.C_below HR0_1.out HB.out));(case side2=>exact HC0_1.out);(case side3=>exact Cu (Kd.C_below HR0_2.out HB.out));(case side4=>exact HC0_2.out);rintro e w86 ⟨rfl,hb⟩;refine ⟨_,rfl,?_⟩;replace BK695:=Aside0.mk (blk_below (Bu BK695.out) hb);replace BK696:=Aside0.mk (blk_below (Bu BK696.out) hb);replace BK697:=Aside0.mk (blk_below (Bu BK697.out) hb);replace HB:=Aside0.mk (below_step (bL HB.out) hb);have hnb87:=NB696_697.out;have hnc87:=NB697_696.out;obtain ⟨hcz88_0,hcz88_1,hcz88_2⟩:=cl3 BK696.out;obtain ⟨hfz88_0,hfz88_1,hfz88_2⟩:=fr3 BK696.out)|((with_reducible refine gate_callee (f:=50) rfl ?_);refine gL (some 18) Try.func50 #[.agg #[.bool a1_0,.slice A1_1 l1_1.length c1_1,.slice A1_2 l1_2.length c1_2]] ?_;(with_reducible refine (penumbraref03_Sign.calls k a1_0 _ _ l1_1 _ _ l1_2 t706 _ ?side1 ?side2 ?side3 ?side4 A19.out).mono ?_);(case side1=>exact Cu (Kd.C_below HR1_1.out HB.out));(case side2=>exact HC1_1.out);(case side3=>exact Cu (Kd.C_below HR1_2.out HB.out));(case side4=>exact HC1_2.out);rintro e w89 ⟨rfl,hb⟩;refine ⟨_,rfl,?_⟩;replace BK695:=Aside0.mk (blk_below (Bu BK695.out) hb);replace BK696:=Aside0.mk (blk_below (Bu BK696.out) hb);replace BK697:=Aside0.mk (blk_below (Bu BK697.out) hb);replace HB:=Aside0.mk (below_step (bL HB.out) hb);obtain ⟨hcz90_0,hcz90_1,hcz90_2⟩:=cl3 BK695.out;obtain ⟨hfz90_0,hfz90_1,hfz90_2⟩:=fr3 BK695.out;obtain ⟨hcz91_0,hcz91_1,hcz91_2⟩:=cl3 BK696.out;obtain ⟨hfz91_0,hfz91_1,hfz91_2⟩:=fr3 BK696.out)|((with_reducible refine gate_callee (f:=52) rfl ?_);refine gL (some 26) Try.func52 #[.slice A0_1 l0_1.length c0_1,.slice A1_2 l1_2.length c1_2] ?_;(with_reducible refine (penumbraref01_Mul.calls k _ _ l0_1 _ _ l1_2 t714 _ ?side1 ?side2 ?side3 ?side4 A37.out).mono ?_);(case side1=>exact Cu (Kd.C_below HR0_1.out HB.out));(case side2=>exact HC0_1.out);(case side3=>exact Cu (Kd.C_below HR1_2.out HB.out));(case side4=>exact HC1_2.out);rintro e w92 ⟨v715,rfl,ho0,hb⟩;refine ⟨_,rfl,?_⟩;have HO716:=Aside0.mk (Kd.R_lower ho0 (below_size (bL HB.out)));replace BK695:=Aside0.mk (blk_below (Bu BK695.out) hb);replace BK696:=Aside0.mk (blk_below (Bu BK696.out) hb);replace BK697:=Aside0.mk (blk_below (Bu BK697.out) hb);replace HB:=Aside0.mk (below_step (bL HB.out) hb);obtain ⟨hcz93_0,hcz93_1,hcz93_2⟩:=cl3 BK696.out;obtain ⟨hfz93_0,hfz93_1,hfz93_2⟩:=fr3 BK696.out;obtain ⟨hcz94_0,hcz94_1,hcz94_2⟩:=cl3 BK695.out;obtain ⟨hfz94_0,hfz94_1,hfz94_2⟩:=fr3 BK695.out)|((with_reducible refine gate_callee (f:=52) rfl ?_);refine gL (some 31) Try.func52 #[.slice A1_1 l1_1.length c1_1,.slice A0_2 l0_2.length c0_2] ?_;(with_reducible refine (penumbraref01_Mul.calls k _ _ l1_1 _ _ l0_2 t717 _ ?side1 ?side2 ?side3 ?side4 A38.out).mono ?_);(case side1=>exact Cu (Kd.C_below HR1_1.out HB.out));(case side2=>exact HC1_1.out);(case side3=>exact Cu (Kd.C_below HR0_2.out HB.out));(case side4=>exact HC0_2.out);rintro e w95 ⟨v718,rfl,ho0,hb⟩;refine ⟨_,rfl,?_⟩;have HO719:=Aside0.mk (Kd.R_lower (Kd.R_new' ho0 (Kd.R_lt (Ru HO716.out))) (below_size (bL HB.out)));replace HO716:=Aside0.mk (Kd.R_elder' (Ru HO716.out) (Kd.R_base ho0) hb);replace BK695:=Aside0.mk (blk_below (Bu BK695.out) hb);replace BK696:=Aside0.mk (blk_below (Bu BK696.out) hb);replace BK697:=Aside0.mk (blk_below (Bu BK697.out) hb);replace HB:=Aside0.mk (below_step (bL HB.out) hb);obtain ⟨hcz96_0,hcz96_1,hcz96_2⟩:=cl3 BK695.out;obtain ⟨hfz96_0,hfz96_1,hfz96_2⟩:=fr3 BK695.out;obtain ⟨hcz97_0,hcz97_1,hcz97_2⟩:=cl3 BK696.out;obtain ⟨hfz97_0,hfz97_1,hfz97_2⟩:=fr3 BK696.out)|((with_reducible refine gate_callee (f:=52) rfl ?_);refine gL (some 36) Try.func52 #[.slice A0_2 l0_2.length c0_2,.slice A1_2 l1_2.length c1_2] ?_;(with_reducible refine (penumbraref01_Mul.calls k _ _ l0_2 _ _ l1_2 t720 _ ?side1 ?side2 ?side3 ?side4 A39.out).mono ?_);(case side1=>exact Cu (Kd.C_below HR0_2.out HB.out));(case side2=>exact HC0_2.out);(case side3=>exact Cu (Kd.C_below HR1_2.out HB.out));(case side4=>exact HC1_2.out);rintro e w98 ⟨v721,rfl,ho0,hb⟩;refine ⟨_,rfl,?_⟩;have HO722:=Aside0.mk (Kd.R_lower (Kd.R_new' (Kd.R_new' ho0 (Kd.R_lt (Ru HO716.out))) (Kd.R_lt (Ru HO719.out))) (below_size (bL HB.out)));replace HO716:=Aside0.mk (Kd.R_elder' (Ru HO716.out) (Kd.R_base ho0) hb);replace HO719:=Aside0.mk (Kd.R_elder' (Ru HO719.out) (Kd.R_base ho0) hb);replace BK695:=Aside0.mk (blk_below (Bu BK695.out) hb);replace BK696:=Aside0.mk (blk_below (Bu BK696.out) hb);replace BK697:=Aside0.mk (blk_below (Bu BK697.out) hb);replace HB:=Aside0.mk (below_step (bL HB.out) hb);obtain ⟨hcz99_0,hcz99_1,hcz99_2⟩:=cl3 BK695.out;obtain ⟨hfz99_0,hfz99_1,hfz99_2⟩:=fr3 BK695.out;obtain ⟨hcz100_0,hcz100_1,hcz100_2⟩:=cl3 BK696.out;obtain ⟨hfz100_0,hfz100_1,hfz100_2⟩:=fr3 BK696.out;obtain ⟨Ao101,co101,eo101⟩:=Kd.R_slice HO716.out;subst eo101;obtain ⟨Ao102,co102,eo102⟩:=Kd.R_slice HO719.out;subst eo102)|((with_reducible refine gate_callee (f:=54) rfl ?_);refine gL (some 52) Try.func54 #[.slice Ao101 t714.length co101,.slice Ao102 t717.length co102] ?_;(with_reducible refine (penumbraref01_Cmp.calls k _ _ t714 _ _ t717 t733 _ ?side1 ?side2 ?side3 ?side4 A76.out).mono ?_);(case side1=>exact Cu (Kd.R_reads' HO716.out).2.2);(case side2=>exact (Kd.R_reads' HO716.out).2.1);(case side3=>exact Cu (Kd.R_reads' HO719.out).2.2);(case side4=>exact (Kd.R_reads' HO719.out).2.1);rintro e w103 ⟨rfl,hb⟩;refine ⟨_,rfl,?_⟩;replace HO716:=Aside0.mk (Kd.R_below (Ru HO716.out) hb);replace HO719:=Aside0.mk (Kd.R_below (Ru HO719.out) hb);replace HO722:=Aside0.mk (Kd.R_below (Ru HO722.out) hb);replace BK695:=Aside0.mk (blk_below (Bu BK695.out) hb);replace BK696:=Aside0.mk (blk_below (Bu BK696.out) hb);replace BK697:=Aside0.mk (blk_below (Bu BK697.out) hb);replace HB:=Aside0.mk (below_step (bL HB.out) hb))|((with_reducible refine gate_callee (f:=55) rfl ?_);refine gL (some 57) Try.func55 #[.slice Ao101 t714.length co101,.slice Ao102 t717.length co102] ?_;(with_reducible refine (penumbraref01_Sub.calls k _ _ t714 _ _ t717 t734 t735 _ ?side1 ?side2 ?side3 ?side4 A78.out).mono ?_);(case side1=>exact Cu (Kd.R_reads' HO716.out).2.2);(case side2=>exact (Kd.R_reads' HO716.out).2.1);(case side3=>exact Cu (Kd.R_reads' HO719.out).2.2);(case side4=>exact (Kd.R_reads' HO719.out).2.1);rintro e w104 ⟨v736,rfl,ho0,hb⟩;refine ⟨_,rfl,?_⟩;have HO737:=Aside0.mk (Kd.R_lower (Kd.R_new' (Kd.R_new' (Kd.R_new' ho0 (Kd.R_lt (Ru HO716.out))) (Kd.R_lt (Ru HO719.out))) (Kd.R_lt (Ru HO722.out))) (below_size (bL HB.out)));replace HO716:=Aside0.mk (Kd.R_elder' (Ru HO716.out) (Kd.R_base ho0) hb);replace HO719:=Aside0.mk (Kd.R_elder' (Ru HO719.out) (Kd.R_base ho0) hb);replace HO722:=Aside0.mk (Kd.R_elder' (Ru HO722.out) (Kd.R_base ho0) hb);replace BK695:=Aside0.mk (blk_below (Bu BK695.out) hb);replace BK696:=Aside0.mk (blk_below (Bu BK696.out) hb);replace BK697:=Aside0.mk (blk_below (Bu BK697.out) hb);replace HB:=Aside0.mk (below_step (bL HB.out) hb);obtain ⟨hcz105_0,hcz105_1,hcz105_2⟩:=cl3 BK695.out;obtain ⟨hfz105_0,hfz105_1,hfz105_2⟩:=fr3 BK695.out;obtain ⟨Ao106,co106,eo106⟩:=Kd.R_slice HO722.out;subst eo106;obtain ⟨Ao107,co107,eo107⟩:=Kd.R_slice HO737.out;subst eo107)|((with_reducible refine gate_callee (f:=51) rfl ?_);refine gL (some 65) Try.func51 #[.agg #[.bool a0_0,.slice Ao107 t734.length co107,.slice Ao106 t720.length co106]] ?_;(with_reducible refine (penumbraref03_Read.calls k a0_0 _ _ t734 _ _ t720 t738 t739 t742 _ ?side1 ?side2 ?side3 ?side4 A79.out).mono ?_);(case side1=>exact Cu (Kd.R_reads' HO737.out).2.2);(case side2=>exact (Kd.R_reads' HO737.out).2.1);(case side3=>exact Cu (Kd.R_reads' HO722.out).2.2);(case side4=>exact (Kd.R_reads' HO722.out).2.1);rintro e w108 ⟨v740,v743,rfl,ho0,ho1,hb⟩;refine ⟨_,rfl,?_⟩;have HO741:=Aside0.mk (Kd.R_lower (Kd.R_new' (Kd.R_new' (Kd.R_new' (Kd.R_new' ho0 (Kd.R_lt (Ru HO716.out))) (Kd.R_lt (Ru HO719.out))) (Kd.R_lt (Ru HO722.out))) (Kd.R_lt (Ru HO737.out))) (below_size (bL HB.out)));have HO744:=Aside0.mk (Kd.R_lower (Kd.R_new' (Kd.R_new' (Kd.R_new' (Kd.R_new' ho1 (Kd.R_lt (Ru HO716.out))) (Kd.R_lt (Ru HO719.out))) (Kd.R_lt (Ru HO722.out))) (Kd.R_lt (Ru HO737.out))) (below_size (bL HB.out)));replace HO716:=Aside0.mk (Kd.R_mono (Kd.R_told (Kd.R_told (Kd.R_old (Ru HO716.out) hb) (Kd.R_base ho0)) (Kd.R_base ho1)) (fun _ h_=>h_.1));replace HO719:=Aside0.mk (Kd.R_mono (Kd.R_told (Kd.R_told (Kd.R_old (Ru HO719.out) hb) (Kd.R_base ho0)) (Kd.R_base ho1)) (fun _ h_=>h_.1));replace HO722:=Aside0.mk (Kd.R_mono (Kd.R_told (Kd.R_told (Kd.R_old (Ru HO722.out) hb) (Kd.R_base ho0)) (Kd.R_base ho1)) (fun _ h_=>h_.1));replace HO737:=Aside0.mk (Kd.R_mono (Kd.R_told (Kd.R_told (Kd.R_old (Ru HO737.out) hb) (Kd.R_base ho0)) (Kd.R_base ho1)) (fun _ h_=>h_.1));replace BK695:=Aside0.mk (blk_below (Bu BK695.out) hb);replace BK696:=Aside0.mk (blk_below (Bu BK696.out) hb);replace BK697:=Aside0.mk (blk_below (Bu BK697.out) hb);replace HB:=Aside0.mk (below_step (bL HB.out) hb);obtain ⟨hcz109_0,hcz109_1,hcz109_2⟩:=cl3 BK697.out;obtain ⟨hfz109_0,hfz109_1,hfz109_2⟩:=fr3 BK697.out;obtain ⟨Ao110,co110,eo110⟩:=Kd.R_slice HO741.out;subst eo110;obtain ⟨Ao111,co111,eo111⟩:=Kd.R_slice HO744.out;subst eo111))
     refine bodyPost_ret (results_cell_row rfl _ _ gb697 63 #[.bool t738,.slice Ao110 t739.length co110,.slice Ao111 t742.length co111] (0,0) _ rfl (by (with_reducible repeat (first|refine blk_drewN ?_ _|refine blk_drew ?_|refine blk_alloc ?_ _));refine blk_put (cs:=#[.bool t738,.slice Ao110 t739.length co110,.slice none 0 0]) ?_ 2 _ rfl;(with_reducible repeat (first|refine blk_drewN ?_ _|refine blk_drew ?_|refine blk_alloc ?_ _));refine blk_put (cs:=#[.bool t738,.slice none 0 0,.slice none 0 0]) ?_ 1 _ rfl;(with_reducible repeat (first|refine blk_drewN ?_ _|refine blk_drew ?_|refine blk_alloc ?_ _));refine blk_put (cs:=#[.bool false,.slice none 0 0,.slice none 0 0]) ?_ 0 _ rfl;(with_reducible repeat (first|refine blk_drewN ?_ _|refine blk_drew ?_|refine blk_alloc ?_ _));exact BK697.out) Try.underlying63 rfl (by kernel_rfl)) rfl ?_
     exact ⟨_,_,eW,by (with_reducible repeat (first|apply Ra|apply Rn|apply Rd));exact Kd.R_mono (Kd.R_far (p:=⟨gb697,2,none⟩) (Kd.R_far (p:=⟨gb697,1,none⟩) (Kd.R_far (p:=⟨gb697,0,none⟩) (Kd.R_types HO741.out BK697.out (by decide)) (fun _ hk=>hk.2) (.bool t738)) (fun _ hk=>hk.2) (.slice Ao110 t739.length co110)) (fun _ hk=>hk.2) (.slice Ao111 t742.length co111)) (fun _ hk=>hk.1.1.1.1.1),by (with_reducible repeat (first|apply Ra|apply Rn|apply Rd));exact Kd.R_mono (Kd.R_far (p:=⟨gb697,2,none⟩) (Kd.R_far (p:=⟨gb697,1,none⟩) (Kd.R_far (p:=⟨gb697,0,none⟩) (Kd.R_types HO744.out BK697.out (by decide)) (fun _ hk=>hk.2) (.bool t738)) (fun _ hk=>hk.2) (.slice Ao110 t739.length co110)) (fun _ hk=>hk.2) (.slice Ao111 t742.length co111)) (fun _ hk=>hk.1.1.1.1.1),bL HB.out⟩
    ·rw [if_neg c77] at H
     have c77b0 : decide (0≤t733)=false:=decide_eq_false c77
     clear c77
     refine biT H ?_;clear H;rintro ⟨t745,t746⟩ A112 H
     try dsimp only at H
     replace A112:=Aside0.mk A112
     refine biT H ?_;clear H;rintro ⟨t749,t750,t753⟩ A113 H
     try dsimp only at H
     replace A113:=Aside0.mk A113
     simp only [Option.some.injEq,Prod.mk.injEq] at H
     obtain ⟨rfl,rfl,rfl⟩:=H
     go_enter Try.func39,Try.ntmps39
     go_wp2_with (first|((with_reducible refine gate_dst (N:=2) rfl ?_);refine boxA #[.bool a0_0,.slice A0_1 l0_1.length c0_1,.slice A0_2 l0_2.length c0_2] 63 ?_;intro gb695 hg w114 hbox hb;have BK695:=Aside0.mk hbox;have GW695:=Aside0.mk ((by rw [hg];exact (below_size (bL HB.out)) : w.heap.size≤gb695));have GE695:=Aside0.mk ((by rw [hg];exact (below_size (bL HB.out)) : w.heap.size≤gb695));replace HB:=Aside0.mk (below_step (bL HB.out) hb);clear hb hbox hg)|((with_reducible refine gate_dst (N:=3) rfl ?_);refine boxA #[.bool a1_0,.slice A1_1 l1_1.length c1_1,.slice A1_2 l1_2.length c1_2] 63 ?_;intro gb696 hg w115 hbox hb;have BK696:=Aside0.mk hbox;have GW696:=Aside0.mk ((by rw [hg];exact (below_size (bL HB.out)) : w.heap.size≤gb696));have GE696:=Aside0.mk ((by rw [hg];exact (below_size (bL HB.out)) : w.heap.size≤gb696));replace HB:=Aside0.mk (below_step (bL HB.out) hb);have NB695_696:=Aside0.mk ((by rw [hg];exact Nat.ne_of_lt (blk_lt (Bu BK695.out)) : gb695≠gb696));have NB696_695:=Aside0.mk ((by rw [hg];exact Nat.ne_of_gt (blk_lt (Bu BK695.out)) : gb696≠gb695));replace BK695:=Aside0.mk (blk_below (Bu BK695.out) hb);clear hb hbox hg)|((with_reducible refine gate_dst (N:=4) rfl ?_);refine boxA #[.bool false,.slice none 0 0,.slice none 0 0] 63 ?_;intro gb697 hg w116 hbox hb;have BK697:=Aside0.mk hbox;have GW697:=Aside0.mk ((by rw [hg];exact (below_size (bL HB.out)) : w.heap.size≤gb697));have GE697:=Aside0.mk ((by rw [hg];exact (below_size (bL HB.out)) : w.heap.size≤gb697));replace HB:=Aside0.mk (below_step (bL HB.out) hb);have NB695_697:=Aside0.mk ((by rw [hg];exact Nat.ne_of_lt (blk_lt (Bu BK695.out)) : gb695≠gb697));have NB697_695:=Aside0.mk ((by rw [hg];exact Nat.ne_of_gt (blk_lt (Bu BK695.out)) : gb697≠gb695));replace BK695:=Aside0.mk (blk_below (Bu BK695.out) hb);have NB696_697:=Aside0.mk ((by rw [hg];exact Nat.ne_of_lt (blk_lt (Bu BK696.out)) : gb696≠gb697));have NB697_696:=Aside0.mk ((by rw [hg];exact Nat.ne_of_gt (blk_lt (Bu BK696.out)) : gb697≠gb696));replace BK696:=Aside0.mk (blk_below (Bu BK696.out) hb);clear hb hbox hg;have hnb117:=NB695_696.out;have hnc117:=NB696_695.out;have hnb118:=NB695_697.out;have hnc118:=NB697_695.out;obtain ⟨hcz119_0,hcz119_1,hcz119_2⟩:=cl3 BK695.out;obtain ⟨hfz119_0,hfz119_1,hfz119_2⟩:=fr3 BK695.out)|((with_reducible refine gate_callee (f:=50) rfl ?_);refine gL (some 13) Try.func50 #[.agg #[.bool a0_0,.slice A0_1 l0_1.length c0_1,.slice A0_2 l0_2.length c0_2]] ?_;(with_reducible refine (penumbraref03_Sign.calls k a0_0 _ _ l0_1 _ _ l0_2 t698 _ ?side1 ?side2 ?side3 ?side4 A3.out).mono ?_);(case side1=>exact Cu (Kd.C_below HR0_1.out HB.out));(case side2=>exact HC0_1.out);(case side3=>exact Cu (Kd.C_below HR0_2.out HB.out));(case side4=>exact HC0_2.out);rintro e w120 ⟨rfl,hb⟩;refine ⟨_,rfl,?_⟩;replace BK695:=Aside0.mk (blk_below (Bu BK695.out) hb);replace BK696:=Aside0.mk (blk_below (Bu BK696.out) hb);replace BK697:=Aside0.mk (blk_below (Bu BK697.out) hb);replace HB:=Aside0.mk (below_step (bL HB.out) hb);have hnb121:=NB696_697.out;have hnc121:=NB697_696.out;obtain ⟨hcz122_0,hcz122_1,hcz122_2⟩:=cl3 BK696.out;obtain ⟨hfz122_0,hfz122_1,hfz122_2⟩:=fr3 BK696.out)|((with_reducible refine gate_callee (f:=50) rfl ?_);refine gL (some 18) Try.func50 #[.agg #[.bool a1_0,.slice A1_1 l1_1.length c1_1,.slice A1_2 l1_2.length c1_2]] ?_;(with_reducible refine (penumbraref03_Sign.calls k a1_0 _ _ l1_1 _ _ l1_2 t706 _ ?side1 ?side2 ?side3 ?side4 A19.out).mono ?_);(case side1=>exact Cu (Kd.C_below HR1_1.out HB.out));(case side2=>exact HC1_1.out);(case side3=>exact Cu (Kd.C_below HR1_2.out HB.out));(case side4=>exact HC1_2.out);rintro e w123 ⟨rfl,hb⟩;refine ⟨_,rfl,?_⟩;replace BK695:=Aside0.mk (blk_below (Bu BK695.out) hb);replace BK696:=Aside0.mk (blk_below (Bu BK696.out) hb);replace BK697:=Aside0.mk (blk_below (Bu BK697.out) hb);replace HB:=Aside0.mk (below_step (bL HB.out) hb);obtain ⟨hcz124_0,hcz124_1,hcz124_2⟩:=cl3 BK695.out;obtain ⟨hfz124_0,hfz124_1,hfz124_2⟩:=fr3 BK695.out;obtain ⟨hcz125_0,hcz125_1,hcz125_2⟩:=cl3 BK696.out;obtain ⟨hfz125_0,hfz125_1,hfz125_2⟩:=fr3 BK696.out)|((with_reducible refine gate_callee (f:=52) rfl ?_);refine gL (some 26) Try.func52 #[.slice A0_1 l0_1.length c0_1,.slice A1_2 l1_2.length c1_2] ?_;(with_reducible refine (penumbraref01_Mul.calls k _ _ l0_1 _ _ l1_2 t714 _ ?side1 ?side2 ?side3 ?side4 A37.out).mono ?_);(case side1=>exact Cu (Kd.C_below HR0_1.out HB.out));(case side2=>exact HC0_1.out);(case side3=>exact Cu (Kd.C_below HR1_2.out HB.out));(case side4=>exact HC1_2.out);rintro e w126 ⟨v715,rfl,ho0,hb⟩;refine ⟨_,rfl,?_⟩;have HO716:=Aside0.mk (Kd.R_lower ho0 (below_size (bL HB.out)));replace BK695:=Aside0.mk (blk_below (Bu BK695.out) hb);replace BK696:=Aside0.mk (blk_below (Bu BK696.out) hb);replace BK697:=Aside0.mk (blk_below (Bu BK697.out) hb);replace HB:=Aside0.mk (below_step (bL HB.out) hb);obtain ⟨hcz127_0,hcz127_1,hcz127_2⟩:=cl3 BK696.out;obtain ⟨hfz127_0,hfz127_1,hfz127_2⟩:=fr3 BK696.out;obtain ⟨hcz128_0,hcz128_1,hcz128_2⟩:=cl3 BK695.out;obtain ⟨hfz128_0,hfz128_1,hfz128_2⟩:=fr3 BK695.out)|((with_reducible refine gate_callee (f:=52) rfl ?_);refine gL (some 31) Try.func52 #[.slice A1_1 l1_1.length c1_1,.slice A0_2 l0_2.length c0_2] ?_;(with_reducible refine (penumbraref01_Mul.calls k _ _ l1_1 _ _ l0_2 t717 _ ?side1 ?side2 ?side3 ?side4 A38.out).mono ?_);(case side1=>exact Cu (Kd.C_below HR1_1.out HB.out));(case side2=>exact HC1_1.out);(case side3=>exact Cu (Kd.C_below HR0_2.out HB.out));(case side4=>exact HC0_2.out);rintro e w129 ⟨v718,rfl,ho0,hb⟩;refine ⟨_,rfl,?_⟩;have HO719:=Aside0.mk (Kd.R_lower (Kd.R_new' ho0 (Kd.R_lt (Ru HO716.out))) (below_size (bL HB.out)));replace HO716:=Aside0.mk (Kd.R_elder' (Ru HO716.out) (Kd.R_base ho0) hb);replace BK695:=Aside0.mk (blk_below (Bu BK695.out) hb);replace BK696:=Aside0.mk (blk_below (Bu BK696.out) hb);replace BK697:=Aside0.mk (blk_below (Bu BK697.out) hb);replace HB:=Aside0.mk (below_step (bL HB.out) hb);obtain ⟨hcz130_0,hcz130_1,hcz130_2⟩:=cl3 BK695.out;obtain ⟨hfz130_0,hfz130_1,hfz130_2⟩:=fr3 BK695.out;obtain ⟨hcz131_0,hcz131_1,hcz131_2⟩:=cl3 BK696.out;obtain ⟨hfz131_0,hfz131_1,hfz131_2⟩:=fr3 BK696.out)|((with_reducible refine gate_callee (f:=52) rfl ?_);refine gL (some 36) Try.func52 #[.slice A0_2 l0_2.length c0_2,.slice A1_2 l1_2.length c1_2] ?_;(with_reducible refine (penumbraref01_Mul.calls k _ _ l0_2 _ _ l1_2 t720 _ ?side1 ?side2 ?side3 ?side4 A39.out).mono ?_);(case side1=>exact Cu (Kd.C_below HR0_2.out HB.out));(case side2=>exact HC0_2.out);(case side3=>exact Cu (Kd.C_below HR1_2.out HB.out));(case side4=>exact HC1_2.out);rintro e w132 ⟨v721,rfl,ho0,hb⟩;refine ⟨_,rfl,?_⟩;have HO722:=Aside0.mk (Kd.R_lower (Kd.R_new' (Kd.R_new' ho0 (Kd.R_lt (Ru HO716.out))) (Kd.R_lt (Ru HO719.out))) (below_size (bL HB.out)));replace HO716:=Aside0.mk (Kd.R_elder' (Ru HO716.out) (Kd.R_base ho0) hb);replace HO719:=Aside0.mk (Kd.R_elder' (Ru HO719.out) (Kd.R_base ho0) hb);replace BK695:=Aside0.mk (blk_below (Bu BK695.out) hb);replace BK696:=Aside0.mk (blk_below (Bu BK696.out) hb);replace BK697:=Aside0.mk (blk_below (Bu BK697.out) hb);replace HB:=Aside0.mk (below_step (bL HB.out) hb);obtain ⟨hcz133_0,hcz133_1,hcz133_2⟩:=cl3 BK695.out;obtain ⟨hfz133_0,hfz133_1,hfz133_2⟩:=fr3 BK695.out;obtain ⟨hcz134_0,hcz134_1,hcz134_2⟩:=cl3 BK696.out;obtain ⟨hfz134_0,hfz134_1,hfz134_2⟩:=fr3 BK696.out;obtain ⟨Ao135,co135,eo135⟩:=Kd.R_slice HO716.out;subst eo135;obtain ⟨Ao136,co136,eo136⟩:=Kd.R_slice HO719.out;subst eo136)|((with_reducible refine gate_callee (f:=54) rfl ?_);refine gL (some 52) Try.func54 #[.slice Ao135 t714.length co135,.slice Ao136 t717.length co136] ?_;(with_reducible refine (penumbraref01_Cmp.calls k _ _ t714 _ _ t717 t733 _ ?side1 ?side2 ?side3 ?side4 A76.out).mono ?_);(case side1=>exact Cu (Kd.R_reads' HO716.out).2.2);(case side2=>exact (Kd.R_reads' HO716.out).2.1);(case side3=>exact Cu (Kd.R_reads' HO719.out).2.2);(case side4=>exact (Kd.R_reads' HO719.out).2.1);rintro e w137 ⟨rfl,hb⟩;refine ⟨_,rfl,?_⟩;replace HO716:=Aside0.mk (Kd.R_below (Ru HO716.out) hb);replace HO719:=Aside0.mk (Kd.R_below (Ru HO719.out) hb);replace HO722:=Aside0.mk (Kd.R_below (Ru HO722.out) hb);replace BK695:=Aside0.mk (blk_below (Bu BK695.out) hb);replace BK696:=Aside0.mk (blk_below (Bu BK696.out) hb);replace BK697:=Aside0.mk (blk_below (Bu BK697.out) hb);replace HB:=Aside0.mk (below_step (bL HB.out) hb))|((with_reducible refine gate_callee (f:=55) rfl ?_);refine gL (some 69) Try.func55 #[.slice Ao136 t717.length co136,.slice Ao135 t714.length co135] ?_;(with_reducible refine (penumbraref01_Sub.calls k _ _ t717 _ _ t714 t745 t746 _ ?side1 ?side2 ?side3 ?side4 A112.out).mono ?_);(case side1=>exact Cu (Kd.R_reads' HO719.out).2.2);(case side2=>exact (Kd.R_reads' HO719.out).2.1);(case side3=>exact Cu (Kd.R_reads' HO716.out).2.2);(case side4=>exact (Kd.R_reads' HO716.out).2.1);rintro e w138 ⟨v747,rfl,ho0,hb⟩;refine ⟨_,rfl,?_⟩;have HO748:=Aside0.mk (Kd.R_lower (Kd.R_new' (Kd.R_new' (Kd.R_new' ho0 (Kd.R_lt (Ru HO716.out))) (Kd.R_lt (Ru HO719.out))) (Kd.R_lt (Ru HO722.out))) (below_size (bL HB.out)));replace HO716:=Aside0.mk (Kd.R_elder' (Ru HO716.out) (Kd.R_base ho0) hb);replace HO719:=Aside0.mk (Kd.R_elder' (Ru HO719.out) (Kd.R_base ho0) hb);replace HO722:=Aside0.mk (Kd.R_elder' (Ru HO722.out) (Kd.R_base ho0) hb);replace BK695:=Aside0.mk (blk_below (Bu BK695.out) hb);replace BK696:=Aside0.mk (blk_below (Bu BK696.out) hb);replace BK697:=Aside0.mk (blk_below (Bu BK697.out) hb);replace HB:=Aside0.mk (below_step (bL HB.out) hb);obtain ⟨hcz139_0,hcz139_1,hcz139_2⟩:=cl3 BK696.out;obtain ⟨hfz139_0,hfz139_1,hfz139_2⟩:=fr3 BK696.out;obtain ⟨Ao140,co140,eo140⟩:=Kd.R_slice HO722.out;subst eo140;obtain ⟨Ao141,co141,eo141⟩:=Kd.R_slice HO748.out;subst eo141)|((with_reducible refine gate_callee (f:=51) rfl ?_);refine gL (some 77) Try.func51 #[.agg #[.bool a1_0,.slice Ao141 t745.length co141,.slice Ao140 t720.length co140]] ?_;(with_reducible refine (penumbraref03_Read.calls k a1_0 _ _ t745 _ _ t720 t749 t750 t753 _ ?side1 ?side2 ?side3 ?side4 A113.out).mono ?_);(case side1=>exact Cu (Kd.R_reads' HO748.out).2.2);(case side2=>exact (Kd.R_reads' HO748.out).2.1);(case side3=>exact Cu (Kd.R_reads' HO722.out).2.2);(case side4=>exact (Kd.R_reads' HO722.out).2.1);rintro e w142 ⟨v751,v754,rfl,ho0,ho1,hb⟩;refine ⟨_,rfl,?_⟩;have HO752:=Aside0.mk (Kd.R_lower (Kd.R_new' (Kd.R_new' (Kd.R_new' (Kd.R_new' ho0 (Kd.R_lt (Ru HO716.out))) (Kd.R_lt (Ru HO719.out))) (Kd.R_lt (Ru HO722.out))) (Kd.R_lt (Ru HO748.out))) (below_size (bL HB.out)));have HO755:=Aside0.mk (Kd.R_lower (Kd.R_new' (Kd.R_new' (Kd.R_new' (Kd.R_new' ho1 (Kd.R_lt (Ru HO716.out))) (Kd.R_lt (Ru HO719.out))) (Kd.R_lt (Ru HO722.out))) (Kd.R_lt (Ru HO748.out))) (below_size (bL HB.out)));replace HO716:=Aside0.mk (Kd.R_mono (Kd.R_told (Kd.R_told (Kd.R_old (Ru HO716.out) hb) (Kd.R_base ho0)) (Kd.R_base ho1)) (fun _ h_=>h_.1));replace HO719:=Aside0.mk (Kd.R_mono (Kd.R_told (Kd.R_told (Kd.R_old (Ru HO719.out) hb) (Kd.R_base ho0)) (Kd.R_base ho1)) (fun _ h_=>h_.1));replace HO722:=Aside0.mk (Kd.R_mono (Kd.R_told (Kd.R_told (Kd.R_old (Ru HO722.out) hb) (Kd.R_base ho0)) (Kd.R_base ho1)) (fun _ h_=>h_.1));replace HO748:=Aside0.mk (Kd.R_mono (Kd.R_told (Kd.R_told (Kd.R_old (Ru HO748.out) hb) (Kd.R_base ho0)) (Kd.R_base ho1)) (fun _ h_=>h_.1));replace BK695:=Aside0.mk (blk_below (Bu BK695.out) hb);replace BK696:=Aside0.mk (blk_below (Bu BK696.out) hb);replace BK697:=Aside0.mk (blk_below (Bu BK697.out) hb);replace HB:=Aside0.mk (below_step (bL HB.out) hb);obtain ⟨hcz143_0,hcz143_1,hcz143_2⟩:=cl3 BK697.out;obtain ⟨hfz143_0,hfz143_1,hfz143_2⟩:=fr3 BK697.out;obtain ⟨Ao144,co144,eo144⟩:=Kd.R_slice HO752.out;subst eo144;obtain ⟨Ao145,co145,eo145⟩:=Kd.R_slice HO755.out;subst eo145))
     refine bodyPost_ret (results_cell_row rfl _ _ gb697 63 #[.bool t749,.slice Ao144 t750.length co144,.slice Ao145 t753.length co145] (0,0) _ rfl (by (with_reducible repeat (first|refine blk_drewN ?_ _|refine blk_drew ?_|refine blk_alloc ?_ _));refine blk_put (cs:=#[.bool t749,.slice Ao144 t750.length co144,.slice none 0 0]) ?_ 2 _ rfl;(with_reducible repeat (first|refine blk_drewN ?_ _|refine blk_drew ?_|refine blk_alloc ?_ _));refine blk_put (cs:=#[.bool t749,.slice none 0 0,.slice none 0 0]) ?_ 1 _ rfl;(with_reducible repeat (first|refine blk_drewN ?_ _|refine blk_drew ?_|refine blk_alloc ?_ _));refine blk_put (cs:=#[.bool false,.slice none 0 0,.slice none 0 0]) ?_ 0 _ rfl;(with_reducible repeat (first|refine blk_drewN ?_ _|refine blk_drew ?_|refine blk_alloc ?_ _));exact BK697.out) Try.underlying63 rfl (by kernel_rfl)) rfl ?_
     exact ⟨_,_,eW,by (with_reducible repeat (first|apply Ra|apply Rn|apply Rd));exact Kd.R_mono (Kd.R_far (p:=⟨gb697,2,none⟩) (Kd.R_far (p:=⟨gb697,1,none⟩) (Kd.R_far (p:=⟨gb697,0,none⟩) (Kd.R_types HO752.out BK697.out (by decide)) (fun _ hk=>hk.2) (.bool t749)) (fun _ hk=>hk.2) (.slice Ao144 t750.length co144)) (fun _ hk=>hk.2) (.slice Ao145 t753.length co145)) (fun _ hk=>hk.1.1.1.1.1),by (with_reducible repeat (first|apply Ra|apply Rn|apply Rd));exact Kd.R_mono (Kd.R_far (p:=⟨gb697,2,none⟩) (Kd.R_far (p:=⟨gb697,1,none⟩) (Kd.R_far (p:=⟨gb697,0,none⟩) (Kd.R_types HO755.out BK697.out (by decide)) (fun _ hk=>hk.2) (.bool t749)) (fun _ hk=>hk.2) (.slice Ao144 t750.length co144)) (fun _ hk=>hk.2) (.slice Ao145 t753.length co145)) (fun _ hk=>hk.1.1.1.1.1),bL HB.out⟩
theorem penumbraref03_Check.calls (k : Nat) (a0_0 : Bool) (A0_1 : Option Addr) (c0_1 : Nat) (l0_1 : List Int) (A0_2 : Option Addr) (c0_2 : Nat) (l0_2 : List Int) (r : Bool) (w : World) (hr0_1 : Kd.C (Kd.int .u32) w A0_1 l0_1.length l0_1) (hc0_1 : l0_1.length≤c0_1) (hr0_2 : Kd.C (Kd.int .u32) w A0_2 l0_2.length l0_2) (hc0_2 : l0_2.length≤c0_2) (h : penumbraref03_Check.f k a0_0 l0_1 l0_2=some r) :
  Calls Try.prog 49 #[.agg #[.bool a0_0,.slice A0_1 l0_1.length c0_1,.slice A0_2 l0_2.length c0_2]] w fun e w'=>e=.returned (.bool r)∧Below w.heap.size w w':=by
 have hu63:=Try.underlying63
 have HR0_1:=Aside0.mk hr0_1
 have HC0_1:=Aside0.mk hc0_1
 clear hr0_1 hc0_1
 have HR0_2:=Aside0.mk hr0_2
 have HC0_2:=Aside0.mk hc0_2
 clear hr0_2 hc0_2
 have HB:=Aside0.mk (Below.refl w.heap.size w)
 have H : ((penumbraref03_Read.f k a0_0 l0_1 l0_2).bind fun bt678=>((penumbraref03_Is.f k bt678.1 bt678.2.1 bt678.2.2 a0_0 l0_1 l0_2).bind fun t685=>(some t685)))=some r:=h
 clear h
 refine biT H ?_;clear H;rintro ⟨t678,t679,t682⟩ A2 H
 try dsimp only at H
 replace A2:=Aside0.mk A2
 refine biT H ?_;clear H;intro t685 A3 H
 try dsimp only at H
 replace A3:=Aside0.mk A3
 obtain rfl:=Option.some.inj H
 go_enter Try.func49,Try.ntmps49
 try go_wp2_with (first|((with_reducible refine gate_dst (N:=1) rfl ?_);refine boxA #[.bool a0_0,.slice A0_1 l0_1.length c0_1,.slice A0_2 l0_2.length c0_2] 63 ?_;intro gb677 hg w4 hbox hb;have BK677:=Aside0.mk hbox;have GW677:=Aside0.mk ((by rw [hg];exact (below_size (bL HB.out)) : w.heap.size≤gb677));have GE677:=Aside0.mk ((by rw [hg];exact (below_size (bL HB.out)) : w.heap.size≤gb677));replace HB:=Aside0.mk (below_step (bL HB.out) hb);clear hb hbox hg))
 replace BK677:=Aside0.mk (blk_drew BK677.out)
 replace HB:=Aside0.mk (b1 HB.out)
 refine sT (n:=5) (S:=fun w'=>w'.cell? ⟨gb677,0,none⟩=some (.bool a0_0)∧w'.cell? ⟨gb677,1,none⟩=some (.slice A0_1 l0_1.length c0_1)∧w'.cell? ⟨gb677,2,none⟩=some (.slice A0_2 l0_2.length c0_2)) (ds:=[]) (by kernel_rfl) rfl (cl3 BK677.out) (fun hHeld=>?_)
 generalize w4.drew=w5 at BK677 HB hHeld ⊢
 refine tz 0 (some 3) rfl rfl hHeld ?_
 refine tz 2 (some 5) rfl rfl hHeld ?_
 refine oN 1 (some 4) rfl rfl fun K hK=>?_
 refine gS Try.func51 #[.agg #[.bool a0_0,.slice A0_1 l0_1.length c0_1,.slice A0_2 l0_2.length c0_2]] ?_
 with_reducible refine (penumbraref03_Read.calls k a0_0 _ _ l0_1 _ _ l0_2 t678 t679 t682 _ ?side1 ?side2 ?side3 ?side4 A2.out).mono ?_
 (case side1=>exact Cu (Kd.C_below HR0_1.out HB.out))
 (case side2=>exact HC0_1.out)
 (case side3=>exact Cu (Kd.C_below HR0_2.out HB.out))
 (case side4=>exact HC0_2.out)
 rintro e w6 ⟨v680,v683,rfl,ho0,ho1,hb⟩
 refine ⟨_,rfl,?_⟩
 have HO681:=Aside0.mk (Kd.R_lower ho0 (below_size (bL HB.out)))
 have HO684:=Aside0.mk (Kd.R_lower ho1 (below_size (bL HB.out)))
 replace BK677:=Aside0.mk (blk_below (Bu BK677.out) hb)
 replace HB:=Aside0.mk (below_step (bL HB.out) hb)
 (try clear hb)
 (try clear hb2)
 (try clear hk)
 (try clear hi)
 (try clear ho0)
 (try clear ho1)
 obtain ⟨Ao7,co7,eo7⟩:=Kd.R_slice HO681.out
 (first|subst eo7|(injection eo7 with f1_ f2_ f3_;have f4_:=f1_.symm;have f5_:=f3_.symm;clear f1_ f2_ f3_;subst f4_;subst f5_))
 obtain ⟨Ao8,co8,eo8⟩:=Kd.R_slice HO684.out
 (first|subst eo8|(injection eo8 with f1_ f2_ f3_;have f4_:=f1_.symm;have f5_:=f3_.symm;clear f1_ f2_ f3_;subst f4_;subst f5_))
 refine hK.out _ _ (cl3 BK677.out) (fun hHeld=>?_)
 clear hK K
 refine nZ ?_
 refine oN 3 (some 6) rfl rfl fun K hK=>?_
 refine gS Try.func37 #[.agg #[.bool t678,.slice Ao7 t679.length co7,.slice Ao8 t682.length co8],.agg #[.bool a0_0,.slice A0_1 l0_1.length c0_1,.slice A0_2 l0_2.length c0_2]] ?_
 with_reducible refine (penumbraref03_Is.calls k t678 _ _ t679 _ _ t682 a0_0 _ _ l0_1 _ _ l0_2 t685 _ ?side1 ?side2 ?side3 ?side4 ?side5 ?side6 ?side7 ?side8 A3.out).mono ?_
 (case side1=>exact Cu (Kd.R_reads' HO681.out).2.2)
 (case side2=>exact (Kd.R_reads' HO681.out).2.1)
 (case side3=>exact Cu (Kd.R_reads' HO684.out).2.2)
 (case side4=>exact (Kd.R_reads' HO684.out).2.1)
 (case side5=>exact Cu (Kd.C_below HR0_1.out HB.out))
 (case side6=>exact HC0_1.out)
 (case side7=>exact Cu (Kd.C_below HR0_2.out HB.out))
 (case side8=>exact HC0_2.out)
 rintro e w9 ⟨rfl,hb⟩
 refine ⟨_,rfl,?_⟩
 replace HO681:=Aside0.mk (Kd.R_below (Ru HO681.out) hb)
 replace HO684:=Aside0.mk (Kd.R_below (Ru HO684.out) hb)
 replace BK677:=Aside0.mk (blk_below (Bu BK677.out) hb)
 replace HB:=Aside0.mk (below_step (bL HB.out) hb)
 (try clear hb)
 (try clear hb2)
 (try clear hk)
 (try clear hi)
 refine hK.out _ _ (cl3 BK677.out) (fun hHeld=>?_)
 clear hK K
 refine nZ ?_
 refine pz 4 (some 2) rfl rfl ?_
 refine dN ?_
 try go_wp2
 go_ret
 exact ⟨eW,bL HB.out⟩
end Go.Proofs.Ytjiaobcoeegioaa.Pq
end
section
namespace Go.Proofs.Ytjiaobcoeegioaa.N
open Go Go.RowKit Go.Proofs.YtjiaobcoeegioaaW.PrintWords Go.Proofs.YtjiaobcoeegioaaW.PrintLast Go.Proofs.YtjiaobcoeegioaaW.PrintMore Go.Proofs.Ytjiaobcoeegioaa.Pq
set_option linter.unusedVariables false
set_option linter.unusedSimpArgs false
theorem rread_cq {a b : List Int} {m n : Nat} {x y : Int} (h : Nm a m x) (k : Nm b n y) (hm : m < 1000000000) (hn : n < 1000000000) (neg : Bool) : Ev (fun r=>penumbraref03_Read.f r neg a b) (cq (qv neg x y)) :=
 Ev_eq (rread_f h k hm hn neg) (cq_qv h.pos k.pos)
theorem rsign_f {a b : List Int} {m n : Nat} {x y : Int} (h : Nm a m x) (k : Nm b n y) (hm : m < 1000000000) (hn : n < 1000000000) (neg : Bool) : Ev (fun r=>penumbraref03_Sign.f r neg a b) (if x=0∨y=0 then 0 else if neg=true then -1 else 1):=by
 unfold penumbraref03_Sign.f
 refine Ev.bind (h.rzero (by omega)) ?_
 by_cases hx : x=0
 ·rw [decide_eq_true hx,if_pos (.inl hx)]
  refine Ev_pos rfl ?_
  refine Ev_up ?_
  simp only [penumbraref03_Sign.j0]
  exact Ev_pos trivial (Ev.now _)
 ·rw [decide_eq_false hx]
  refine Ev_neg (by simp) ?_
  refine Ev.bind (k.rzero (by omega)) ?_
  by_cases hy : y=0
  ·rw [decide_eq_true hy,if_pos (Or.inr hy)]
   refine Ev_up ?_
   simp only [penumbraref03_Sign.j0]
   exact Ev_pos trivial (Ev.now _)
  ·rw [decide_eq_false hy,if_neg (show ¬ (x=0∨y=0) by omega)]
   refine Ev_up ?_
   cases neg
   ·simp only [penumbraref03_Sign.j0]
    exact Ev_neg (by simp) (Ev_neg (by simp) (Ev.now _))
   ·simp only [penumbraref03_Sign.j0]
    exact Ev_neg (by simp) (Ev_pos trivial (Ev.now _))
theorem add03_f {a b c d : List Int} {i j k l : Nat} {x y u v : Int} (ha : Nm a i x) (hb : Nm b j y) (hc : Nm c k u) (hd : Nm d l v) (hi : i < 100000000) (hj : j < 100000000) (hk : k < 100000000) (hl : l < 100000000) (n m : Bool) :
  Ev (fun r=>penumbraref03_Add.f r n a b m c d) (cq (qv n x y+qv m u v)):=by
 have hx:=ha.pos
 have hy:=hb.pos
 have hu:=hc.pos
 have hv:=hd.pos
 unfold penumbraref03_Add.f
 refine Ev.bind (rsign_f ha hb (by omega) (by omega) n) ?_
 by_cases h1 : x=0∨y=0
 ·rw [if_pos h1,qv_zero h1,Rat.zero_add]
  refine Ev_pos rfl ?_
  refine Ev.bind (rread_cq hc hd (by omega) (by omega) m) ?_
  exact Ev.now _
 have s1 : (if n=true then (-1 : Int) else 1)≠0:=by cases n <;> decide
 rw [if_neg h1]
 refine Ev_neg s1 ?_
 refine Ev.bind (rsign_f hc hd (by omega) (by omega) m) ?_
 by_cases h2 : u=0∨v=0
 ·rw [if_pos h2,qv_zero h2,Rat.add_zero]
  refine Ev_pos rfl ?_
  refine Ev.bind (rread_cq ha hb (by omega) (by omega) n) ?_
  exact Ev.now _
 have s2 : (if m=true then (-1 : Int) else 1)≠0:=by cases m <;> decide
 rw [if_neg h2]
 refine Ev_neg s2 ?_
 rw [plus_val (by omega) (by omega)]
 have p1:=ha.mulL hd
 have p2:=hc.mulL hb
 have p3:=hb.mulL hd
 refine Ev.bind (ha.rmul hd (by omega)) ?_
 refine Ev.bind (hc.rmul hb (by omega)) ?_
 refine Ev.bind (hb.rmul hd (by omega)) ?_
 by_cases h : n=m
 ·refine Ev_pos (by simpa using h) ?_
  rw [if_pos h]
  refine Ev.bind (p1.radd p2 (by omega) (by omega)) ?_
  refine Ev.bind (rread_cq (p1.sumL p2) p3 (by omega) (by omega) n) ?_
  exact Ev.now _
 ·refine Ev_neg (by simpa using h) ?_
  rw [if_neg h]
  refine Ev.bind (p1.rcmp p2 (by omega) (by omega)) ?_
  by_cases hl : x * v < u * y
  ·have e : cm (x * v) (u * y) = -1:=by unfold cm;rw [if_pos hl]
   rw [e,if_neg (by omega)]
   refine Ev_neg (by decide) ?_
   refine Ev.bind (p2.rsub p1 (by omega) (by omega)) ?_
   unfold subS
   rw [if_neg (by omega)]
   refine Ev.bind (rread_cq (Nm.L (n:=k+j) (by omega) (by have:=p2.lt;have:=p1.pos;omega)) p3 (by omega) (by omega) m) ?_
   exact Ev.now _
  ·have e : 0≤cm (x * v) (u * y):=by unfold cm;rw [if_neg hl];split <;> omega
   rw [if_pos (by omega)]
   refine Ev_pos e ?_
   refine Ev.bind (p1.rsub p2 (by omega) (by omega)) ?_
   unfold subS
   rw [if_neg hl]
   refine Ev.bind (rread_cq (Nm.L (n:=i+l) (by omega) (by have:=p1.lt;have:=p2.pos;omega)) p3 (by omega) (by omega) n) ?_
   exact Ev.now _
theorem add03 {m n : Nat} {x y : RatS} (hx : Wf m x) (hy : Wf n y) (hm : m < 10000000) (hn : n < 10000000) : Ev (fun k=>penumbraref03_Add.f k x.f0 x.f1 x.f2 y.f0 y.f1 y.f2) (cq (qOf x+qOf y)) :=
 add03_f hx.a hx.b hy.a hy.b (by omega) (by omega) (by omega) (by omega) x.f0 y.f0
theorem same01_l {a b : List Int} (hl : a.length=b.length) (ha : a.length < 4611686018427387904) : ∀ (d i : Nat),a.length - i=d→i≤a.length→(∀ j,j < i→a.getD j 0=b.getD j 0) →
  Ev (fun k=>penumbraref01_Same.l0 k a b (i : Int)) (a == b):=by
 intro d
 induction d with
 | zero =>
  intro i hd hi hj
  obtain rfl : i=a.length:=by omega
  refine Ev_up ?_
  simp only [penumbraref01_Same.l0]
  refine Ev_neg (by omega) ?_
  have e : a=b:=by
   apply List.ext_getElem hl
   intro j h1 h2
   have:=hj j h1
   rwa [List.getD_eq_getElem?_getD,List.getD_eq_getElem?_getD,List.getElem?_eq_getElem h1,List.getElem?_eq_getElem h2] at this
  rw [e,beq_self_eq_true]
  exact Ev.now _
 | succ d ih =>
  intro i hd hi hj
  have h1 : i < a.length:=by omega
  have r1 : rd a (i : Int)=a.getD i 0:=by unfold rd;rw [Int.toNat_natCast]
  have r2 : rd b (i : Int)=b.getD i 0:=by unfold rd;rw [Int.toNat_natCast]
  have g1 : (i : Int) < (a.length : Int):=by omega
  have g2 : 0≤(i : Int):=by omega
  have g3 : (i : Int) < (b.length : Int):=by omega
  have hw : wrap64 ((i : Int)+1)=((i+1 : Nat) : Int):=by clear ih hj;unfold wrap64;omega
  refine Ev_up ?_
  simp only [penumbraref01_Same.l0]
  refine Ev_pos g1 (Ev_pos g2 (Ev_pos g3 ?_))
  rw [r1,r2,hw]
  by_cases he : a.getD i 0=b.getD i 0
  ·refine Ev_pos he ?_
   exact ih (i+1) (by omega) (by omega) (fun j hj'=>by
    rcases Nat.lt_or_ge j i with h|h
    ·exact hj j h
    ·obtain rfl : j=i:=by omega
     exact he)
  ·refine Ev_neg he ?_
   rw [show (a == b)=false from beq_eq_false_iff_ne.mpr (fun e=>he (by rw [e]))]
   exact Ev.now _
theorem same01 {a b : List Int} (ha : a.length < 4611686018427387904) : Ev (fun k=>penumbraref01_Same.f k a b) (a == b):=by
 unfold penumbraref01_Same.f
 by_cases hl : a.length=b.length
 ·exact Ev_pos (by omega) (same01_l hl ha a.length 0 rfl (Nat.zero_le _) (fun j hj=>by omega))
 ·refine Ev_neg (by omega) ?_
  rw [show (a == b)=false from beq_eq_false_iff_ne.mpr (fun e=>hl (by rw [e]))]
  exact Ev.now _
theorem check03 {n : Nat} {x : RatS} (h : Wf n x) (hn : n < 10000000) : Ev (fun k=>penumbraref03_Check.f k x.f0 x.f1 x.f2) (chk x):=by
 have h1:=(h.sz).nums
 have e : ∀ (a b : Bool),(a == b)=(b == a):=fun a b=>by cases a <;> cases b <;> rfl
 have e2 : ∀ (a b : List Int),(a == b)=(b == a):=fun a b=>by
  by_cases h : a=b
  ·rw [h]
  ·rw [beq_eq_false_iff_ne.mpr h,beq_eq_false_iff_ne.mpr (fun e=>h e.symm)]
 unfold penumbraref03_Check.f chk
 refine Ev.bind (rread_cq h.a h.b (by omega) (by omega) x.f0) ?_
 have l1 : (cq (qOf x)).2.1.length < 4611686018427387904:=by have:=h1.1.le;unfold cq;dsimp only;omega
 have l2 : (cq (qOf x)).2.2.length < 4611686018427387904:=by have:=h1.2.le;unfold cq;dsimp only;omega
 have his : Ev (fun k=>penumbraref03_Is.f k (cq (qOf x)).1 (cq (qOf x)).2.1 (cq (qOf x)).2.2 x.f0 x.f1 x.f2) ((x.f0 == (cq (qOf x)).1) && (x.f1 == (cq (qOf x)).2.1) && (x.f2 == (cq (qOf x)).2.2)):=by
  unfold penumbraref03_Is.f
  rw [e x.f0,e2 x.f1,e2 x.f2]
  cases hb : (cq (qOf x)).1 == x.f0
  ·exact Ev_neg (by simp) (Ev.now _)
  ·refine Ev_pos rfl ?_
   refine Ev.bind (same01 l1) ?_
   cases hb2 : (cq (qOf x)).2.1 == x.f1
   ·exact Ev_neg (by simp) (Ev.now _)
   ·refine Ev_pos rfl ?_
    refine Ev.bind (same01 l2) ?_
    exact Ev.now _
 refine Ev.bind his ?_
 exact Ev.now _
end Go.Proofs.Ytjiaobcoeegioaa.N
end
section
namespace Go.Proofs.Ytjiaobcoeegioaa.Pq
open Go.RowKit Go.Proofs.YtjiaobcoeegioaaW.PrintWords Go.Proofs.YtjiaobcoeegioaaW.PrintLast Go.Proofs.YtjiaobcoeegioaaW.PrintMore
attribute [local go_sem] max2_int min2_int max_two min_two max_three min_three max_four min_four
set_option linter.unusedVariables false
set_option linter.unusedSimpArgs false
set_option maxHeartbeats 8000000
set_option maxRecDepth 100000
theorem penumbraref20_Sizes.calls (a0 : Int) (a1 : Int) (a2 : Int) (r : Bool) (w : World) (h : penumbraref20_Sizes.f a0 a1 a2=some r) :
  Calls Try.prog 35 #[.int .i64 a0,.int .i64 a1,.int .i64 a2] w fun e w'=>e=.returned (.bool r)∧Drawn0 w w':=by
 have H : (if a0 ≥ 1 then (if a0≤16 then (if a1 ≥ 1 then (if a1≤16 then (if a2 ≥ 1 then (some (decide (a2≤8))) else (some false)) else (some false)) else (some false)) else (some false)) else (some false))=some r:=h
 clear h
 by_cases c4 : a0 ≥ 1
 ·rw [if_pos c4] at H
  have c4b0 : decide (1≤a0)=true:=decide_eq_true c4
  clear c4
  by_cases c5 : a0≤16
  ·rw [if_pos c5] at H
   have c5b0 : decide (a0≤16)=true:=decide_eq_true c5
   clear c5
   by_cases c6 : a1 ≥ 1
   ·rw [if_pos c6] at H
    have c6b0 : decide (1≤a1)=true:=decide_eq_true c6
    clear c6
    by_cases c7 : a1≤16
    ·rw [if_pos c7] at H
     have c7b0 : decide (a1≤16)=true:=decide_eq_true c7
     clear c7
     by_cases c8 : a2 ≥ 1
     ·rw [if_pos c8] at H
      have c8b0 : decide (1≤a2)=true:=decide_eq_true c8
      clear c8
      obtain rfl:=Option.some.inj H
      go_enter Try.func35,Try.ntmps35
      go_wp2
      go_ret
      exact ⟨sD,by repeat (first|exact Drawn0.refl _|apply Drawn0.step)⟩
     ·rw [if_neg c8] at H
      have c8b0 : decide (1≤a2)=false:=decide_eq_false c8
      clear c8
      obtain rfl:=Option.some.inj H
      go_enter Try.func35,Try.ntmps35
      go_wp2
      go_ret
      exact ⟨sD,by repeat (first|exact Drawn0.refl _|apply Drawn0.step)⟩
    ·rw [if_neg c7] at H
     have c7b0 : decide (a1≤16)=false:=decide_eq_false c7
     clear c7
     obtain rfl:=Option.some.inj H
     go_enter Try.func35,Try.ntmps35
     go_wp2
     go_ret
     exact ⟨sD,by repeat (first|exact Drawn0.refl _|apply Drawn0.step)⟩
   ·rw [if_neg c6] at H
    have c6b0 : decide (1≤a1)=false:=decide_eq_false c6
    clear c6
    obtain rfl:=Option.some.inj H
    go_enter Try.func35,Try.ntmps35
    go_wp2
    go_ret
    exact ⟨sD,by repeat (first|exact Drawn0.refl _|apply Drawn0.step)⟩
  ·rw [if_neg c5] at H
   have c5b0 : decide (a0≤16)=false:=decide_eq_false c5
   clear c5
   obtain rfl:=Option.some.inj H
   go_enter Try.func35,Try.ntmps35
   go_wp2
   go_ret
   exact ⟨sD,by repeat (first|exact Drawn0.refl _|apply Drawn0.step)⟩
 ·rw [if_neg c4] at H
  have c4b0 : decide (1≤a0)=false:=decide_eq_false c4
  clear c4
  obtain rfl:=Option.some.inj H
  go_enter Try.func35,Try.ntmps35
  go_wp2
  go_ret
  exact ⟨sD,by repeat (first|exact Drawn0.refl _|apply Drawn0.step)⟩
theorem penumbraref20_Check.calls (k : Nat) (a0_0 : Int) (a0_1 : Int) (a0_2 : Int) (A0_3 : Option Addr) (c0_3 : Nat) (l0_3 : List (S63)) (A0_4 : Option Addr) (c0_4 : Nat) (l0_4 : List (S63)) (r : Bool) (w : World) (hr0_3 : Kd.C k63 w A0_3 l0_3.length l0_3) (hc0_3 : l0_3.length≤c0_3) (hr0_4 : Kd.C k63 w A0_4 l0_4.length l0_4) (hc0_4 : l0_4.length≤c0_4) (h : penumbraref20_Check.f k a0_0 a0_1 a0_2 l0_3 l0_4=some r) :
  Calls Try.prog 38 #[.agg #[.int .i64 a0_0,.int .i64 a0_1,.int .i64 a0_2,.slice A0_3 l0_3.length c0_3,.slice A0_4 l0_4.length c0_4]] w fun e w'=>e=.returned (.bool r)∧Below w.heap.size w w':=by
 have hu27:=Try.underlying27
 have hu63:=Try.underlying63
 have HR0_3:=Aside0.mk hr0_3
 have HC0_3:=Aside0.mk hc0_3
 clear hr0_3 hc0_3
 have HR0_4:=Aside0.mk hr0_4
 have HC0_4:=Aside0.mk hc0_4
 clear hr0_4 hc0_4
 have HB:=Aside0.mk (Below.refl w.heap.size w)
 have H : ((penumbraref20_Sizes.f a0_0 a0_1 a0_2).bind fun t687=>(if t687=true then (if (l0_3.length : Int)=(wrap64 ((wrap64 (a0_0 * a0_1)) * a0_2)) then (penumbraref20_Check.j0 k ((l0_4.length : Int) != (l0_3.length : Int)) a0_0 a0_1 a0_2 l0_3 l0_4) else (penumbraref20_Check.j0 k true a0_0 a0_1 a0_2 l0_3 l0_4)) else (penumbraref20_Check.j0 k true a0_0 a0_1 a0_2 l0_3 l0_4)))=some r:=h
 clear h
 have HC2:=Aside0.mk H
 clear H
 go_enter Try.func38,Try.ntmps38
 go_upto_region 1 with (first|((with_reducible refine gate_dst (N:=1) rfl ?_);(try (refine gate_guard (by rfl) ?_;dsimp only));refine boxA #[.int .i64 a0_0,.int .i64 a0_1,.int .i64 a0_2,.slice A0_3 l0_3.length c0_3,.slice A0_4 l0_4.length c0_4] 27 ?_;intro gb686 hg w3 hbox hb;have BK686:=Aside0.mk hbox;have GW686:=Aside0.mk ((by rw [hg];exact (below_size (bL HB.out)) : w.heap.size≤gb686));have GE686:=Aside0.mk ((by rw [hg];exact (below_size (bL HB.out)) : w.heap.size≤gb686));replace HB:=Aside0.mk (below_step (bL HB.out) hb);clear hb hbox hg))
 (try simp only [Act.put,s0,s1,s2])
 go_cut [34] (fun v34 wc=>∃ (kq : Nat) (x34_1 : Bool),v34=.bool x34_1∧Aside0 (penumbraref20_Check.j0 kq x34_1 a0_0 a0_1 a0_2 l0_3 l0_4=some r)∧Aside0 (kq≤k)∧Aside0 (wc.heap[gb686]? = some (.cells #[.int .i64 a0_0,.int .i64 a0_1,.int .i64 a0_2,(.slice A0_3 l0_3.length c0_3),(.slice A0_4 l0_4.length c0_4)] 27 (0,0)))∧Aside0 (Below w.heap.size w wc))
 case first =>
  have H:=HC2.out
  clear HC2
  refine biT H ?_;clear H;intro t687 A4 H
  try dsimp only at H
  replace A4:=Aside0.mk A4
  by_cases c5 : t687=true
  ·subst c5
   rw [if_pos rfl] at H
   by_cases c6 : (l0_3.length : Int)=(wrap64 ((wrap64 (a0_0 * a0_1)) * a0_2))
   ·rw [if_pos c6] at H
    have c6b0 : ((l0_3.length : Int) == (wrap64 ((wrap64 (a0_0 * a0_1)) * a0_2)))=true:=beq_iff_eq.mpr c6
    have c6b1 : ((l0_3.length : Int) != (wrap64 ((wrap64 (a0_0 * a0_1)) * a0_2)))=false:=bne_eq_false_iff_eq.mpr c6
    clear c6
    (first|rw [c6b0]|(simp only [i64_w,i32_w];rw [c6b0])|skip)
    have H':=Aside0.mk H
    clear H
    obtain ⟨hcz7_0,hcz7_1,hcz7_2,hcz7_3,hcz7_4⟩:=cl5 BK686.out
    obtain ⟨hfz7_0,hfz7_1,hfz7_2,hfz7_3,hfz7_4⟩:=fr5 BK686.out
    go_wp2_with (first|((with_reducible refine gate_callee (f:=35) rfl ?_);refine gL (some 10) Try.func35 #[.int .i64 a0_0,.int .i64 a0_1,.int .i64 a0_2] ?_;(with_reducible refine (penumbraref20_Sizes.calls a0_0 a0_1 a0_2 true _ A4.out).mono ?_);rintro e w' ⟨rfl,⟨nd,rfl⟩⟩;refine ⟨_,rfl,?_⟩))
    go_meet
    case rel=>exact ⟨_,(((l0_4.length : Int) != (l0_3.length : Int))),sD,H',⟨by first|omega|exact Nat.le_refl _⟩,⟨Bu BK686.out⟩,⟨bL HB.out⟩⟩
   ·rw [if_neg c6] at H
    have c6b0 : ((l0_3.length : Int) == (wrap64 ((wrap64 (a0_0 * a0_1)) * a0_2)))=false:=beq_eq_false_iff_ne.mpr c6
    have c6b1 : ((l0_3.length : Int) != (wrap64 ((wrap64 (a0_0 * a0_1)) * a0_2)))=true:=bne_iff_ne.mpr c6
    (first|rw [c6b0]|(simp only [i64_w,i32_w];rw [c6b0])|skip)
    have H':=Aside0.mk H
    clear H
    obtain ⟨hcz8_0,hcz8_1,hcz8_2,hcz8_3,hcz8_4⟩:=cl5 BK686.out
    obtain ⟨hfz8_0,hfz8_1,hfz8_2,hfz8_3,hfz8_4⟩:=fr5 BK686.out
    go_wp2_with (first|((with_reducible refine gate_callee (f:=35) rfl ?_);refine gL (some 10) Try.func35 #[.int .i64 a0_0,.int .i64 a0_1,.int .i64 a0_2] ?_;(with_reducible refine (penumbraref20_Sizes.calls a0_0 a0_1 a0_2 true _ A4.out).mono ?_);rintro e w' ⟨rfl,⟨nd,rfl⟩⟩;refine ⟨_,rfl,?_⟩))
    go_meet
    case rel=>exact ⟨_,(true),sD,H',⟨by first|omega|exact Nat.le_refl _⟩,⟨Bu BK686.out⟩,⟨bL HB.out⟩⟩
  ·replace c5:=Bool.eq_false_iff.mpr c5
   subst c5
   rw [if_neg (show ¬ (false=true) by decide)] at H
   have H':=Aside0.mk H
   clear H
   obtain ⟨hcz9_0,hcz9_1,hcz9_2,hcz9_3,hcz9_4⟩:=cl5 BK686.out
   obtain ⟨hfz9_0,hfz9_1,hfz9_2,hfz9_3,hfz9_4⟩:=fr5 BK686.out
   go_wp2_with (first|((with_reducible refine gate_callee (f:=35) rfl ?_);refine gL (some 10) Try.func35 #[.int .i64 a0_0,.int .i64 a0_1,.int .i64 a0_2] ?_;(with_reducible refine (penumbraref20_Sizes.calls a0_0 a0_1 a0_2 false _ A4.out).mono ?_);rintro e w' ⟨rfl,⟨nd,rfl⟩⟩;refine ⟨_,rfl,?_⟩))
   go_meet
   case rel=>exact ⟨_,(true),sD,H',⟨by first|omega|exact Nat.le_refl _⟩,⟨Bu BK686.out⟩,⟨bL HB.out⟩⟩
 case rest =>
  clear HC2
  obtain ⟨kq,x34_1,rfl,HA,HJ1,BK686,HB⟩:=hcut
  cases kq with
  | zero=>exact absurd HA.out (by simp [penumbraref20_Check.j0])
  | succ kj1 =>
   have H:=HA.out
   clear HA
   simp only [penumbraref20_Check.j0] at H
   by_cases c10 : x34_1=true
   ·subst c10
    rw [if_pos rfl] at H
    obtain rfl:=Option.some.inj H
    go_wp2
    go_ret
    exact ⟨eW,bL HB.out⟩
   ·replace c10:=Bool.eq_false_iff.mpr c10
    subst c10
    rw [if_neg (show ¬ (false=true) by decide)] at H
    have H':=Aside0.mk H
    clear H
    go_wp2
    go_loopg [3] kj1 (fun kq v3 w'=>∃ (x3_2 : Int),v3=.int .i64 x3_2∧Aside0 (penumbraref20_Check.l0 kq x3_2 a0_0 a0_1 a0_2 l0_3 l0_4=some r)∧Aside0 (kq≤kj1)∧Aside0 (w'.heap[gb686]? = some (.cells #[.int .i64 a0_0,.int .i64 a0_1,.int .i64 a0_2,(.slice A0_3 l0_3.length c0_3),(.slice A0_4 l0_4.length c0_4)] 27 (0,0)))∧Aside0 (Below w.heap.size w w'))
    case atStart=>exact ⟨(0),sD,H',⟨Nat.le_refl _⟩,⟨Bu BK686.out⟩,⟨bL HB.out⟩⟩
    case round =>
     clear H'
     obtain ⟨x3_2,rfl,HA,HK2,BK686,HB⟩:=hrel
     cases gk with
     | zero=>exact absurd HA.out (by simp [penumbraref20_Check.l0])
     | succ k2 =>
      have H:=HA.out
      clear HA
      simp only [penumbraref20_Check.l0] at H
      by_cases c11 : x3_2 < (l0_3.length : Int)
      ·rw [if_pos c11] at H
       have c11b0 : decide (x3_2 < (l0_3.length : Int))=true:=decide_eq_true c11
       clear c11
       refine ifT H ?_;clear H;intro c12 H
       have c12b0 : decide (0≤x3_2)=true:=decide_eq_true c12
       clear c12
       refine biT H ?_;clear H;intro t689 A13 H
       try dsimp only at H
       replace A13:=Aside0.mk A13
       by_cases c14 : t689=true
       ·subst c14
        rw [if_pos rfl] at H
        refine ifT H ?_;clear H;intro c15 H
        have c15b0 : decide (x3_2 < (l0_4.length : Int))=true:=decide_eq_true c15
        clear c15
        refine biT H ?_;clear H;intro t691 A16 H
        try dsimp only at H
        replace A16:=Aside0.mk A16
        by_cases c17 : t691=true
        ·subst c17
         rw [if_pos rfl] at H
         have H':=Aside0.mk H
         clear H
         obtain ⟨hcz18_0,hcz18_1,hcz18_2,hcz18_3,hcz18_4⟩:=cl5 BK686.out
         obtain ⟨hfz18_0,hfz18_1,hfz18_2,hfz18_3,hfz18_4⟩:=fr5 BK686.out
         have p688 : 0≤(x3_2 : Int):=oA
         have q688 : x3_2 < (l0_3.length : Int):=oA
         obtain ⟨ad688,A688_1,c688_1,A688_2,c688_2,e688,hx688_0,hx688_1,hx688_2,hl688_1,hi688_1,hl688_2,hi688_2⟩:=at_T63 HR0_3.out x3_2 p688 q688
         cases e688
         replace hx688_0:=(HB.out.cell (World.block_lt_of_cell? w _ hx688_0)).trans hx688_0
         replace hx688_1:=(HB.out.cell (World.block_lt_of_cell? w _ hx688_1)).trans hx688_1
         replace hx688_2:=(HB.out.cell (World.block_lt_of_cell? w _ hx688_2)).trans hx688_2
         have HR688_1:=Aside0.mk hi688_1
         have HC688_1:=Aside0.mk hl688_1
         clear hi688_1 hl688_1
         have HR688_2:=Aside0.mk hi688_2
         have HC688_2:=Aside0.mk hl688_2
         clear hi688_2 hl688_2
         replace p688:=eq_true p688
         replace q688:=eq_true q688
         go_wp2_with (first|((with_reducible refine gate_callee (f:=49) rfl ?_);refine gL (some 47) Try.func49 #[.agg #[.bool ((rd_T63 l0_3 x3_2).f0),.slice A688_1 ((rd_T63 l0_3 x3_2).f1).length c688_1,.slice A688_2 ((rd_T63 l0_3 x3_2).f2).length c688_2]] ?_;(with_reducible refine (penumbraref03_Check.calls k2 ((rd_T63 l0_3 x3_2).f0) _ _ ((rd_T63 l0_3 x3_2).f1) _ _ ((rd_T63 l0_3 x3_2).f2) true _ ?side1 ?side2 ?side3 ?side4 A13.out).mono ?_);(case side1=>exact Cu (Kd.C_below HR688_1.out HB.out));(case side2=>exact HC688_1.out);(case side3=>exact Cu (Kd.C_below HR688_2.out HB.out));(case side4=>exact HC688_2.out);rintro e w19 ⟨rfl,hb⟩;refine ⟨_,rfl,?_⟩;replace BK686:=Aside0.mk (blk_below (Bu BK686.out) hb);replace HB:=Aside0.mk (below_step (bL HB.out) hb);obtain ⟨hcz20_0,hcz20_1,hcz20_2,hcz20_3,hcz20_4⟩:=cl5 BK686.out;obtain ⟨hfz20_0,hfz20_1,hfz20_2,hfz20_3,hfz20_4⟩:=fr5 BK686.out;have p690 : 0≤(x3_2 : Int):=oA;have q690 : x3_2 < (l0_4.length : Int):=oA;obtain ⟨ad690,A690_1,c690_1,A690_2,c690_2,e690,hx690_0,hx690_1,hx690_2,hl690_1,hi690_1,hl690_2,hi690_2⟩:=at_T63 HR0_4.out x3_2 p690 q690;cases e690;replace hx690_0:=(HB.out.cell (World.block_lt_of_cell? w _ hx690_0)).trans hx690_0;replace hx690_1:=(HB.out.cell (World.block_lt_of_cell? w _ hx690_1)).trans hx690_1;replace hx690_2:=(HB.out.cell (World.block_lt_of_cell? w _ hx690_2)).trans hx690_2;have HR690_1:=Aside0.mk hi690_1;have HC690_1:=Aside0.mk hl690_1;clear hi690_1 hl690_1;have HR690_2:=Aside0.mk hi690_2;have HC690_2:=Aside0.mk hl690_2;clear hi690_2 hl690_2;replace p690:=eq_true p690;replace q690:=eq_true q690)|(go_at_call 49;(with_reducible refine (penumbraref03_Check.calls k2 ((rd_T63 l0_4 x3_2).f0) _ _ ((rd_T63 l0_4 x3_2).f1) _ _ ((rd_T63 l0_4 x3_2).f2) true _ ?side1 ?side2 ?side3 ?side4 A16.out).mono ?_);(case side1=>exact Cu (Kd.C_below HR690_1.out HB.out));(case side2=>exact HC690_1.out);(case side3=>exact Cu (Kd.C_below HR690_2.out HB.out));(case side4=>exact HC690_2.out);rintro e w21 ⟨rfl,hb⟩;replace BK686:=Aside0.mk (blk_below (Bu BK686.out) hb);replace HB:=Aside0.mk (below_step (bL HB.out) hb)))
         go_roundg k2
         case measure=>have:=HJ1.out;have:=HK2.out;omega
         case rel=>exact ⟨(wrap64 (x3_2+1)),sD,H',⟨by have:=HJ1.out;have:=HK2.out;omega⟩,⟨Bu BK686.out⟩,⟨bL HB.out⟩⟩
        ·replace c17:=Bool.eq_false_iff.mpr c17
         subst c17
         rw [if_neg (show ¬ (false=true) by decide)] at H
         obtain rfl:=Option.some.inj H
         obtain ⟨hcz22_0,hcz22_1,hcz22_2,hcz22_3,hcz22_4⟩:=cl5 BK686.out
         obtain ⟨hfz22_0,hfz22_1,hfz22_2,hfz22_3,hfz22_4⟩:=fr5 BK686.out
         have p688 : 0≤(x3_2 : Int):=oA
         have q688 : x3_2 < (l0_3.length : Int):=oA
         obtain ⟨ad688,A688_1,c688_1,A688_2,c688_2,e688,hx688_0,hx688_1,hx688_2,hl688_1,hi688_1,hl688_2,hi688_2⟩:=at_T63 HR0_3.out x3_2 p688 q688
         cases e688
         replace hx688_0:=(HB.out.cell (World.block_lt_of_cell? w _ hx688_0)).trans hx688_0
         replace hx688_1:=(HB.out.cell (World.block_lt_of_cell? w _ hx688_1)).trans hx688_1
         replace hx688_2:=(HB.out.cell (World.block_lt_of_cell? w _ hx688_2)).trans hx688_2
         have HR688_1:=Aside0.mk hi688_1
         have HC688_1:=Aside0.mk hl688_1
         clear hi688_1 hl688_1
         have HR688_2:=Aside0.mk hi688_2
         have HC688_2:=Aside0.mk hl688_2
         clear hi688_2 hl688_2
         replace p688:=eq_true p688
         replace q688:=eq_true q688
         go_wp2_with (first|((with_reducible refine gate_callee (f:=49) rfl ?_);refine gL (some 47) Try.func49 #[.agg #[.bool ((rd_T63 l0_3 x3_2).f0),.slice A688_1 ((rd_T63 l0_3 x3_2).f1).length c688_1,.slice A688_2 ((rd_T63 l0_3 x3_2).f2).length c688_2]] ?_;(with_reducible refine (penumbraref03_Check.calls k2 ((rd_T63 l0_3 x3_2).f0) _ _ ((rd_T63 l0_3 x3_2).f1) _ _ ((rd_T63 l0_3 x3_2).f2) true _ ?side1 ?side2 ?side3 ?side4 A13.out).mono ?_);(case side1=>exact Cu (Kd.C_below HR688_1.out HB.out));(case side2=>exact HC688_1.out);(case side3=>exact Cu (Kd.C_below HR688_2.out HB.out));(case side4=>exact HC688_2.out);rintro e w23 ⟨rfl,hb⟩;refine ⟨_,rfl,?_⟩;replace BK686:=Aside0.mk (blk_below (Bu BK686.out) hb);replace HB:=Aside0.mk (below_step (bL HB.out) hb);obtain ⟨hcz24_0,hcz24_1,hcz24_2,hcz24_3,hcz24_4⟩:=cl5 BK686.out;obtain ⟨hfz24_0,hfz24_1,hfz24_2,hfz24_3,hfz24_4⟩:=fr5 BK686.out;have p690 : 0≤(x3_2 : Int):=oA;have q690 : x3_2 < (l0_4.length : Int):=oA;obtain ⟨ad690,A690_1,c690_1,A690_2,c690_2,e690,hx690_0,hx690_1,hx690_2,hl690_1,hi690_1,hl690_2,hi690_2⟩:=at_T63 HR0_4.out x3_2 p690 q690;cases e690;replace hx690_0:=(HB.out.cell (World.block_lt_of_cell? w _ hx690_0)).trans hx690_0;replace hx690_1:=(HB.out.cell (World.block_lt_of_cell? w _ hx690_1)).trans hx690_1;replace hx690_2:=(HB.out.cell (World.block_lt_of_cell? w _ hx690_2)).trans hx690_2;have HR690_1:=Aside0.mk hi690_1;have HC690_1:=Aside0.mk hl690_1;clear hi690_1 hl690_1;have HR690_2:=Aside0.mk hi690_2;have HC690_2:=Aside0.mk hl690_2;clear hi690_2 hl690_2;replace p690:=eq_true p690;replace q690:=eq_true q690)|(go_at_call 49;(with_reducible refine (penumbraref03_Check.calls k2 ((rd_T63 l0_4 x3_2).f0) _ _ ((rd_T63 l0_4 x3_2).f1) _ _ ((rd_T63 l0_4 x3_2).f2) false _ ?side1 ?side2 ?side3 ?side4 A16.out).mono ?_);(case side1=>exact Cu (Kd.C_below HR690_1.out HB.out));(case side2=>exact HC690_1.out);(case side3=>exact Cu (Kd.C_below HR690_2.out HB.out));(case side4=>exact HC690_2.out);rintro e w25 ⟨rfl,hb⟩;replace BK686:=Aside0.mk (blk_below (Bu BK686.out) hb);replace HB:=Aside0.mk (below_step (bL HB.out) hb)))
         go_ret
         exact ⟨eW,bL HB.out⟩
       ·replace c14:=Bool.eq_false_iff.mpr c14
        subst c14
        rw [if_neg (show ¬ (false=true) by decide)] at H
        obtain rfl:=Option.some.inj H
        obtain ⟨hcz26_0,hcz26_1,hcz26_2,hcz26_3,hcz26_4⟩:=cl5 BK686.out
        obtain ⟨hfz26_0,hfz26_1,hfz26_2,hfz26_3,hfz26_4⟩:=fr5 BK686.out
        have p688 : 0≤(x3_2 : Int):=oA
        have q688 : x3_2 < (l0_3.length : Int):=oA
        obtain ⟨ad688,A688_1,c688_1,A688_2,c688_2,e688,hx688_0,hx688_1,hx688_2,hl688_1,hi688_1,hl688_2,hi688_2⟩:=at_T63 HR0_3.out x3_2 p688 q688
        cases e688
        replace hx688_0:=(HB.out.cell (World.block_lt_of_cell? w _ hx688_0)).trans hx688_0
        replace hx688_1:=(HB.out.cell (World.block_lt_of_cell? w _ hx688_1)).trans hx688_1
        replace hx688_2:=(HB.out.cell (World.block_lt_of_cell? w _ hx688_2)).trans hx688_2
        have HR688_1:=Aside0.mk hi688_1
        have HC688_1:=Aside0.mk hl688_1
        clear hi688_1 hl688_1
        have HR688_2:=Aside0.mk hi688_2
        have HC688_2:=Aside0.mk hl688_2
        clear hi688_2 hl688_2
        replace p688:=eq_true p688
        replace q688:=eq_true q688
        go_wp2_with (first|((with_reducible refine gate_callee (f:=49) rfl ?_);refine gL (some 47) Try.func49 #[.agg #[.bool ((rd_T63 l0_3 x3_2).f0),.slice A688_1 ((rd_T63 l0_3 x3_2).f1).length c688_1,.slice A688_2 ((rd_T63 l0_3 x3_2).f2).length c688_2]] ?_;(with_reducible refine (penumbraref03_Check.calls k2 ((rd_T63 l0_3 x3_2).f0) _ _ ((rd_T63 l0_3 x3_2).f1) _ _ ((rd_T63 l0_3 x3_2).f2) false _ ?side1 ?side2 ?side3 ?side4 A13.out).mono ?_);(case side1=>exact Cu (Kd.C_below HR688_1.out HB.out));(case side2=>exact HC688_1.out);(case side3=>exact Cu (Kd.C_below HR688_2.out HB.out));(case side4=>exact HC688_2.out);rintro e w27 ⟨rfl,hb⟩;refine ⟨_,rfl,?_⟩;replace BK686:=Aside0.mk (blk_below (Bu BK686.out) hb);replace HB:=Aside0.mk (below_step (bL HB.out) hb)))
        go_ret
        exact ⟨eW,bL HB.out⟩
      ·rw [if_neg c11] at H
       have c11b0 : decide (x3_2 < (l0_3.length : Int))=false:=decide_eq_false c11
       clear c11
       obtain rfl:=Option.some.inj H
       obtain ⟨hcz28_0,hcz28_1,hcz28_2,hcz28_3,hcz28_4⟩:=cl5 BK686.out
       obtain ⟨hfz28_0,hfz28_1,hfz28_2,hfz28_3,hfz28_4⟩:=fr5 BK686.out
       go_wp2
       go_ret
       exact ⟨eW,bL HB.out⟩
theorem penumbraref20_New.calls (k : Nat) (a0 : Int) (a1 : Int) (a2 : Int) (r1 : Int) (r2 : Int) (r3 : Int) (r4 : List (S63)) (r5 : List (S63)) (r6 : Bool) (w : World) (h : penumbraref20_New.f k a0 a1 a2=some (r1,r2,r3,r4,r5,r6)) :
  Calls Try.prog 20 #[.int .i64 a0,.int .i64 a1,.int .i64 a2] w fun e w'=>∃ v3_ v4_ : Value,e=.returned (.tuple #[.agg #[.int .i64 r1,.int .i64 r2,.int .i64 r3,v3_,v4_],.bool r6])∧Kd.S k63 63 w' w.heap.size (fun k_=>some k_≠(v4_ : Value).ownBlock) v3_ r4∧Kd.S k63 63 w' w.heap.size (fun k_=>some k_≠(v3_ : Value).ownBlock) v4_ r5∧Below w.heap.size w w':=by
 have hu27:=Try.underlying27
 have HB:=Aside0.mk (Below.refl w.heap.size w)
 have H : ((penumbraref20_Sizes.f a0 a1 a2).bind fun t489=>(if t489=true then (penumbraref20_New.l0 k a0 a1 a2 0 a0 a1 a2 ([] : List (S63)) ([] : List (S63))) else (some (0,0,0,([] : List (S63)),([] : List (S63)),false))))=some (r1,r2,r3,r4,r5,r6):=h
 clear h
 refine biT H ?_;clear H;intro t489 A4 H
 try dsimp only at H
 replace A4:=Aside0.mk A4
 by_cases c5 : t489=true
 ·subst c5
  rw [if_pos rfl] at H
  have H':=Aside0.mk H
  clear H
  go_enter Try.func20,Try.ntmps20
  go_wp2_with (first|((with_reducible refine gate_dst (N:=6) rfl ?_);refine boxA #[.int .i64 0,.int .i64 0,.int .i64 0,.slice none 0 0,.slice none 0 0] 27 ?_;intro gb488 hg w6 hbox hb;have BK488:=Aside0.mk hbox;have GW488:=Aside0.mk ((by rw [hg];exact (below_size (bL HB.out)) : w.heap.size≤gb488));have GE488:=Aside0.mk ((by rw [hg];exact (below_size (bL HB.out)) : w.heap.size≤gb488));replace HB:=Aside0.mk (below_step (bL HB.out) hb);clear hb hbox hg)|((with_reducible refine gate_callee (f:=35) rfl ?_);refine gL (some 13) Try.func35 #[.int .i64 a0,.int .i64 a1,.int .i64 a2] ?_;(with_reducible refine (penumbraref20_Sizes.calls a0 a1 a2 true _ A4.out).mono ?_);rintro e w' ⟨rfl,⟨nd,rfl⟩⟩;refine ⟨_,rfl,?_⟩;(try (rw [drewN_self w6];generalize hq_ : World.drewN w6 _=w6;have n0_ : Aside0 (w6.heap[gb488]? = some (.cells #[.int .i64 0,.int .i64 0,.int .i64 0,.slice none 0 0,.slice none 0 0] 27 (0,0))):=⟨by rw [← hq_];exact (Bu BK488.out)⟩;have n1_ : Aside0 (Below w.heap.size w w6):=⟨by rw [← hq_];exact (bL HB.out)⟩;clear BK488 HB hq_;have BK488:=n0_;have HB:=n1_;clear n0_ n1_)))|((with_reducible refine gate_dst (N:=8) rfl ?_);refine boxA #[.int .i64 0,.int .i64 0,.int .i64 0,.slice none 0 0,.slice none 0 0] 27 ?_;intro gb490 hg w7 hbox hb;have BK490:=Aside0.mk hbox;have GW490:=Aside0.mk ((by rw [hg];exact (below_size (bL HB.out)) : w.heap.size≤gb490));have GE490:=Aside0.mk ((by rw [hg];exact (below_size (bL HB.out)) : w.heap.size≤gb490));replace HB:=Aside0.mk (below_step (bL HB.out) hb);have NB488_490:=Aside0.mk ((by rw [hg];exact Nat.ne_of_lt (blk_lt (Bu BK488.out)) : gb488≠gb490));have NB490_488:=Aside0.mk ((by rw [hg];exact Nat.ne_of_gt (blk_lt (Bu BK488.out)) : gb490≠gb488));replace BK488:=Aside0.mk (blk_below (Bu BK488.out) hb);clear hb hbox hg;have hnb8:=NB490_488.out;have hnc8:=NB488_490.out;obtain ⟨hcz9_0,hcz9_1,hcz9_2,hcz9_3,hcz9_4⟩:=cl5 BK490.out;obtain ⟨hfz9_0,hfz9_1,hfz9_2,hfz9_3,hfz9_4⟩:=fr5 BK490.out))
  go_loopg [9] k (fun kq v9 w'=>∃ (x9_1 : Int) (x491003_1 : List (S63)) (x491004_1 : List (S63)) (u491003 : Value) (u491004 : Value),v9=.int .i64 x9_1∧Aside0 (penumbraref20_New.l0 kq a0 a1 a2 x9_1 a0 a1 a2 x491003_1 x491004_1=some (r1,r2,r3,r4,r5,r6))∧Aside0 (kq≤k)∧Aside0 (Kd.S k63 63 w' w.heap.size (fun k_=>some k_≠(u491004 : Value).ownBlock) u491003 x491003_1)∧Aside0 (Kd.S k63 63 w' w.heap.size (fun k_=>some k_≠(u491003 : Value).ownBlock) u491004 x491004_1)∧Aside0 (w'.heap[gb488]? = some (.cells #[.int .i64 0,.int .i64 0,.int .i64 0,(.slice none 0 0),(.slice none 0 0)] 27 (0,0)))∧Aside0 (w'.heap[gb490]? = some (.cells #[.int .i64 a0,.int .i64 a1,.int .i64 a2,u491003,u491004] 27 (0,0)))∧Aside0 (Below w.heap.size w w'))
  case atStart=>exact ⟨(0),(([] : List (S63))),(([] : List (S63))),(.slice none 0 0),(.slice none 0 0),sD,H',⟨Nat.le_refl _⟩,⟨by first|exact Kd.S_nil _ _ _ _ _|exact Kd.N_nil _ _ _ _ _|exact Kd.V_nil _ _ _ _ _|exact Kd.Q_nil _ _ _ _ _|exact Kd.R_nil _ _ _ _ _⟩,⟨by first|exact Kd.S_nil _ _ _ _ _|exact Kd.N_nil _ _ _ _ _|exact Kd.V_nil _ _ _ _ _|exact Kd.Q_nil _ _ _ _ _|exact Kd.R_nil _ _ _ _ _⟩,⟨by (with_reducible repeat (first|refine blk_drewN ?_ _|refine blk_drew ?_|refine blk_alloc ?_ _));refine blk_far ?_ NB488_490.out _;(with_reducible repeat (first|refine blk_drewN ?_ _|refine blk_drew ?_|refine blk_alloc ?_ _));refine blk_far ?_ NB488_490.out _;(with_reducible repeat (first|refine blk_drewN ?_ _|refine blk_drew ?_|refine blk_alloc ?_ _));refine blk_far ?_ NB488_490.out _;(with_reducible repeat (first|refine blk_drewN ?_ _|refine blk_drew ?_|refine blk_alloc ?_ _));refine blk_far ?_ NB488_490.out _;(with_reducible repeat (first|refine blk_drewN ?_ _|refine blk_drew ?_|refine blk_alloc ?_ _));refine blk_far ?_ NB488_490.out _;(with_reducible repeat (first|refine blk_drewN ?_ _|refine blk_drew ?_|refine blk_alloc ?_ _));exact BK488.out⟩,⟨by (with_reducible repeat (first|refine blk_drewN ?_ _|refine blk_drew ?_|refine blk_alloc ?_ _));refine blk_put (cs:=#[.int .i64 a0,.int .i64 a1,.int .i64 a2,.slice none 0 0,.slice none 0 0]) ?_ 4 _ rfl;(with_reducible repeat (first|refine blk_drewN ?_ _|refine blk_drew ?_|refine blk_alloc ?_ _));refine blk_put (cs:=#[.int .i64 a0,.int .i64 a1,.int .i64 a2,.slice none 0 0,.slice none 0 0]) ?_ 3 _ rfl;(with_reducible repeat (first|refine blk_drewN ?_ _|refine blk_drew ?_|refine blk_alloc ?_ _));refine blk_put (cs:=#[.int .i64 a0,.int .i64 a1,.int .i64 0,.slice none 0 0,.slice none 0 0]) ?_ 2 _ rfl;(with_reducible repeat (first|refine blk_drewN ?_ _|refine blk_drew ?_|refine blk_alloc ?_ _));refine blk_put (cs:=#[.int .i64 a0,.int .i64 0,.int .i64 0,.slice none 0 0,.slice none 0 0]) ?_ 1 _ rfl;(with_reducible repeat (first|refine blk_drewN ?_ _|refine blk_drew ?_|refine blk_alloc ?_ _));refine blk_put (cs:=#[.int .i64 0,.int .i64 0,.int .i64 0,.slice none 0 0,.slice none 0 0]) ?_ 0 _ rfl;(with_reducible repeat (first|refine blk_drewN ?_ _|refine blk_drew ?_|refine blk_alloc ?_ _));exact BK490.out⟩,⟨bL HB.out⟩⟩
  case round =>
   clear H'
   obtain ⟨x9_1,x491003_1,x491004_1,u491003,u491004,rfl,HA,HK1,HO_491003,HO_491004,BK488,BK490,HB⟩:=hrel
   cases gk with
   | zero=>exact absurd HA.out (by simp [penumbraref20_New.l0])
   | succ k1 =>
    have H:=HA.out
    clear HA
    simp only [penumbraref20_New.l0] at H
    by_cases c10 : x9_1 < (wrap64 ((wrap64 (a0 * a1)) * a2))
    ·rw [if_pos c10] at H
     have c10b0 : decide (x9_1 < (wrap64 ((wrap64 (a0 * a1)) * a2)))=true:=decide_eq_true c10
     clear c10
     refine biT H ?_;clear H;rintro ⟨t491,t492,t495⟩ A11 H
     try dsimp only at H
     replace A11:=Aside0.mk A11
     refine ifT H ?_;clear H;intro c12 H
     have LMc12:=Aside0.mk c12
     clear c12
     obtain ⟨y498,hy498⟩ : ∃ y_ : List (S63),y_=(x491003_1++[(⟨t491,t492,t495⟩ : S63)]):=⟨_,rfl⟩
     replace H : ((penumbraref03_Zero.f).bind fun bt501=>(if x491004_1.length < 2513169434916 then (penumbraref20_New.l0 k1 a0 a1 a2 (wrap64 (x9_1+1)) a0 a1 a2 y498 (x491004_1++[(⟨bt501.1,bt501.2.1,bt501.2.2⟩ : S63)])) else (none)))=some (r1,r2,r3,r4,r5,r6):=by first|(rw [hy498];with_reducible exact H)|(have H2_:=(Option.bind_some _ _).symm.trans H;rw [hy498];with_reducible exact H2_)|(have H2_:=(Option.bind_some _ _).symm.trans H;with_reducible exact H2_)|with_reducible exact H|(rw [hy498];exact H)|exact H
     have Ny498:=Aside0.mk hy498
     clear hy498
     refine biT H ?_;clear H;rintro ⟨t501,t502,t505⟩ A13 H
     try dsimp only at H
     replace A13:=Aside0.mk A13
     refine ifT H ?_;clear H;intro c14 H
     have LMc14:=Aside0.mk c14
     clear c14
     obtain ⟨y508,hy508⟩ : ∃ y_ : List (S63),y_=(x491004_1++[(⟨t501,t502,t505⟩ : S63)]):=⟨_,rfl⟩
     replace H : (penumbraref20_New.l0 k1 a0 a1 a2 (wrap64 (x9_1+1)) a0 a1 a2 y498 y508)=some (r1,r2,r3,r4,r5,r6):=by first|(rw [hy508];with_reducible exact H)|(have H2_:=(Option.bind_some _ _).symm.trans H;rw [hy508];with_reducible exact H2_)|(have H2_:=(Option.bind_some _ _).symm.trans H;with_reducible exact H2_)|with_reducible exact H|(rw [hy508];exact H)|exact H
     have Ny508:=Aside0.mk hy508
     clear hy508
     have H':=Aside0.mk H
     clear H
     try go_wp2
     replace HO_491003:=Aside0.mk (Kd.S_drew HO_491003.out)
     replace HO_491004:=Aside0.mk (Kd.S_drew HO_491004.out)
     replace BK488:=Aside0.mk (blk_drew BK488.out)
     replace BK490:=Aside0.mk (blk_drew BK490.out)
     replace HB:=Aside0.mk (b1 HB.out)
     refine sT (n:=7) (S:=fun w'=>w'.cell? ⟨gb490,0,none⟩=some (.int .i64 a0)∧w'.cell? ⟨gb490,1,none⟩=some (.int .i64 a1)∧w'.cell? ⟨gb490,2,none⟩=some (.int .i64 a2)∧w'.cell? ⟨gb490,3,none⟩=some (u491003)∧w'.cell? ⟨gb490,4,none⟩=some (u491004)) (ds:=[6]) (by kernel_rfl) rfl (cl5 BK490.out) (fun hHeld=>?_)
     generalize wr.drew=w15 at HO_491003 HO_491004 BK488 BK490 HB hHeld ⊢
     refine pz 0 (some 29) rfl rfl ?_
     refine tz 1 (some 30) rfl rfl hHeld ?_
     refine oN 2 (some 31) rfl rfl fun K hK=>?_
     refine gS Try.func36 #[] ?_
     with_reducible refine (penumbraref03_Zero.calls  t491 t492 t495 _ A11.out).mono ?_
     rintro e w16 ⟨v493,v496,rfl,ho0,ho1,hb⟩
     refine ⟨_,rfl,?_⟩
     replace HO_491003:=Aside0.mk (Kd.S_mono (Kd.S_told (Kd.S_told (Kd.S_old (by (with_reducible repeat (first|apply Kd.S_alloc|apply Kd.S_drewN|apply Kd.S_drew));exact HO_491003.out) hb) (Kd.R_base ho0)) (Kd.R_base ho1)) (fun _ h_=>h_.1))
     replace HO_491004:=Aside0.mk (Kd.S_mono (Kd.S_told (Kd.S_told (Kd.S_old (by (with_reducible repeat (first|apply Kd.S_alloc|apply Kd.S_drewN|apply Kd.S_drew));exact HO_491004.out) hb) (Kd.R_base ho0)) (Kd.R_base ho1)) (fun _ h_=>h_.1))
     have HO494:=Aside0.mk (Kd.R_lower ho0 (below_size (bL HB.out)))
     have HO497:=Aside0.mk (Kd.R_lower ho1 (below_size (bL HB.out)))
     replace BK488:=Aside0.mk (blk_below (Bu BK488.out) hb)
     replace BK490:=Aside0.mk (blk_below (Bu BK490.out) hb)
     replace HB:=Aside0.mk (below_step (bL HB.out) hb)
     (try clear hb)
     (try clear hb2)
     (try clear hk)
     (try clear hi)
     (try clear ho0)
     (try clear ho1)
     obtain ⟨Ao18,co18,eo18⟩:=Kd.R_slice HO494.out
     (first|subst eo18|(injection eo18 with f1_ f2_ f3_;have f4_:=f1_.symm;have f5_:=f3_.symm;clear f1_ f2_ f3_;subst f4_;subst f5_))
     obtain ⟨Ao19,co19,eo19⟩:=Kd.R_slice HO497.out
     (first|subst eo19|(injection eo19 with f1_ f2_ f3_;have f4_:=f1_.symm;have f5_:=f3_.symm;clear f1_ f2_ f3_;subst f4_;subst f5_))
     refine hK.out _ _ (cl5 BK490.out) (fun hHeld=>?_)
     clear hK K
     refine nZ ?_
     refine oN 3 (some 32) rfl rfl fun K hK=>?_
     refine value_ (w1:=?_) (v:=?_) (by rfl) rfl ?_ ?_
     rotate_left 2
     ·go_simp
      constructor
      ·rfl
      ·rfl
     refine hK.out _ _ ⟨(blk_cell (blk_alloc BK490.out _) 0).trans rfl,(blk_cell (blk_alloc BK490.out _) 1).trans rfl,(blk_cell (blk_alloc BK490.out _) 2).trans rfl,(blk_cell (blk_alloc BK490.out _) 3).trans rfl,(blk_cell (blk_alloc BK490.out _) 4).trans rfl⟩ (fun hHeld=>?_)
     clear hK K
     refine nZ ?_
     refine oN 4 (some 33) rfl rfl fun K hK=>?_
     refine Kd.S_append_step k63 (w0:=w) w.heap.size (by rfl) (.tmp 30) (.tmp 32) 25 63 (.agg #[(.bool false),(.slice none 0 0),(.slice none 0 0)]) 56 rfl Try.underlying25 info63 rfl (by decide) (by omega) u491003 x491003_1 (⟨t491,t492,t495⟩ : S63) [.bool t491,.slice Ao18 t492.length co18,.slice Ao19 t495.length co19] (fun k_=>some k_≠(u491004 : Value).ownBlock) (fun k_=>some k_=(.slice Ao18 t492.length co18 : Value).ownBlock∨some k_=(.slice Ao19 t495.length co19 : Value).ownBlock) rfl rfl ?aP (fun k_ hk_=>hk_.elim (fun h_=>((Kd.R_mono (ok':=fun k_=>((fun k_=>some k_≠(u491004 : Value).ownBlock)) k_∧some k_≠(u491003 : Value).ownBlock) (Kd.R_apart' (Kd.R_apart' (HO494.out) (Kd.S_typed HO_491004.out) (by decide)) (Kd.S_typed HO_491003.out) (by decide)) (fun k_ hk=>⟨hk.1.2,hk.2⟩))).1 k_ h_.symm) (fun h_=>((Kd.R_mono (ok':=fun k_=>((fun k_=>some k_≠(u491004 : Value).ownBlock)) k_∧some k_≠(u491003 : Value).ownBlock) (Kd.R_apart' (Kd.R_apart' (HO497.out) (Kd.S_typed HO_491004.out) (by decide)) (Kd.S_typed HO_491003.out) (by decide)) (fun k_ hk=>⟨hk.1.2,hk.2⟩))).1 k_ h_.symm)) ?aF ?aO ?aB ?aS ?aL ?_
     (case aP=>exact k63_mkM _ _ _ (⟨t491,t492,t495⟩ : S63) (Kd.R_mono (Kd.R_tight rfl (Kd.R_mono (ok':=fun k_=>((fun k_=>some k_≠(u491004 : Value).ownBlock)) k_∧some k_≠(u491003 : Value).ownBlock) (Kd.R_apart' (Kd.R_apart' (HO494.out) (Kd.S_typed HO_491004.out) (by decide)) (Kd.S_typed HO_491003.out) (by decide)) (fun k_ hk=>⟨hk.1.2,hk.2⟩))) (fun _ h_=>Or.inl h_)) (Kd.R_mono (Kd.R_tight rfl (Kd.R_mono (ok':=fun k_=>((fun k_=>some k_≠(u491004 : Value).ownBlock)) k_∧some k_≠(u491003 : Value).ownBlock) (Kd.R_apart' (Kd.R_apart' (HO497.out) (Kd.S_typed HO_491004.out) (by decide)) (Kd.S_typed HO_491003.out) (by decide)) (fun k_ hk=>⟨hk.1.2,hk.2⟩))) (fun _ h_=>Or.inr (h_))))
     (case aB=>exact (bL HB.out))
     (case aF=>exact (fun k_ hk=>Kd.fresh' (Kd.S_lt (by (with_reducible repeat (first|apply Kd.S_alloc|apply Kd.S_drewN|apply Kd.S_drew));exact HO_491004.out)) k_ hk))
     (case aO=>exact (by (with_reducible repeat (first|apply Kd.S_alloc|apply Kd.S_drewN|apply Kd.S_drew));exact Kd.S_mono HO_491003.out (fun k_ hk=>⟨hk.1.1,fun e_=>e_.elim (fun h_=>hk.1.2 h_) (fun h_=>hk.2 h_)⟩)))
     (case aS=>exact (below_size (bL HB.out)))
     (case aL=>have:=LMc12.out;omega)
     intro v499 w17 ho hb hg hat
     rw [← Ny498.out] at ho
     replace HO_491004:=Aside0.mk (Kd.S_after (ok:=(fun k_=>some k_≠(.slice Ao18 t492.length co18 : Value).ownBlock∧some k_≠(.slice Ao19 t495.length co19 : Value).ownBlock)) (by (with_reducible repeat (first|apply Kd.S_alloc|apply Kd.S_drewN|apply Kd.S_drew));exact Kd.S_mono HO_491004.out (fun _ hk=>⟨⟨hk.1.2,hk.2⟩,hk.1.1⟩)) hg hat)
     replace BK488:=Aside0.mk (blk_grown (g:=gb488) (o:=.cells #[.int .i64 0,.int .i64 0,.int .i64 0,.slice none 0 0,.slice none 0 0] 27 (0,0)) (Bu BK488.out) hg (Kd.S_ne HO_491003.out BK488.out (by decide)))
     replace BK490:=Aside0.mk (blk_grown (g:=gb490) (o:=.cells #[.int .i64 a0,.int .i64 a1,.int .i64 a2,u491003,u491004] 27 (0,0)) (Bu BK490.out) hg (Kd.S_ne HO_491003.out BK490.out (by decide)))
     replace HB:=Aside0.mk hb
     have HO500:=Aside0.mk ho
     clear HO_491003 HO494 HO497
     clear ho hb hg hat
     obtain ⟨Ao20,co20,eo20⟩:=Kd.S_slice HO500.out
     (first|subst eo20|(injection eo20 with f1_ f2_ f3_;have f4_:=f1_.symm;have f5_:=f3_.symm;clear f1_ f2_ f3_;subst f4_;subst f5_))
     refine hK.out _ _ (cl5 BK490.out) (fun hHeld=>?_)
     clear hK K
     refine nZ ?_
     refine pz 5 (some 34) rfl rfl ?_
     refine lN 6 (none) rfl rfl fun K hK=>?_
     have hs21 : w17.cell? ⟨gb490,3,none⟩=some (u491003):=(blk_cell BK490.out 3).trans rfl
     have hfs21:=blk_frozen BK490.out 3
     have hns21_0:=NB488_490.out
     have hms21_0:=NB490_488.out
     refine skip_ (w1:=?_) (by rfl) rfl ?_ ?_
     rotate_left
     ·go_simp
      rfl
     refine hK.out _ _ ?_
     clear hK K
     refine dN ?_
     try go_wp2
     have n0_ : Aside0 (Kd.S k63 63 (w17.setCell ⟨gb490,3,none⟩ (.slice Ao20 y498.length co20)) w.heap.size (fun k_=>some k_≠(.slice Ao20 y498.length co20 : Value).ownBlock) u491004 x491004_1):=⟨by (with_reducible repeat (first|apply Kd.S_alloc|apply Kd.S_drewN|apply Kd.S_drew));exact Kd.S_mono (Kd.S_far (p:=⟨gb490,3,none⟩) (Kd.S_types HO_491004.out BK490.out (by decide)) (fun _ hk=>hk.2) (.slice Ao20 y498.length co20)) (fun _ hk=>hk.1.2)⟩
     have n1_ : Aside0 (Kd.S k63 63 (w17.setCell ⟨gb490,3,none⟩ (.slice Ao20 y498.length co20)) w.heap.size (fun k_=>some k_≠(u491004 : Value).ownBlock) (.slice Ao20 y498.length co20) y498):=⟨by (with_reducible repeat (first|apply Kd.S_alloc|apply Kd.S_drewN|apply Kd.S_drew));exact Kd.S_mono (Kd.S_far (p:=⟨gb490,3,none⟩) (Kd.S_types HO500.out BK490.out (by decide)) (fun _ hk=>hk.2) (.slice Ao20 y498.length co20)) (fun _ hk=>hk.1)⟩
     have n2_ : Aside0 ((w17.setCell ⟨gb490,3,none⟩ (.slice Ao20 y498.length co20)).heap[gb488]? = some (.cells #[.int .i64 0,.int .i64 0,.int .i64 0,.slice none 0 0,.slice none 0 0] 27 (0,0))):=⟨by (with_reducible repeat (first|refine blk_drewN ?_ _|refine blk_drew ?_|refine blk_alloc ?_ _));refine blk_far ?_ NB488_490.out _;(with_reducible repeat (first|refine blk_drewN ?_ _|refine blk_drew ?_|refine blk_alloc ?_ _));exact BK488.out⟩
     have n3_ : Aside0 ((w17.setCell ⟨gb490,3,none⟩ (.slice Ao20 y498.length co20)).heap[gb490]? = some (.cells #[.int .i64 a0,.int .i64 a1,.int .i64 a2,.slice Ao20 y498.length co20,u491004] 27 (0,0))):=⟨by (with_reducible repeat (first|refine blk_drewN ?_ _|refine blk_drew ?_|refine blk_alloc ?_ _));refine blk_put (cs:=#[.int .i64 a0,.int .i64 a1,.int .i64 a2,u491003,u491004]) ?_ 3 _ rfl;(with_reducible repeat (first|refine blk_drewN ?_ _|refine blk_drew ?_|refine blk_alloc ?_ _));exact BK490.out⟩
     have n4_ : Aside0 (Below w.heap.size w (w17.setCell ⟨gb490,3,none⟩ (.slice Ao20 y498.length co20))):=⟨bL HB.out⟩
     (try clear HO_491004)
     (try clear HO500)
     (try clear BK488)
     (try clear BK490)
     (try clear HB)
     generalize (w17.setCell ⟨gb490,3,none⟩ (.slice Ao20 y498.length co20))=w22 at n0_ n1_ n2_ n3_ n4_ ⊢
     have HO_491004:=n0_
     have HO500:=n1_
     have BK488:=n2_
     have BK490:=n3_
     have HB:=n4_
     clear n0_ n1_ n2_ n3_ n4_
     replace HO_491004:=Aside0.mk (Kd.S_drew HO_491004.out)
     replace HO500:=Aside0.mk (Kd.S_drew HO500.out)
     replace BK488:=Aside0.mk (blk_drew BK488.out)
     replace BK490:=Aside0.mk (blk_drew BK490.out)
     replace HB:=Aside0.mk (b1 HB.out)
     refine sT (n:=7) (S:=fun w'=>w'.cell? ⟨gb490,0,none⟩=some (.int .i64 a0)∧w'.cell? ⟨gb490,1,none⟩=some (.int .i64 a1)∧w'.cell? ⟨gb490,2,none⟩=some (.int .i64 a2)∧w'.cell? ⟨gb490,3,none⟩=some (.slice Ao20 y498.length co20)∧w'.cell? ⟨gb490,4,none⟩=some (u491004)) (ds:=[6]) (by kernel_rfl) rfl (cl5 BK490.out) (fun hHeld=>?_)
     generalize w22.drew=w23 at HO_491004 HO500 BK488 BK490 HB hHeld ⊢
     refine pz 0 (some 35) rfl rfl ?_
     refine tz 1 (some 36) rfl rfl hHeld ?_
     refine oN 2 (some 37) rfl rfl fun K hK=>?_
     refine gS Try.func36 #[] ?_
     with_reducible refine (penumbraref03_Zero.calls  t501 t502 t505 _ A13.out).mono ?_
     rintro e w24 ⟨v503,v506,rfl,ho0,ho1,hb⟩
     refine ⟨_,rfl,?_⟩
     replace HO_491004:=Aside0.mk (Kd.S_mono (Kd.S_told (Kd.S_told (Kd.S_old (by (with_reducible repeat (first|apply Kd.S_alloc|apply Kd.S_drewN|apply Kd.S_drew));exact HO_491004.out) hb) (Kd.R_base ho0)) (Kd.R_base ho1)) (fun _ h_=>h_.1))
     replace HO500:=Aside0.mk (Kd.S_mono (Kd.S_told (Kd.S_told (Kd.S_old (by (with_reducible repeat (first|apply Kd.S_alloc|apply Kd.S_drewN|apply Kd.S_drew));exact HO500.out) hb) (Kd.R_base ho0)) (Kd.R_base ho1)) (fun _ h_=>h_.1))
     have HO504:=Aside0.mk (Kd.R_lower ho0 (below_size (bL HB.out)))
     have HO507:=Aside0.mk (Kd.R_lower ho1 (below_size (bL HB.out)))
     replace BK488:=Aside0.mk (blk_below (Bu BK488.out) hb)
     replace BK490:=Aside0.mk (blk_below (Bu BK490.out) hb)
     replace HB:=Aside0.mk (below_step (bL HB.out) hb)
     (try clear hb)
     (try clear hb2)
     (try clear hk)
     (try clear hi)
     (try clear ho0)
     (try clear ho1)
     obtain ⟨Ao26,co26,eo26⟩:=Kd.R_slice HO504.out
     (first|subst eo26|(injection eo26 with f1_ f2_ f3_;have f4_:=f1_.symm;have f5_:=f3_.symm;clear f1_ f2_ f3_;subst f4_;subst f5_))
     obtain ⟨Ao27,co27,eo27⟩:=Kd.R_slice HO507.out
     (first|subst eo27|(injection eo27 with f1_ f2_ f3_;have f4_:=f1_.symm;have f5_:=f3_.symm;clear f1_ f2_ f3_;subst f4_;subst f5_))
     refine hK.out _ _ (cl5 BK490.out) (fun hHeld=>?_)
     clear hK K
     refine nZ ?_
     refine oN 3 (some 38) rfl rfl fun K hK=>?_
     refine value_ (w1:=?_) (v:=?_) (by rfl) rfl ?_ ?_
     rotate_left 2
     ·go_simp
      constructor
      ·rfl
      ·rfl
     refine hK.out _ _ ⟨(blk_cell (blk_alloc BK490.out _) 0).trans rfl,(blk_cell (blk_alloc BK490.out _) 1).trans rfl,(blk_cell (blk_alloc BK490.out _) 2).trans rfl,(blk_cell (blk_alloc BK490.out _) 3).trans rfl,(blk_cell (blk_alloc BK490.out _) 4).trans rfl⟩ (fun hHeld=>?_)
     clear hK K
     refine nZ ?_
     refine oN 4 (some 39) rfl rfl fun K hK=>?_
     refine Kd.S_append_step k63 (w0:=w) w.heap.size (by rfl) (.tmp 36) (.tmp 38) 25 63 (.agg #[(.bool false),(.slice none 0 0),(.slice none 0 0)]) 56 rfl Try.underlying25 info63 rfl (by decide) (by omega) u491004 x491004_1 (⟨t501,t502,t505⟩ : S63) [.bool t501,.slice Ao26 t502.length co26,.slice Ao27 t505.length co27] (fun k_=>some k_≠(.slice Ao20 y498.length co20 : Value).ownBlock) (fun k_=>some k_=(.slice Ao26 t502.length co26 : Value).ownBlock∨some k_=(.slice Ao27 t505.length co27 : Value).ownBlock) rfl rfl ?aP (fun k_ hk_=>hk_.elim (fun h_=>((Kd.R_mono (ok':=fun k_=>((fun k_=>some k_≠(.slice Ao20 y498.length co20 : Value).ownBlock)) k_∧some k_≠(u491004 : Value).ownBlock) (Kd.R_apart' (Kd.R_apart' (HO504.out) (Kd.S_typed HO500.out) (by decide)) (Kd.S_typed HO_491004.out) (by decide)) (fun k_ hk=>⟨hk.1.2,hk.2⟩))).1 k_ h_.symm) (fun h_=>((Kd.R_mono (ok':=fun k_=>((fun k_=>some k_≠(.slice Ao20 y498.length co20 : Value).ownBlock)) k_∧some k_≠(u491004 : Value).ownBlock) (Kd.R_apart' (Kd.R_apart' (HO507.out) (Kd.S_typed HO500.out) (by decide)) (Kd.S_typed HO_491004.out) (by decide)) (fun k_ hk=>⟨hk.1.2,hk.2⟩))).1 k_ h_.symm)) ?aF ?aO ?aB ?aS ?aL ?_
     (case aP=>exact k63_mkM _ _ _ (⟨t501,t502,t505⟩ : S63) (Kd.R_mono (Kd.R_tight rfl (Kd.R_mono (ok':=fun k_=>((fun k_=>some k_≠(.slice Ao20 y498.length co20 : Value).ownBlock)) k_∧some k_≠(u491004 : Value).ownBlock) (Kd.R_apart' (Kd.R_apart' (HO504.out) (Kd.S_typed HO500.out) (by decide)) (Kd.S_typed HO_491004.out) (by decide)) (fun k_ hk=>⟨hk.1.2,hk.2⟩))) (fun _ h_=>Or.inl h_)) (Kd.R_mono (Kd.R_tight rfl (Kd.R_mono (ok':=fun k_=>((fun k_=>some k_≠(.slice Ao20 y498.length co20 : Value).ownBlock)) k_∧some k_≠(u491004 : Value).ownBlock) (Kd.R_apart' (Kd.R_apart' (HO507.out) (Kd.S_typed HO500.out) (by decide)) (Kd.S_typed HO_491004.out) (by decide)) (fun k_ hk=>⟨hk.1.2,hk.2⟩))) (fun _ h_=>Or.inr (h_))))
     (case aB=>exact (bL HB.out))
     (case aF=>exact (fun k_ hk=>Kd.fresh' (Kd.S_lt (by (with_reducible repeat (first|apply Kd.S_alloc|apply Kd.S_drewN|apply Kd.S_drew));exact HO500.out)) k_ hk))
     (case aO=>exact (by (with_reducible repeat (first|apply Kd.S_alloc|apply Kd.S_drewN|apply Kd.S_drew));exact Kd.S_mono HO_491004.out (fun k_ hk=>⟨hk.1.1,fun e_=>e_.elim (fun h_=>hk.1.2 h_) (fun h_=>hk.2 h_)⟩)))
     (case aS=>exact (below_size (bL HB.out)))
     (case aL=>have:=LMc14.out;omega)
     intro v509 w25 ho hb hg hat
     rw [← Ny508.out] at ho
     replace BK488:=Aside0.mk (blk_grown (g:=gb488) (o:=.cells #[.int .i64 0,.int .i64 0,.int .i64 0,.slice none 0 0,.slice none 0 0] 27 (0,0)) (Bu BK488.out) hg (Kd.S_ne HO_491004.out BK488.out (by decide)))
     replace BK490:=Aside0.mk (blk_grown (g:=gb490) (o:=.cells #[.int .i64 a0,.int .i64 a1,.int .i64 a2,.slice Ao20 y498.length co20,u491004] 27 (0,0)) (Bu BK490.out) hg (Kd.S_ne HO_491004.out BK490.out (by decide)))
     replace HO500:=Aside0.mk (Kd.S_after (ok:=(fun k_=>some k_≠(.slice Ao26 t502.length co26 : Value).ownBlock∧some k_≠(.slice Ao27 t505.length co27 : Value).ownBlock)) (by (with_reducible repeat (first|apply Kd.S_alloc|apply Kd.S_drewN|apply Kd.S_drew));exact Kd.S_mono HO500.out (fun _ hk=>⟨⟨hk.1.2,hk.2⟩,hk.1.1⟩)) hg hat)
     replace HB:=Aside0.mk hb
     have HO510:=Aside0.mk ho
     clear HO_491004 HO504 HO507
     clear ho hb hg hat
     obtain ⟨Ao28,co28,eo28⟩:=Kd.S_slice HO510.out
     (first|subst eo28|(injection eo28 with f1_ f2_ f3_;have f4_:=f1_.symm;have f5_:=f3_.symm;clear f1_ f2_ f3_;subst f4_;subst f5_))
     refine hK.out _ _ (cl5 BK490.out) (fun hHeld=>?_)
     clear hK K
     refine nZ ?_
     refine pz 5 (some 40) rfl rfl ?_
     refine lN 6 (none) rfl rfl fun K hK=>?_
     have hs29 : w25.cell? ⟨gb490,4,none⟩=some (u491004):=(blk_cell BK490.out 4).trans rfl
     have hfs29:=blk_frozen BK490.out 4
     have hns29_0:=NB488_490.out
     have hms29_0:=NB490_488.out
     refine skip_ (w1:=?_) (by rfl) rfl ?_ ?_
     rotate_left
     ·go_simp
      rfl
     refine hK.out _ _ ?_
     clear hK K
     refine dN ?_
     try go_wp2
     go_roundg k1
     case measure=>have:=HK1.out;omega
     case rel=>exact ⟨(wrap64 (x9_1+1)),(y498),(y508),(.slice Ao20 y498.length co20),(.slice Ao28 y508.length co28),sD,H',⟨by have:=HK1.out;omega⟩,⟨by (with_reducible repeat (first|apply Kd.S_alloc|apply Kd.S_drewN|apply Kd.S_drew));exact Kd.S_mono (Kd.S_far (p:=⟨gb490,4,none⟩) (Kd.S_types HO500.out BK490.out (by decide)) (fun _ hk=>hk.2) (.slice Ao28 y508.length co28)) (fun _ hk=>hk.1.2)⟩,⟨by (with_reducible repeat (first|apply Kd.S_alloc|apply Kd.S_drewN|apply Kd.S_drew));exact Kd.S_mono (Kd.S_far (p:=⟨gb490,4,none⟩) (Kd.S_types HO510.out BK490.out (by decide)) (fun _ hk=>hk.2) (.slice Ao28 y508.length co28)) (fun _ hk=>hk.1)⟩,⟨by (with_reducible repeat (first|refine blk_drewN ?_ _|refine blk_drew ?_|refine blk_alloc ?_ _));refine blk_far ?_ NB488_490.out _;(with_reducible repeat (first|refine blk_drewN ?_ _|refine blk_drew ?_|refine blk_alloc ?_ _));exact BK488.out⟩,⟨by (with_reducible repeat (first|refine blk_drewN ?_ _|refine blk_drew ?_|refine blk_alloc ?_ _));refine blk_put (cs:=#[.int .i64 a0,.int .i64 a1,.int .i64 a2,.slice Ao20 y498.length co20,u491004]) ?_ 4 _ rfl;(with_reducible repeat (first|refine blk_drewN ?_ _|refine blk_drew ?_|refine blk_alloc ?_ _));exact BK490.out⟩,⟨bL HB.out⟩⟩
    ·rw [if_neg c10] at H
     have c10b0 : decide (x9_1 < (wrap64 ((wrap64 (a0 * a1)) * a2)))=false:=decide_eq_false c10
     clear c10
     simp only [Option.some.injEq,Prod.mk.injEq] at H
     obtain ⟨rfl,rfl,rfl,rfl,rfl,rfl⟩:=H
     have hnb30:=NB490_488.out
     have hnc30:=NB488_490.out
     obtain ⟨hcz31_0,hcz31_1,hcz31_2,hcz31_3,hcz31_4⟩:=cl5 BK490.out
     obtain ⟨hfz31_0,hfz31_1,hfz31_2,hfz31_3,hfz31_4⟩:=fr5 BK490.out
     obtain ⟨hcz32_0,hcz32_1,hcz32_2,hcz32_3,hcz32_4⟩:=cl5 BK488.out
     obtain ⟨hfz32_0,hfz32_1,hfz32_2,hfz32_3,hfz32_4⟩:=fr5 BK488.out
     obtain ⟨Ao33,co33,eo33⟩:=Kd.S_slice HO_491003.out
     subst eo33
     obtain ⟨Ao34,co34,eo34⟩:=Kd.S_slice HO_491004.out
     subst eo34
     go_wp2
     refine bodyPost_ret (results_ct rfl _ _ gb488 27 #[.int .i64 a0,.int .i64 a1,.int .i64 a2,.slice Ao33 x491003_1.length co33,.slice Ao34 x491004_1.length co34] (0,0) _ rfl (by (with_reducible repeat (first|refine blk_drewN ?_ _|refine blk_drew ?_|refine blk_alloc ?_ _));refine blk_put (cs:=#[.int .i64 a0,.int .i64 a1,.int .i64 a2,.slice Ao33 x491003_1.length co33,.slice none 0 0]) ?_ 4 _ rfl;(with_reducible repeat (first|refine blk_drewN ?_ _|refine blk_drew ?_|refine blk_alloc ?_ _));refine blk_put (cs:=#[.int .i64 a0,.int .i64 a1,.int .i64 a2,.slice none 0 0,.slice none 0 0]) ?_ 3 _ rfl;(with_reducible repeat (first|refine blk_drewN ?_ _|refine blk_drew ?_|refine blk_alloc ?_ _));refine blk_put (cs:=#[.int .i64 a0,.int .i64 a1,.int .i64 0,.slice none 0 0,.slice none 0 0]) ?_ 2 _ rfl;(with_reducible repeat (first|refine blk_drewN ?_ _|refine blk_drew ?_|refine blk_alloc ?_ _));refine blk_put (cs:=#[.int .i64 a0,.int .i64 0,.int .i64 0,.slice none 0 0,.slice none 0 0]) ?_ 1 _ rfl;(with_reducible repeat (first|refine blk_drewN ?_ _|refine blk_drew ?_|refine blk_alloc ?_ _));refine blk_put (cs:=#[.int .i64 0,.int .i64 0,.int .i64 0,.slice none 0 0,.slice none 0 0]) ?_ 0 _ rfl;(with_reducible repeat (first|refine blk_drewN ?_ _|refine blk_drew ?_|refine blk_alloc ?_ _));exact BK488.out) Try.underlying27 rfl (by kernel_rfl)) rfl ?_
     exact ⟨_,_,eW,by (with_reducible repeat (first|apply Kd.S_alloc|apply Kd.S_drewN|apply Kd.S_drew));exact Kd.S_mono (Kd.S_far (p:=⟨gb488,4,none⟩) (Kd.S_far (p:=⟨gb488,3,none⟩) (Kd.S_far (p:=⟨gb488,2,none⟩) (Kd.S_far (p:=⟨gb488,1,none⟩) (Kd.S_far (p:=⟨gb488,0,none⟩) (Kd.S_types HO_491003.out BK488.out (by decide)) (fun _ hk=>hk.2) (.int .i64 a0)) (fun _ hk=>hk.2) (.int .i64 a1)) (fun _ hk=>hk.2) (.int .i64 a2)) (fun _ hk=>hk.2) (.slice Ao33 x491003_1.length co33)) (fun _ hk=>hk.2) (.slice Ao34 x491004_1.length co34)) (fun _ hk=>hk.1),by (with_reducible repeat (first|apply Kd.S_alloc|apply Kd.S_drewN|apply Kd.S_drew));exact Kd.S_mono (Kd.S_far (p:=⟨gb488,4,none⟩) (Kd.S_far (p:=⟨gb488,3,none⟩) (Kd.S_far (p:=⟨gb488,2,none⟩) (Kd.S_far (p:=⟨gb488,1,none⟩) (Kd.S_far (p:=⟨gb488,0,none⟩) (Kd.S_types HO_491004.out BK488.out (by decide)) (fun _ hk=>hk.2) (.int .i64 a0)) (fun _ hk=>hk.2) (.int .i64 a1)) (fun _ hk=>hk.2) (.int .i64 a2)) (fun _ hk=>hk.2) (.slice Ao33 x491003_1.length co33)) (fun _ hk=>hk.2) (.slice Ao34 x491004_1.length co34)) (fun _ hk=>hk.1),bL HB.out⟩
 ·replace c5:=Bool.eq_false_iff.mpr c5
  subst c5
  rw [if_neg (show ¬ (false=true) by decide)] at H
  simp only [Option.some.injEq,Prod.mk.injEq] at H
  obtain ⟨rfl,rfl,rfl,rfl,rfl,rfl⟩:=H
  go_enter Try.func20,Try.ntmps20
  go_wp2_with (first|((with_reducible refine gate_dst (N:=6) rfl ?_);refine boxA #[.int .i64 0,.int .i64 0,.int .i64 0,.slice none 0 0,.slice none 0 0] 27 ?_;intro gb488 hg w35 hbox hb;have BK488:=Aside0.mk hbox;have GW488:=Aside0.mk ((by rw [hg];exact (below_size (bL HB.out)) : w.heap.size≤gb488));have GE488:=Aside0.mk ((by rw [hg];exact (below_size (bL HB.out)) : w.heap.size≤gb488));replace HB:=Aside0.mk (below_step (bL HB.out) hb);clear hb hbox hg)|((with_reducible refine gate_callee (f:=35) rfl ?_);refine gL (some 13) Try.func35 #[.int .i64 a0,.int .i64 a1,.int .i64 a2] ?_;(with_reducible refine (penumbraref20_Sizes.calls a0 a1 a2 false _ A4.out).mono ?_);rintro e w' ⟨rfl,⟨nd,rfl⟩⟩;refine ⟨_,rfl,?_⟩;(try (rw [drewN_self w35];generalize hq_ : World.drewN w35 _=w35;have n0_ : Aside0 (w35.heap[gb488]? = some (.cells #[.int .i64 0,.int .i64 0,.int .i64 0,.slice none 0 0,.slice none 0 0] 27 (0,0))):=⟨by rw [← hq_];exact (Bu BK488.out)⟩;have n1_ : Aside0 (Below w.heap.size w w35):=⟨by rw [← hq_];exact (bL HB.out)⟩;clear BK488 HB hq_;have BK488:=n0_;have HB:=n1_;clear n0_ n1_));obtain ⟨hcz36_0,hcz36_1,hcz36_2,hcz36_3,hcz36_4⟩:=cl5 BK488.out;obtain ⟨hfz36_0,hfz36_1,hfz36_2,hfz36_3,hfz36_4⟩:=fr5 BK488.out))
  refine bodyPost_ret (results_ct rfl _ _ gb488 27 #[.int .i64 0,.int .i64 0,.int .i64 0,.slice none 0 0,.slice none 0 0] (0,0) _ rfl (by (with_reducible repeat (first|refine blk_drewN ?_ _|refine blk_drew ?_|refine blk_alloc ?_ _));refine blk_put (cs:=#[.int .i64 0,.int .i64 0,.int .i64 0,.slice none 0 0,.slice none 0 0]) ?_ 4 _ rfl;(with_reducible repeat (first|refine blk_drewN ?_ _|refine blk_drew ?_|refine blk_alloc ?_ _));refine blk_put (cs:=#[.int .i64 0,.int .i64 0,.int .i64 0,.slice none 0 0,.slice none 0 0]) ?_ 3 _ rfl;(with_reducible repeat (first|refine blk_drewN ?_ _|refine blk_drew ?_|refine blk_alloc ?_ _));refine blk_put (cs:=#[.int .i64 0,.int .i64 0,.int .i64 0,.slice none 0 0,.slice none 0 0]) ?_ 2 _ rfl;(with_reducible repeat (first|refine blk_drewN ?_ _|refine blk_drew ?_|refine blk_alloc ?_ _));refine blk_put (cs:=#[.int .i64 0,.int .i64 0,.int .i64 0,.slice none 0 0,.slice none 0 0]) ?_ 1 _ rfl;(with_reducible repeat (first|refine blk_drewN ?_ _|refine blk_drew ?_|refine blk_alloc ?_ _));refine blk_put (cs:=#[.int .i64 0,.int .i64 0,.int .i64 0,.slice none 0 0,.slice none 0 0]) ?_ 0 _ rfl;(with_reducible repeat (first|refine blk_drewN ?_ _|refine blk_drew ?_|refine blk_alloc ?_ _));exact BK488.out) Try.underlying27 rfl (by kernel_rfl)) rfl ?_
  exact ⟨_,_,eW,by first|exact Kd.S_nil _ _ _ _ _|exact Kd.N_nil _ _ _ _ _|exact Kd.V_nil _ _ _ _ _|exact Kd.Q_nil _ _ _ _ _|exact Kd.R_nil _ _ _ _ _,by first|exact Kd.S_nil _ _ _ _ _|exact Kd.N_nil _ _ _ _ _|exact Kd.V_nil _ _ _ _ _|exact Kd.Q_nil _ _ _ _ _|exact Kd.R_nil _ _ _ _ _,bL HB.out⟩
end Go.Proofs.Ytjiaobcoeegioaa.Pq
end
section
namespace Go.Proofs.Ytjiaobcoeegioaa.N
open Go Go.RowKit Go.Proofs.YtjiaobcoeegioaaW.PrintWords Go.Proofs.YtjiaobcoeegioaaW.PrintLast Go.Proofs.YtjiaobcoeegioaaW.PrintMore Go.Proofs.Ytjiaobcoeegioaa.Pq
set_option linter.unusedVariables false
set_option linter.unusedSimpArgs false
theorem sizes20 (w h b : Int) : penumbraref20_Sizes.f w h b=some (szs w h b):=by
 unfold penumbraref20_Sizes.f szs
 by_cases h1 : 1≤w
 ·rw [if_pos h1,decide_eq_true h1]
  by_cases h2 : w≤16
  ·rw [if_pos h2,decide_eq_true h2]
   by_cases h3 : 1≤h
   ·rw [if_pos h3,decide_eq_true h3]
    by_cases h4 : h≤16
    ·rw [if_pos h4,decide_eq_true h4]
     by_cases h5 : 1≤b
     ·rw [if_pos h5,decide_eq_true h5];simp
     ·rw [if_neg h5,decide_eq_false h5];simp
    ·rw [if_neg h4,decide_eq_false h4];simp
   ·rw [if_neg h3,decide_eq_false h3];simp
  ·rw [if_neg h2,decide_eq_false h2];simp
 ·rw [if_neg h1,decide_eq_false h1];simp
theorem check20_l {n : Nat} (hn : n < 10000000) (W h b : Int) {xs ys : List RatS} (hl : xs.length=ys.length) (hm : xs.length < 4611686018427387904) (hx : ∀ x∈xs,Wf n x) (hy : ∀ x∈ys,Wf n x) : ∀ (d i : Nat),xs.length - i=d→i≤xs.length →
  Ev (fun k=>penumbraref20_Check.l0 k (i : Int) W h b xs ys) ((xs.drop i).all chk && (ys.drop i).all chk):=by
 intro d
 induction d with
 | zero =>
  intro i hd hi
  obtain rfl : i=xs.length:=by omega
  refine Ev_up ?_
  simp only [penumbraref20_Check.l0]
  refine Ev_neg (by omega) ?_
  rw [List.drop_length,hl,List.drop_length]
  exact Ev.now _
 | succ d ih =>
  intro i hd hi
  have h1 : i < xs.length:=by omega
  have h2 : i < ys.length:=by omega
  have g1 : (i : Int) < (xs.length : Int):=by omega
  have g2 : 0≤(i : Int):=by omega
  have g3 : (i : Int) < (ys.length : Int):=by omega
  have hw : wrap64 ((i : Int)+1)=((i+1 : Nat) : Int):=by clear ih hx hy;unfold wrap64;omega
  have r1 : rd_T63 xs (i : Int)=xs[i]:=by unfold rd_T63;rw [Int.toNat_natCast,List.getD_eq_getElem?_getD,List.getElem?_eq_getElem h1];rfl
  have r2 : rd_T63 ys (i : Int)=ys[i]:=by unfold rd_T63;rw [Int.toNat_natCast,List.getD_eq_getElem?_getD,List.getElem?_eq_getElem h2];rfl
  refine Ev_up ?_
  simp only [penumbraref20_Check.l0]
  refine Ev_pos g1 (Ev_pos g2 ?_)
  rw [r1,r2,hw,List.drop_eq_getElem_cons h1,List.drop_eq_getElem_cons h2,List.all_cons,List.all_cons]
  refine Ev.bind (check03 (hx _ (List.getElem_mem h1)) hn) ?_
  cases hc : chk xs[i]
  ·exact Ev_neg (by simp) (Ev.now _)
  ·refine Ev_pos rfl (Ev_pos g3 ?_)
   refine Ev.bind (check03 (hy _ (List.getElem_mem h2)) hn) ?_
   cases hc2 : chk ys[i]
   ·rw [Bool.false_and,Bool.and_false]
    exact Ev_neg (by simp) (Ev.now _)
   ·rw [Bool.true_and,Bool.true_and]
    exact Ev_pos rfl (ih (i+1) (by omega) (by omega))
theorem check20_f {n : Nat} (hn : n < 10000000) {F : S27} (hF : WfF n F) (h3 : F.f3.length < 4611686018427387904) (h4 : F.f4.length < 4611686018427387904) : Ev (fun k=>penumbraref20_Check.f k F.f0 F.f1 F.f2 F.f3 F.f4) (chkF F):=by
 obtain ⟨W,h,b,xs,ys⟩:=F
 dsimp only at h3 h4 ⊢
 have jT : Ev (fun k=>penumbraref20_Check.j0 k true W h b xs ys) false:=by
  refine Ev_up ?_
  simp only [penumbraref20_Check.j0]
  exact Ev_pos trivial (Ev.now _)
 unfold penumbraref20_Check.f chkF
 dsimp only
 refine Ev_some (sizes20 W h b) ?_
 cases hs : szs W h b
 ·rw [Bool.false_and,Bool.false_and,Bool.false_and,Bool.false_and]
  exact Ev_neg (by simp) jT
 ·rw [Bool.true_and]
  refine Ev_pos rfl ?_
  have hp : 0≤W * h∧W * h≤256∧0≤W * h * b∧W * h * b≤2048:=by
   simp only [szs,Bool.and_eq_true,decide_eq_true_eq] at hs
   obtain ⟨⟨⟨⟨⟨h1,h2⟩,h3⟩,h4⟩,h5⟩,h6⟩:=hs
   have a1 : W * h≤16 * 16:=Int.mul_le_mul h2 h4 (by omega) (by omega)
   have a0 : 0≤W * h:=Int.mul_nonneg (by omega) (by omega)
   have a3 : W * h * b≤256 * 8:=Int.mul_le_mul (by omega) h6 (by omega) (by omega)
   exact ⟨a0,by omega,Int.mul_nonneg a0 (by omega),by omega⟩
  have w1 : wrap64 (W * h)=W * h:=by have h1:=hp.1;have h2:=hp.2.1;clear hp;unfold wrap64;omega
  have w2 : wrap64 (W * h * b)=W * h * b:=by have h1:=hp.2.2.1;have h2:=hp.2.2.2;clear hp w1;unfold wrap64;omega
  rw [w1,w2]
  by_cases e3 : (xs.length : Int)=W * h * b
  ·rw [decide_eq_true e3,Bool.true_and]
   refine Ev_pos e3 ?_
   by_cases e4 : (ys.length : Int)=W * h * b
   ·rw [decide_eq_true e4,Bool.true_and]
    have he : ((ys.length : Int) != (xs.length : Int))=false:=by rw [e3,e4];simp
    rw [he]
    refine Ev_up ?_
    simp only [penumbraref20_Check.j0]
    refine Ev_neg (by simp) ?_
    have h0:=check20_l hn W h b (xs:=xs) (ys:=ys) (by omega) h3 hF.1 hF.2 xs.length 0 rfl (Nat.zero_le _)
    rw [List.drop_zero,List.drop_zero] at h0
    exact h0
   ·rw [decide_eq_false e4,Bool.false_and,Bool.false_and]
    have he : ((ys.length : Int) != (xs.length : Int))=true:=bne_iff_ne.mpr (by omega)
    rw [he]
    exact jT
  ·rw [decide_eq_false e3,Bool.false_and,Bool.false_and,Bool.false_and]
   exact Ev_neg e3 jT
theorem new20_l (W h b : Int) {M : Nat} (hM : (M : Int)=W * h * b) (hm : M≤2048) (w1 : wrap64 (W * h)=W * h) (w2 : wrap64 (W * h * b)=W * h * b) : ∀ (d i : Nat),M - i=d→i≤M →
  Ev (fun k=>penumbraref20_New.l0 k W h b (i : Int) W h b (List.replicate i (mkR 0)) (List.replicate i (mkR 0))) (W,h,b,List.replicate M (mkR 0),List.replicate M (mkR 0),true):=by
 have ez : penumbraref03_Zero.f=some (false,[],[1]):=rfl
 have em : mkR 0=⟨false,[],[1]⟩:=by unfold mkR;rw [cq_zero]
 intro d
 induction d with
 | zero =>
  intro i hd hi
  obtain rfl : i=M:=by omega
  refine Ev_up ?_
  simp only [penumbraref20_New.l0]
  rw [w1,w2]
  exact Ev_neg (by omega) (Ev.now _)
 | succ d ih =>
  intro i hd hi
  have hw : wrap64 ((i : Int)+1)=((i+1 : Nat) : Int):=by clear ih w1 w2;unfold wrap64;omega
  refine Ev_up ?_
  simp only [penumbraref20_New.l0]
  rw [w1,w2]
  refine Ev_pos (by omega) ?_
  refine Ev_some ez (Ev_pos (by rw [List.length_replicate];omega) (Ev_some ez (Ev_pos (by rw [List.length_replicate];omega) ?_)))
  rw [hw]
  have e:=ih (i+1) (by omega) (by omega)
  rw [List.replicate_succ' (n:=i),em] at e
  rw [em]
  exact e
theorem new20_f {W h b : Int} {M : Nat} (hs : szs W h b=true) (hM : (M : Int)=W * h * b) (hm : M≤2048) (hp : 0≤W * h∧W * h≤256) : Ev (fun k=>penumbraref20_New.f k W h b) (W,h,b,List.replicate M (mkR 0),List.replicate M (mkR 0),true):=by
 have w1 : wrap64 (W * h)=W * h:=by have h1:=hp.1;have h2:=hp.2;clear hp hM;unfold wrap64;omega
 have w2 : wrap64 (W * h * b)=W * h * b:=by rw [← hM];clear w1 hp hM;unfold wrap64;omega
 unfold penumbraref20_New.f
 refine Ev_some (sizes20 W h b) ?_
 rw [hs]
 exact Ev_pos rfl (new20_l W h b hM hm w1 w2 M 0 rfl (Nat.zero_le _))
theorem new20_no {W h b : Int} (hs : szs W h b=false) : Ev (fun k=>penumbraref20_New.f k W h b) (0,0,0,[],[],false):=by
 unfold penumbraref20_New.f
 refine Ev_some (sizes20 W h b) ?_
 rw [hs]
 exact Ev_neg (by simp) (Ev.now _)
end Go.Proofs.Ytjiaobcoeegioaa.N
end
section
namespace Go.Proofs.Ytjiaobcoeegioaa.Pq
open Go.RowKit Go.Proofs.YtjiaobcoeegioaaW.PrintWords Go.Proofs.YtjiaobcoeegioaaW.PrintLast Go.Proofs.YtjiaobcoeegioaaW.PrintMore Go.Proofs.Ytjiaobcoeegioaa.N
set_option linter.unusedVariables false
set_option linter.unusedSimpArgs false
theorem FRow.of_R {w : World} {base : Nat} {ok : Nat→Prop} {v : Value} {xs : List S63} (h : Kd.R k63 63 w base ok v xs) : FRow w base v xs:=by
 obtain ⟨h0,inner,ho,hr⟩:=h
 refine ⟨inner,ho,⟨fun W' k=>⟨hr.1,fun j p hj=>?_⟩⟩⟩
 have hm:=k63.M_bound (hr.2 j p hj)
 refine k63.K_of_M (k63.M_move (w1:=W') (fun i hi=>?_) hm)
 obtain ⟨_,_,_,q,hq,cells,hc⟩:=hi
 exact k.k.2 i cells q (0,0) hc (by
  have : q∈[82,82]:=hq
  simpa using this)
def AddTo (x u X : S63) : Prop:=∀ (A1 A2 B1 B2 : Option Addr) (a1 a2 b1 b2 : Nat) (w : World),k63.K w x [.bool x.f0,.slice A1 x.f1.length a1,.slice A2 x.f2.length a2]→k63.K w u [.bool u.f0,.slice B1 u.f1.length b1,.slice B2 u.f2.length b2] →
 Calls Try.prog 39 #[.agg #[.bool x.f0,.slice A1 x.f1.length a1,.slice A2 x.f2.length a2],.agg #[.bool u.f0,.slice B1 u.f1.length b1,.slice B2 u.f2.length b2]] w fun e w'=>∃ P1 p1 P2 p2,e=.returned (.agg #[.bool X.f0,.slice P1 X.f1.length p1,.slice P2 X.f2.length p2])∧XK w' X [.bool X.f0,.slice P1 X.f1.length p1,.slice P2 X.f2.length p2]∧Below w.heap.size w w'
theorem AddTo.go {x u X : S63} (h : AddTo x u X) {A1 A2 B1 B2 : Option Addr} {a1 a2 b1 b2 : Nat} {w : World} (kx : k63.K w x [.bool x.f0,.slice A1 x.f1.length a1,.slice A2 x.f2.length a2]) (ku : k63.K w u [.bool u.f0,.slice B1 u.f1.length b1,.slice B2 u.f2.length b2]) :
  Calls Try.prog 39 #[.agg #[.bool x.f0,.slice A1 x.f1.length a1,.slice A2 x.f2.length a2],.agg #[.bool u.f0,.slice B1 u.f1.length b1,.slice B2 u.f2.length b2]] w fun e w'=>∃ P1 p1 P2 p2,e=.returned (.agg #[.bool X.f0,.slice P1 X.f1.length p1,.slice P2 X.f2.length p2])∧XK w' X [.bool X.f0,.slice P1 X.f1.length p1,.slice P2 X.f2.length p2]∧Below w.heap.size w w':=h _ _ _ _ _ _ _ _ w kx ku
theorem K63 {w : World} {x : S63} {A1 A2 : Option Addr} {a1 a2 : Nat} (h : k63.K w x [.bool x.f0,.slice A1 x.f1.length a1,.slice A2 x.f2.length a2]) : x.f1.length≤a1∧(Kd.int .u32).C w A1 x.f1.length x.f1∧x.f2.length≤a2∧(Kd.int .u32).C w A2 x.f2.length x.f2:=by
 obtain ⟨B1,b1,B2,b2,e,l1,g1,l2,g2⟩:=k63_open h
 injection e with _ e
 injection e with e1 e
 injection e with e2 _
 injection e1 with h1 _ h2
 injection e2 with h3 _ h4
 subst h1 h2 h3 h4
 exact ⟨l1,g1,l2,g2⟩
theorem addR {p r : Rat} (hp : sz1 p < 10000000) (hr : sz1 r < 10000000) : AddTo (mkR p) (mkR r) (mkR (p+r)):=by
 intro A1 A2 B1 B2 a1 a2 b1 b2 w kx ku
 obtain ⟨l1,g1,l2,g2⟩:=K63 kx
 obtain ⟨l3,g3,l4,g4⟩:=K63 ku
 obtain ⟨k,hk⟩:=(add03 (wf_mkR p) (wf_mkR r) hp hr).rounds
 rw [qOf_mkR,qOf_mkR] at hk
 refine (penumbraref03_Add.calls k _ A1 a1 _ A2 a2 _ _ B1 b1 _ B2 b2 _ _ _ _ w g1 l1 g2 l2 g3 l3 g4 l4 hk).mono ?_
 rintro e w1 ⟨v1,v2,rfl,h1,h2,hb⟩
 obtain ⟨A3,c3,rfl,l3,g3⟩:=madeT h1
 obtain ⟨A4,c4,rfl,l4,g4⟩:=madeT h2
 exact ⟨_,_,_,_,rfl,XK.mk (x:=mkR (p+r)) l3 l4 g3 g4,hb⟩
theorem check20_sem {n : Nat} (hn : n < 10000000) {F : S27} (hF : WfF n F) {b : Bool} (hc : chkF F=b) {A3 A4 : Option Addr} {c3 c4 : Nat} {w : World} (l3 : F.f3.length≤c3) (l4 : F.f4.length≤c4) (h3 : Kd.C k63 w A3 F.f3.length F.f3) (h4 : Kd.C k63 w A4 F.f4.length F.f4) (m3 : F.f3.length < 4611686018427387904) (m4 : F.f4.length < 4611686018427387904) :
  Calls Try.prog 38 #[.agg #[.int .i64 F.f0,.int .i64 F.f1,.int .i64 F.f2,.slice A3 F.f3.length c3,.slice A4 F.f4.length c4]] w fun e w'=>e=.returned (.bool b)∧Below w.heap.size w w':=by
 obtain ⟨k,hk⟩:=(check20_f hn hF m3 m4).rounds
 rw [hc] at hk
 exact penumbraref20_Check.calls k F.f0 F.f1 F.f2 A3 c3 F.f3 A4 c4 F.f4 b w h3 l3 h4 l4 hk
theorem new20_sem {W h b : Int} {M : Nat} (hs : szs W h b=true) (hM : (M : Int)=W * h * b) (w : World) :
  Calls Try.prog 20 #[.int .i64 W,.int .i64 h,.int .i64 b] w fun e w'=>∃ ad c ad2 c2,e=.returned (.tuple #[.agg #[.int .i64 W,.int .i64 h,.int .i64 b,.slice (some ad) M c,.slice (some ad2) M c2],.bool true])∧M≤c∧M≤c2∧Rows w' w.heap.size (zeroQ M) ad c ad2 c2∧Below w.heap.size w w':=by
 have hp:=szs_prod hs
 have hp1:=szs_pos hs
 obtain ⟨k,hk⟩:=(new20_f hs hM (by omega) ⟨hp.1,hp.2.1⟩).rounds
 refine (penumbraref20_New.calls k W h b _ _ _ _ _ _ w hk).mono ?_
 rintro e w1 ⟨v3,v4,rfl,h3,h4,hb⟩
 have hne:=(Kd.S_R h3).1
 have f3:=FRow.of_R (Kd.S_R h3)
 have f4:=FRow.of_R (Kd.S_R h4)
 have e1 : (List.replicate M (mkR 0)).length=M:=List.length_replicate
 obtain ⟨ad,c,rfl,l1,o1⟩:=f3.orow (by rw [e1];omega)
 obtain ⟨ad2,c2,rfl,l2,o2⟩:=f4.orow (by rw [e1];omega)
 rw [e1] at l1 l2 ⊢
 refine ⟨ad,c,ad2,c2,rfl,l1,l2,⟨?_,?_,?_⟩,hb⟩
 ·show ORow w1 _ ad c ((List.replicate M (0 : Rat)).map mkR)
  rw [List.map_replicate]
  exact o1
 ·show ORow w1 _ ad2 c2 ((List.replicate M (0 : Rat)).map mkR)
  rw [List.map_replicate]
  exact o2
 ·intro e
  rw [o1.z,o2.z] at hne
  exact hne ad.block rfl (by simp [Value.ownBlock,e])
theorem new20_none {W h b : Int} (hs : szs W h b=false) (w : World) :
  Calls Try.prog 20 #[.int .i64 W,.int .i64 h,.int .i64 b] w fun e w'=>∃ A n c B m d,e=.returned (.tuple #[.agg #[.int .i64 0,.int .i64 0,.int .i64 0,.slice A n c,.slice B m d],.bool false])∧Below w.heap.size w w':=by
 obtain ⟨k,hk⟩:=(new20_no hs).rounds
 refine (penumbraref20_New.calls k W h b _ _ _ _ _ _ w hk).mono ?_
 rintro e w1 ⟨v3,v4,rfl,h3,h4,hb⟩
 obtain ⟨A,c,rfl,_⟩:=(FRow.of_R (Kd.S_R h3)).slice_
 obtain ⟨B,d,rfl,_⟩:=(FRow.of_R (Kd.S_R h4)).slice_
 exact ⟨A,_,c,B,_,d,rfl,hb⟩
end Go.Proofs.Ytjiaobcoeegioaa.Pq
end
