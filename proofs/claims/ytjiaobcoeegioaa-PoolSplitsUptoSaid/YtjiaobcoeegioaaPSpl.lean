import Derived.Test.YtjiaobcoeegioaaPBas6
import Derived.Test.YtjiaobcoeegioaaProg
import Derived.Test.YtjiaobcoeegioaaRows
set_option linter.unusedVariables false
set_option linter.unusedSimpArgs false
section
namespace Go.Proofs.Ytjiaobcoeegioaa.Pq
open Go.RowKit Go.Proofs.YtjiaobcoeegioaaW.PrintWords Go.Proofs.YtjiaobcoeegioaaW.PrintLast Go.Proofs.YtjiaobcoeegioaaW.PrintMore Go.Proofs.Ytjiaobcoeegioaa.N
set_option linter.unusedVariables false
set_option linter.unusedSimpArgs false
theorem sumQ_app {l m : List QF} (hl : l≠[]) (hm : m≠[]) : sumQ (l++m)=(sumQ l).add (sumQ m):=by
 cases l with
|nil=>exact absurd rfl hl
|cons a l =>
  cases m with
 |nil=>exact absurd rfl hm
 |cons b m =>
   show (l++b :: m).foldl QF.add a=(l.foldl QF.add a).add (m.foldl QF.add b)
   rw [List.foldl_append,List.foldl_cons,foldl_add]
theorem mayB_map {qs : List QF} {W h b : Int} {k : Int} (hs : szs W h b=true) (hq : ∀ q∈qs,q.fits W h b) (hne : qs≠[]) (hl : qs.length≤4096) (h1 : 1≤k) (h2 : k≤64) : mayB (qs.map (mkF W h b)) k=true:=by
 have h0 : 0 < (qs.map (mkF W h b)).length:=by rw [List.length_map];exact List.length_pos_iff.mpr hne
 refine (mayB_iff h0).mpr ⟨by rw [List.length_map];exact hl,h1,h2,fun i hi=>?_⟩
 rw [List.length_map] at hi
 rw [List.getElem_map,List.getElem_map]
 unfold good
 rw [chkF_mkF hs (hq _ (List.getElem_mem hi))]
 show (true && (W == W) && (h == h) && (b == b))=true
 simp
theorem map_qF (qs : List QF) (W h b : Int) : (qs.map (mkF W h b)).map qF=qs:=by
 rw [List.map_map]
 exact (List.map_congr_left fun q _=>qF_mkF W h b q).trans (List.map_id' qs)
theorem resF_map {qs : List QF} {W h b : Int} {k : Int} (hs : szs W h b=true) (hq : ∀ q∈qs,q.fits W h b) (hne : qs≠[]) (hl : qs.length≤4096) (h1 : 1≤k) (h2 : k≤64) : resF (qs.map (mkF W h b)) k=mkF W h b (sumQ qs):=by
 unfold resF
 rw [mayB_map hs hq hne hl h1 h2,if_pos rfl,map_qF]
 cases qs with
|nil=>exact absurd rfl hne
|cons q l=>rfl
theorem parts_sub {Fs Gs : List S27} {n0 : Nat} (H : Parts Fs n0) (hs : ∀ F∈Gs,F∈Fs) (ht : tot (Gs.map qF)≤tot (Fs.map qF)) : Parts Gs n0:=⟨H.n,fun F hF=>H.wf F (hs F hF),Nat.lt_of_le_of_lt ht H.tot⟩
theorem parts_take {Fs : List S27} {n0 : Nat} (H : Parts Fs n0) (a : Nat) : Parts (Fs.take a) n0:=parts_sub H (fun F hF=>List.mem_of_mem_take hF) (by rw [List.map_take];exact tot_take _ _)
theorem parts_drop {Fs : List S27} {n0 : Nat} (H : Parts Fs n0) (a : Nat) : Parts (Fs.drop a) n0:=parts_sub H (fun F hF=>List.mem_of_mem_drop hF) (by
 rw [List.map_drop]
 have h1:=tot_app ((Fs.map qF).take a) ((Fs.map qF).drop a)
 rw [List.take_append_drop] at h1
 omega)
structure Cut (F1 F2 F3 : S27) (o2 o3 : Bool) : Prop where
 ex : ∃ (W h b : Int) (M : Nat) (q p : QF),szs W h b=true∧(M : Int)=W * h * b∧(∀ x∈[q,p],x.fits W h b)∧tot [q,p] < 10000000∧F2=mkF W h b q∧F3=mkF W h b p∧F1=mkF W h b (q.add p)∧o2=true∧o3=true
theorem cut_oks {F1 F2 F3 : S27} {o2 o3 : Bool} (H : Cut F1 F2 F3 o2 o3) : o2=true∧o3=true:=by
 obtain ⟨W,h,b,M,q,p,_,_,_,_,_,_,_,h1,h2⟩:=H.ex
 exact ⟨h1,h2⟩
theorem cut_mk {Fs : List S27} {n0 : Nat} (H : Parts Fs n0) {a : Nat} (h1 : 1≤a) (h2 : a < Fs.length) (hl : Fs.length≤60) (hm : mayB Fs 3=true) : Cut (resF Fs 3) (resF (Fs.take a) 2) (resF (Fs.drop a) 4) (mayB (Fs.take a) 2) (mayB (Fs.drop a) 4):=by
 obtain ⟨h0,_,_,_,W,h,b,M,hs,hM,e,hq,hF⟩:=may_facts hm
 obtain ⟨qs,eqs⟩ : ∃ qs,Fs.map qF=qs:=⟨_,rfl⟩
 have ht:=H.tot
 rw [eqs] at hq hF ht
 have hlen : qs.length=Fs.length:=by rw [← eqs,List.length_map]
 have n1 : qs≠[]:=fun e=>by rw [e] at hlen;simp at hlen;omega
 have n2 : qs.take a≠[]:=fun e=>by
  have:=congrArg List.length e
  rw [List.length_take,List.length_nil] at this
  omega
 have n3 : qs.drop a≠[]:=fun e=>by
  have:=congrArg List.length e
  rw [List.length_drop,List.length_nil] at this
  omega
 have q2 : ∀ q∈qs.take a,q.fits W h b:=fun q hx=>hq q (List.mem_of_mem_take hx)
 have q3 : ∀ q∈qs.drop a,q.fits W h b:=fun q hx=>hq q (List.mem_of_mem_drop hx)
 have l2 : (qs.take a).length≤4096:=by rw [List.length_take];omega
 have l3 : (qs.drop a).length≤4096:=by rw [List.length_drop];omega
 have es : sumQ qs=(sumQ (qs.take a)).add (sumQ (qs.drop a)):=by
  rw [← sumQ_app n2 n3,List.take_append_drop]
 have t1:=sumQ_sz (qs.take a)
 have t2:=sumQ_sz (qs.drop a)
 have t3:=tot_app (qs.take a) (qs.drop a)
 rw [List.take_append_drop] at t3
 rw [hF,← List.map_take,← List.map_drop]
 refine ⟨W,h,b,M,sumQ (qs.take a),sumQ (qs.drop a),hs,hM,fun x hx=>?_,?_,resF_map hs q2 n2 l2 (by decide) (by decide),resF_map hs q3 n3 l3 (by decide) (by decide),?_,mayB_map hs q2 n2 l2 (by decide) (by decide),mayB_map hs q3 n3 l3 (by decide) (by decide)⟩
 ·rcases List.mem_cons.mp hx with rfl|hx
  ·exact sumQ_fits n2 q2
  ·rcases List.mem_cons.mp hx with rfl|hx
   ·exact sumQ_fits n3 q3
   ·cases hx
 ·unfold tot at t1 t2 t3 ht ⊢
  simp only [List.map_cons,List.map_nil,List.sum_cons,List.sum_nil]
  omega
 ·rw [← es]
  exact resF_map hs hq n1 (by omega) (by decide) (by decide)
theorem sumF {F1 F2 F3 : S27} {o2 o3 : Bool} (H : Cut F1 F2 F3 o2 o3) {w : World} {a3 a4 b3 b4 : Option Addr} {c3 c4 d3 d4 : Nat} (l3 : F2.f3.length≤c3) (l4 : F2.f4.length≤c4) (m3 : F3.f3.length≤d3) (m4 : F3.f4.length≤d4) (g3 : Kd.C k63 w a3 F2.f3.length F2.f3) (g4 : Kd.C k63 w a4 F2.f4.length F2.f4) (r3 : Kd.C k63 w b3 F3.f3.length F3.f3) (r4 : Kd.C k63 w b4 F3.f4.length F3.f4) :
  Calls Try.prog 14 #[.slice (some ⟨w.heap.size,0,none⟩) 2 2] (w.alloc (.cells #[.int .i64 F2.f0,.int .i64 F2.f1,.int .i64 F2.f2,.slice a3 F2.f3.length c3,.slice a4 F2.f4.length c4,.int .i64 F3.f0,.int .i64 F3.f1,.int .i64 F3.f2,.slice b3 F3.f3.length d3,.slice b4 F3.f4.length d4] 27)) fun e w'=>∃ A c B d,e=.returned (.tuple #[.agg #[.int .i64 F1.f0,.int .i64 F1.f1,.int .i64 F1.f2,.slice A F1.f3.length c,.slice B F1.f4.length d],.bool true])∧F1.f3.length≤c∧F1.f4.length≤d∧Kd.C k63 w' A F1.f3.length F1.f3∧Kd.C k63 w' B F1.f4.length F1.f4∧Below w.heap.size w w':=by
 obtain ⟨W,h,b,M,q,p,hs,hM,hq,ht,e2,e3,e1,_,_⟩:=H.ex
 have hb:=below_alloc (Below.refl w.heap.size w) (.cells #[.int .i64 F2.f0,.int .i64 F2.f1,.int .i64 F2.f2,.slice a3 F2.f3.length c3,.slice a4 F2.f4.length c4,.int .i64 F3.f0,.int .i64 F3.f1,.int .i64 F3.f2,.slice b3 F3.f3.length d3,.slice b4 F3.f4.length d4] 27)
 have hl:=film_lit (W:=w) (k27_mk w F2 l3 g3 l4 g4) (k27_mk w F3 m3 r3 m4 r4)
 rw [show [F2,F3]=[q,p].map (mkF W h b) by rw [e2,e3];rfl] at hl
 refine (filmsum2 hs hM hq ht hl).mono ?_
 rintro e w' ⟨ad,c,ad2,c2,rfl,lc,lc2,hrw,hb2⟩
 have hf:=QF.fits_add (hq q (by simp)) (hq p (by simp))
 obtain ⟨n1,n2⟩:=q_len hM hf
 have r1:=(ORow.reads hrw.a).2.now (W:=w')
 have r2:=(ORow.reads hrw.b).2.now (W:=w')
 subst e1
 dsimp only [mkF]
 refine ⟨some ad,c,some ad2,c2,?_,by rw [n1];exact lc,by rw [n2];exact lc2,r1,r2,below_step hb hb2⟩
 rw [n1,n2]
theorem play_ansN {n0 : Nat} {Fs : List S27} (H : Parts Fs n0) (k : Int) (hk0 : -9223372036854775808≤k∧k≤9223372036854775807) {A0 : Option Addr} {c0 n : Nat} {w : World} (hr : Kd.C k27 w A0 Fs.length Fs) (hn : Fs.length=n) {picks : List Int} {Ap : Option Addr} {cp np : Nat} (hp : (Kd.int .i64).C w Ap picks.length picks) (hnp : picks.length=np) {F : S27} {D : List Int} {N : Int} {ok : Bool} (eF : resF Fs k=F) (eD : resD Fs k picks=D) (eN : resN Fs k=N) (eo : mayB Fs k=ok) :
  Calls Try.prog 9 #[.slice A0 n c0,.int .i64 k,.slice Ap np cp] w fun e w'=>Ans F D N ok w e w':=by
 subst hn hnp
 exact play_ans H k hk0 hr hp eF eD eN eo
theorem drop27 {Fs : List S27} {w : World} {A : Option Addr} {a c : Nat} (h : Kd.C k27 w A Fs.length Fs) (ha : a≤Fs.length) (hc : Fs.length≤c) (hne : c≠a) : Kd.C k27 w (A.map (fun x=>x.add (a * 5))) (Fs.drop a).length (Fs.drop a):=by
 have h1:=Kd.C_drop h ha hc
 rw [if_neg hne] at h1
 exact h1
set_option maxHeartbeats 4000000 in
set_option maxRecDepth 100000 in
theorem splits_walk {n0 : Nat} {Fs : List S27} (H : Parts Fs n0) (k : Int) (hk0 : -9223372036854775808≤k∧k≤9223372036854775807) (A0 : Option Addr) (c0 : Nat) (l0 : Fs.length≤c0) (w : World) (hr : Kd.C k27 w A0 Fs.length Fs) (picks : List Int) (Ap : Option Addr) (cp : Nat) (hp : (Kd.int .i64).C w Ap picks.length picks) :
  Calls Try.prog 7 #[.slice A0 Fs.length c0,.int .i64 k,.slice Ap picks.length cp] w fun e w'=>e=.returned (.bool true)∧Below w.heap.size w w':=by
 have HP:=Aside0.mk (And.intro H (And.intro hr hp))
 clear H hr hp
 have fx : ∀ w : World,Calls Try.prog 8 #[] w fun e w'=>e=.returned (.bool true)∧Below w.heap.size w w':=fixed_true
 have FX:=Aside0.mk fx
 clear fx
 go_enter Try.func7,Try.ntmps7
 rcases Nat.lt_or_ge 60 Fs.length with h1|h1
 ·have cz : decide (60 < (Fs.length : Int))=true:=decide_eq_true (by omega)
  go_wp2_with (first
  |(go_at_call 8;(with_reducible refine (FX.out _).mono ?_);rintro e w1 ⟨rfl,hb⟩;have HB:=Aside0.mk hb;clear hb;clear FX)
  |(go_at_call 8;(with_reducible refine (fixed_true _).mono ?_);rintro e w2 ⟨rfl,hb⟩;replace HB:=Aside0.mk (below_step HB.out hb);clear hb))
  go_ret
  exact ⟨rfl,HB.out⟩
 have cz : decide (60 < (Fs.length : Int))=false:=decide_eq_false (by omega)
 rcases Int.lt_or_le k 1 with h2|h2
 ·have cz1 : decide (k < 1)=true:=decide_eq_true h2
  go_wp2_with (first
  |(go_at_call 8;(with_reducible refine (FX.out _).mono ?_);rintro e w1 ⟨rfl,hb⟩;have HB:=Aside0.mk hb;clear hb;clear FX)
  |(go_at_call 8;(with_reducible refine (fixed_true _).mono ?_);rintro e w2 ⟨rfl,hb⟩;replace HB:=Aside0.mk (below_step HB.out hb);clear hb))
  go_ret
  exact ⟨rfl,HB.out⟩
 have cz1 : decide (k < 1)=false:=decide_eq_false (by omega)
 rcases Int.lt_or_le k (Fs.length : Int) with h3|h3
 ·have cz2 : decide ((Fs.length : Int)≤k)=false:=decide_eq_false (by omega)
  obtain ⟨a,ea⟩ : ∃ a : Nat,k=a:=⟨k.toNat,by omega⟩
  have hk3 : 0≤k:=by omega
  have hsm1:=resF_small HP.out.1 3
  have hcut:=cut_mk HP.out.1 (a:=a) (by omega) (by omega) h1
  obtain ⟨F1,f1⟩ : ∃ z,resF Fs 3=z:=⟨_,rfl⟩
  obtain ⟨F2,f2⟩ : ∃ z,resF (Fs.take a) 2=z:=⟨_,rfl⟩
  obtain ⟨F3,f3⟩ : ∃ z,resF (Fs.drop a) 4=z:=⟨_,rfl⟩
  obtain ⟨D1,d1⟩ : ∃ z,resD Fs 3 picks=z:=⟨_,rfl⟩
  obtain ⟨D2,d2⟩ : ∃ z,resD (Fs.take a) 2 picks=z:=⟨_,rfl⟩
  obtain ⟨D3_,d3⟩ : ∃ z,resD (Fs.drop a) 4 []=z:=⟨_,rfl⟩
  obtain ⟨N1,n1⟩ : ∃ z,resN Fs 3=z:=⟨_,rfl⟩
  obtain ⟨N2,n2⟩ : ∃ z,resN (Fs.take a) 2=z:=⟨_,rfl⟩
  obtain ⟨N3,n3⟩ : ∃ z,resN (Fs.drop a) 4=z:=⟨_,rfl⟩
  obtain ⟨o1,m1⟩ : ∃ z,mayB Fs 3=z:=⟨_,rfl⟩
  obtain ⟨o2,m2⟩ : ∃ z,mayB (Fs.take a) 2=z:=⟨_,rfl⟩
  obtain ⟨o3,m3⟩ : ∃ z,mayB (Fs.drop a) 4=z:=⟨_,rfl⟩
  rw [f1,f2,f3,m1,m2,m3] at hcut
  rw [f1] at hsm1
  have HR1:=Aside0.mk (And.intro f1 (And.intro d1 (And.intro n1 m1)))
  have HR2:=Aside0.mk (And.intro f2 (And.intro d2 (And.intro n2 m2)))
  have HR3:=Aside0.mk (And.intro f3 (And.intro d3 (And.intro n3 m3)))
  have HCUT:=Aside0.mk hcut
  have HS:=Aside0.mk hsm1
  have HL:=Aside0.mk (show 1≤a∧a < Fs.length∧Fs.length≤60∧Fs.length≤c0 from ⟨by omega,by omega,h1,l0⟩)
  clear f1 d1 n1 m1 f2 d2 n2 m2 f3 d3 n3 m3 hcut hsm1 h1 h2 h3 hk0 l0 hk3
  have HA:=Aside0.mk ea
  clear ea
  go_upto_region 3 with (first
  |(go_at_call 8;(with_reducible refine (fixed_true _).mono ?_);rintro e w0 ⟨rfl,hb⟩;have HB:=Aside0.mk hb;clear hb))
  clear cz cz1 cz2
  obtain ⟨rfl⟩:=HA.out
  clear HA
  go_upto_region 4 with (first
  |(go_at_call 9;(with_reducible refine (play_ans HP.out.1 3 (by decide) (Kd.C_below HP.out.2.1 HB.out) (Kd.C_below HP.out.2.2 HB.out) HR1.out.1 HR1.out.2.1 HR1.out.2.2.1 HR1.out.2.2.2).mono ?_);rintro e w1 ⟨A3,c3,A4,c4,Ad,cd,rfl,la,lb,g3,g4,_,_,hb⟩;have HF1:=Aside0.mk (And.intro la (And.intro lb (And.intro g3 g4)));replace HB:=Aside0.mk (below_step HB.out hb);clear la lb g3 g4 hb))
  have hb:=below_alloc (Below.refl w1.heap.size w1) (.cells #[.int .i64 F1.f0,.int .i64 F1.f1,.int .i64 F1.f2,.slice A3 F1.f3.length c3,.slice A4 F1.f4.length c4] 27)
  replace HB:=Aside0.mk (below_step HB.out hb)
  replace HF1:=Aside0.mk (And.intro HF1.out.1 (And.intro HF1.out.2.1 (And.intro (Kd.C_below HF1.out.2.2.1 hb) (Kd.C_below HF1.out.2.2.2 hb))))
  have BF1:=Aside0.mk (blk_new w1 (.cells #[.int .i64 F1.f0,.int .i64 F1.f1,.int .i64 F1.f2,.slice A3 F1.f3.length c3,.slice A4 F1.f4.length c4] 27))
  obtain ⟨wa,hwa⟩ : ∃ z,w1.alloc (.cells #[.int .i64 F1.f0,.int .i64 F1.f1,.int .i64 F1.f2,.slice A3 F1.f3.length c3,.slice A4 F1.f4.length c4] 27)=z:=⟨_,rfl⟩
  obtain ⟨G1,hG⟩ : ∃ z,w1.heap.size=z:=⟨_,rfl⟩
  rw [hwa] at HB HF1 BF1 ⊢
  rw [hG] at BF1 ⊢
  clear hwa hG hb
  have hal : a < Fs.length:=HL.out.2.1
  have hac : a≤c0:=by have:=HL.out.2.2.2;omega
  go_upto_region 5 with (first
  |(go_at_call 9;(with_reducible refine (play_ansN (parts_take HP.out.1 a) 2 (by decide) (Kd.C_below (Kd.C_take HP.out.2.1 (Nat.le_of_lt HL.out.2.1)) HB.out) (by rw [List.length_take];exact Nat.min_eq_left (Nat.le_of_lt HL.out.2.1)) (Kd.C_below HP.out.2.2 HB.out) rfl HR2.out.1 HR2.out.2.1 HR2.out.2.2.1 HR2.out.2.2.2).mono ?_);rintro e w2 ⟨B3,e3,B4,e4,Bd,ed,rfl,la,lb,g3,g4,_,_,hb⟩;have HF2:=Aside0.mk (And.intro la (And.intro lb (And.intro g3 g4)));replace HB:=Aside0.mk (below_step HB.out hb);replace HF1:=Aside0.mk (And.intro HF1.out.1 (And.intro HF1.out.2.1 (And.intro (Kd.C_below HF1.out.2.2.1 hb) (Kd.C_below HF1.out.2.2.2 hb))));replace BF1:=Aside0.mk (blk_below BF1.out hb);clear la lb g3 g4 hb))
  have hb:=below_alloc (Below.refl w2.heap.size w2) (.cells #[.int .i64 F2.f0,.int .i64 F2.f1,.int .i64 F2.f2,.slice B3 F2.f3.length e3,.slice B4 F2.f4.length e4] 27)
  replace HB:=Aside0.mk (below_step HB.out hb)
  replace HF1:=Aside0.mk (And.intro HF1.out.1 (And.intro HF1.out.2.1 (And.intro (Kd.C_below HF1.out.2.2.1 hb) (Kd.C_below HF1.out.2.2.2 hb))))
  replace BF1:=Aside0.mk (blk_below BF1.out hb)
  replace HF2:=Aside0.mk (And.intro HF2.out.1 (And.intro HF2.out.2.1 (And.intro (Kd.C_below HF2.out.2.2.1 hb) (Kd.C_below HF2.out.2.2.2 hb))))
  have BF2:=Aside0.mk (blk_new w2 (.cells #[.int .i64 F2.f0,.int .i64 F2.f1,.int .i64 F2.f2,.slice B3 F2.f3.length e3,.slice B4 F2.f4.length e4] 27))
  obtain ⟨wa,hwa⟩ : ∃ z,w2.alloc (.cells #[.int .i64 F2.f0,.int .i64 F2.f1,.int .i64 F2.f2,.slice B3 F2.f3.length e3,.slice B4 F2.f4.length e4] 27)=z:=⟨_,rfl⟩
  obtain ⟨G2,hG⟩ : ∃ z,w2.heap.size=z:=⟨_,rfl⟩
  rw [hwa] at HB HF1 BF1 HF2 BF2 ⊢
  rw [hG] at BF2 ⊢
  clear hwa hG hb
  have hca : c0≠a:=by have:=HL.out.2.2.2;omega
  go_upto_region 6 with (first
  |(go_at_call 9;(refine (play_ansN (parts_drop HP.out.1 a) 4 (by decide) (Kd.C_below (drop27 HP.out.2.1 (Nat.le_of_lt HL.out.2.1) HL.out.2.2.2 hca) HB.out) (by rw [List.length_drop]) (Kd.C_nil (Kd.int .i64) _) (by rfl) HR3.out.1 HR3.out.2.1 HR3.out.2.2.1 HR3.out.2.2.2).mono ?_);rintro e w3 ⟨D3,u3,D4,u4,Dd,ud,rfl,la,lb,g3,g4,_,_,hb⟩;have HF3:=Aside0.mk (And.intro la (And.intro lb (And.intro g3 g4)));replace HB:=Aside0.mk (below_step HB.out hb);replace HF1:=Aside0.mk (And.intro HF1.out.1 (And.intro HF1.out.2.1 (And.intro (Kd.C_below HF1.out.2.2.1 hb) (Kd.C_below HF1.out.2.2.2 hb))));replace BF1:=Aside0.mk (blk_below BF1.out hb);replace HF2:=Aside0.mk (And.intro HF2.out.1 (And.intro HF2.out.2.1 (And.intro (Kd.C_below HF2.out.2.2.1 hb) (Kd.C_below HF2.out.2.2.2 hb))));replace BF2:=Aside0.mk (blk_below BF2.out hb);clear la lb g3 g4 hb))
  have hb:=below_alloc (Below.refl w3.heap.size w3) (.cells #[.int .i64 F3.f0,.int .i64 F3.f1,.int .i64 F3.f2,.slice D3 F3.f3.length u3,.slice D4 F3.f4.length u4] 27)
  replace HB:=Aside0.mk (below_step HB.out hb)
  replace HF1:=Aside0.mk (And.intro HF1.out.1 (And.intro HF1.out.2.1 (And.intro (Kd.C_below HF1.out.2.2.1 hb) (Kd.C_below HF1.out.2.2.2 hb))))
  replace BF1:=Aside0.mk (blk_below BF1.out hb)
  replace HF2:=Aside0.mk (And.intro HF2.out.1 (And.intro HF2.out.2.1 (And.intro (Kd.C_below HF2.out.2.2.1 hb) (Kd.C_below HF2.out.2.2.2 hb))))
  replace BF2:=Aside0.mk (blk_below BF2.out hb)
  replace HF3:=Aside0.mk (And.intro HF3.out.1 (And.intro HF3.out.2.1 (And.intro (Kd.C_below HF3.out.2.2.1 hb) (Kd.C_below HF3.out.2.2.2 hb))))
  have BF3:=Aside0.mk (blk_new w3 (.cells #[.int .i64 F3.f0,.int .i64 F3.f1,.int .i64 F3.f2,.slice D3 F3.f3.length u3,.slice D4 F3.f4.length u4] 27))
  obtain ⟨wa,hwa⟩ : ∃ z,w3.alloc (.cells #[.int .i64 F3.f0,.int .i64 F3.f1,.int .i64 F3.f2,.slice D3 F3.f3.length u3,.slice D4 F3.f4.length u4] 27)=z:=⟨_,rfl⟩
  obtain ⟨G3,hG⟩ : ∃ z,w3.heap.size=z:=⟨_,rfl⟩
  rw [hwa] at HB HF1 BF1 HF2 BF2 HF3 BF3 ⊢
  rw [hG] at BF3 ⊢
  clear hwa hG hb
  clear hal hac hca
  cases o1
  ·go_wp2
   go_ret
   exact ⟨rfl,HB.out⟩
  have HC:=Aside0.mk (HCUT.out rfl)
  clear HCUT
  obtain ⟨rfl,rfl⟩:=cut_oks HC.out
  have q2:=cells5 BF2.out
  have q3:=cells5 BF3.out
  go_upto_region 9 with (first
  |(go_at_call 14;(with_reducible refine (sumF HC.out HF2.out.1 HF2.out.2.1 HF3.out.1 HF3.out.2.1 HF2.out.2.2.1 HF2.out.2.2.2 HF3.out.2.2.1 HF3.out.2.2.2).mono ?_);rintro e w4 ⟨S3,s3,S4,s4,rfl,la,lb,g3,g4,hb⟩;have HF4:=Aside0.mk (And.intro la (And.intro lb (And.intro g3 g4)));replace HB:=Aside0.mk (below_step HB.out hb);replace HF1:=Aside0.mk (And.intro HF1.out.1 (And.intro HF1.out.2.1 (And.intro (Kd.C_below HF1.out.2.2.1 hb) (Kd.C_below HF1.out.2.2.2 hb))));replace BF1:=Aside0.mk (blk_below BF1.out hb);clear la lb g3 g4 hb q2 q3))
  have hb:=below_alloc (Below.refl w4.heap.size w4) (.cells #[.int .i64 F1.f0,.int .i64 F1.f1,.int .i64 F1.f2,.slice S3 F1.f3.length s3,.slice S4 F1.f4.length s4] 27)
  have q4:=cells5 (blk_new w4 (.cells #[.int .i64 F1.f0,.int .i64 F1.f1,.int .i64 F1.f2,.slice S3 F1.f3.length s3,.slice S4 F1.f4.length s4] 27))
  replace HF4:=Aside0.mk (And.intro HF4.out.1 (And.intro HF4.out.2.1 (And.intro (Kd.C_below HF4.out.2.2.1 hb) (Kd.C_below HF4.out.2.2.2 hb))))
  replace HB:=Aside0.mk (below_step HB.out hb)
  replace HF1:=Aside0.mk (And.intro HF1.out.1 (And.intro HF1.out.2.1 (And.intro (Kd.C_below HF1.out.2.2.1 hb) (Kd.C_below HF1.out.2.2.2 hb))))
  replace BF1:=Aside0.mk (blk_below BF1.out hb)
  have q1:=cells5 BF1.out
  obtain ⟨wz,hwz⟩ : ∃ z,w4.alloc (.cells #[.int .i64 F1.f0,.int .i64 F1.f1,.int .i64 F1.f2,.slice S3 F1.f3.length s3,.slice S4 F1.f4.length s4] 27)=z:=⟨_,rfl⟩
  obtain ⟨G4,hG⟩ : ∃ z,w4.heap.size=z:=⟨_,rfl⟩
  rw [hwz] at HF4 HF1 HB BF1 q1 q4 ⊢
  rw [hG] at q4 ⊢
  clear hwz hG hb
  go_wp2_with (first
  |(go_at_call 11;(with_reducible refine (isF HS.out HF4.out.1 HF4.out.2.1 HF1.out.1 HF1.out.2.1 HF4.out.2.2.1 HF4.out.2.2.2 HF1.out.2.2.1 HF1.out.2.2.2).mono ?_);rintro e w5 ⟨rfl,hb⟩;replace HB:=Aside0.mk (below_step HB.out hb);clear hb))
  go_ret
  exact ⟨rfl,HB.out⟩
 ·have cz2 : decide ((Fs.length : Int)≤k)=true:=decide_eq_true h3
  go_wp2_with (first
  |(go_at_call 8;(with_reducible refine (FX.out _).mono ?_);rintro e w1 ⟨rfl,hb⟩;have HB:=Aside0.mk hb;clear hb;clear FX)
  |(go_at_call 8;(with_reducible refine (fixed_true _).mono ?_);rintro e w2 ⟨rfl,hb⟩;replace HB:=Aside0.mk (below_step HB.out hb);clear hb))
  go_ret
  exact ⟨rfl,HB.out⟩
end Go.Proofs.Ytjiaobcoeegioaa.Pq
end
section
namespace Go.Proofs.Ytjiaobcoeegioaa.poolSplits
open Go.ChangeShapes Go.WideShapes Go.ChangeAt Go.RowKit
set_option linter.unusedVariables false
theorem own : ownKnob Try.prog.godebug=none:=by kernel_rfl
theorem laidOut : laidOutB Try.prog=true:=by kernel_rfl
set_option maxRecDepth 100000 in
theorem lifted (os : Os) (started : os.Started) (H : Type) (enc : TypeId × Value→H) (F : Stop.Interp) :
  ReturnsInHanded {} Try.checked os 7 .any ((Rows.OpenSpec.upto Rows.poolSplitsSpec).pre6 enc Try.prog Try.f7 Rows.poolSplitsUptoRow.domain false) (((Rows.OpenSpec.upto Rows.poolSplitsSpec).at F).post enc Try.prog Try.f7 false true false false):=by
 refine returnsInHanded_of_cond (C:=Try.checked) (s:=(Rows.OpenSpec.upto Rows.poolSplitsSpec)) (k:=Rows.uptoSmall) rfl own started (by kernel_rfl) Try.func7
  (OpenSpec.witness (enc:=enc) (C:=Try.checked) (s:=(Rows.OpenSpec.upto Rows.poolSplitsSpec)) (k:=Rows.uptoSmall) rfl false ⟨#[],#[.slice none 0 0,.int .i64 0,.slice none 0 0],[]⟩ 8 (by kernel_rfl) (by kernel_rfl) (by kernel_rfl)
   (x:=([.nil,.lit (.int .i64 0),.nil],[],[])) (by kernel_rfl) rfl (by kernel_rfl)) ?_
 intro W base args ds gs before hval0 hW hcnd hk0 _
 have hval : ∀ (j : Nat) t v,Try.f7.params[j]? = some t→args[j]? = some v→Value.okWide Try.prog W .any base t v:=hval0
 have hW':=hW
 obtain ⟨p,q,hA0,hV,rfl,hfz,hnd⟩:=hW
 have hA : DataW.TrodAll enc Try.prog W 0 (fun _=>true) true Try.f7.params.toList args.toList ds p:=hA0
 rw [Try.params7] at hA hval
 obtain ⟨v0,vs0,d0,ds0,p0,q0,hargs,rfl,rfl,h0,r0⟩:=trodAll_cons hA
 obtain ⟨v1,vs1,d1,ds1,p1,q1,rfl,rfl,rfl,h1,r1⟩:=trodAll_cons r0
 obtain ⟨v2,vs2,d2,ds2,p2,q2,rfl,rfl,rfl,h2,r2⟩:=trodAll_cons r1
 obtain ⟨rfl,rfl,rfl⟩:=trodAll_nil r2
 obtain rfl : args=#[v0,v1,v2]:=by cases args;simp_all
 obtain ⟨rfl,rfl⟩:=trodVars_none hV
 obtain ⟨a0,len0,cap0,rfl⟩:=okWide_slice Try.underlying22 (hval 0 22 v0 rfl rfl)
 have k0:=h0
 have lt0 : ∀ x∈p0,x.block < W.heap.size:=by obtain ⟨m,hm⟩:=k0;exact DataW.trod_lt m _ _ _ hm
 obtain ⟨Fs,rfl,l0,g0,H0⟩:=Pq.open22 (Nat.le_trans (U.part_le (by simp)) (U.bound hk0)) h0
 obtain ⟨a1,rfl,rfl,rfl,w1⟩:=open_int Try.underlying3 (hval 1 3 v1 rfl rfl) h1
 have k1:=Pq.i64_wf w1
 obtain ⟨a2,len2,cap2,rfl⟩:=okWide_slice Try.underlying23 (hval 2 23 v2 rfl rfl)
 have k2:=h2
 have lt2 : ∀ x∈p2,x.block < W.heap.size:=by obtain ⟨m,hm⟩:=k2;exact DataW.trod_lt m _ _ _ hm
 obtain ⟨xs,rfl,l2,g2⟩:=Pq.open23 h2
 clear hA0 hval0
 refine (Pq.splits_walk H0 a1 k1 a0 cap0 l0 W g0 xs a2 cap2 g2).mono fun e W' ⟨he,bel⟩=>?_
 subst he
 exact ⟨_,rfl,_,_,_,[],_,[],hW',trodAll_mk1 (shut_bool Try.underlying4 _),(trodAll_cons_mk (Below.trod laidOut (by kernel_rfl) (of_decide_eq_true (by kernel_rfl)) k0 bel lt0) (trodAll_cons_mk (shut_int Try.underlying3 w1) (trodAll_cons_mk (Below.trod laidOut (by kernel_rfl) (of_decide_eq_true (by kernel_rfl)) k2 bel lt2) trodAll_mk0))),rfl,bel.frame _,fun h=>by cases h⟩
theorem over : Rows.poolSplitsUptoRow.holds Try.pinned (Rows.OpenSpec.upto Rows.poolSplitsSpec) :=
 OpenClaim.holds_of_cond 7 Try.f7 rfl rfl rfl rfl rfl rfl rfl ⟨rfl,rfl,rfl,rfl,rfl⟩ rfl rfl rfl rfl rfl (by kernel_rfl) Try.func7 (by kernel_rfl)
  (of_decide_eq_true (by kernel_rfl)) (by unfold Func.isWrapper;first|(rw [if_pos (by decide +kernel)];kernel_rfl)|(rw [if_neg (by decide +kernel)];exact ⟨rfl,rfl⟩))
  (fun os started H enc _ F=>lifted os started H enc F)
theorem proved : Rows.PoolSplitsUptoSaid:=over
#print axioms proved
end Go.Proofs.Ytjiaobcoeegioaa.poolSplits
namespace Go.Proofs.Ytjiaobcoeegioaa
theorem poolSplits_holds : Rows.PoolSplitsUptoSaid:=poolSplits.proved
end Go.Proofs.Ytjiaobcoeegioaa
end
