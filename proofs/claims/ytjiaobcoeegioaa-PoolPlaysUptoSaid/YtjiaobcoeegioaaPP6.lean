import Derived.Test.YtjiaobcoeegioaaPP5
set_option linter.unusedVariables false
set_option linter.unusedSimpArgs false
section
namespace Go.Proofs.Ytjiaobcoeegioaa.Pq
open Go.RowKit Go.Proofs.YtjiaobcoeegioaaW.PrintWords Go.Proofs.YtjiaobcoeegioaaW.PrintLast Go.Proofs.YtjiaobcoeegioaaW.PrintMore Go.Proofs.Ytjiaobcoeegioaa.N
open X
theorem sumR2 {q p : QF} {W h b : Int} {M : Nat} (hs : szs W h b=true) (hM : (M : Int)=W * h * b) (hq : ∀ x∈[q,p],x.fits W h b) (hsz : tot [q,p] < 9000000) {A0 : Option Addr} {c0 : Nat} {w : World} (hr : Kd.C k27 w A0 2 ([q,p].map (mkF W h b))) :
  Calls Try.prog 25 #[.slice A0 2 c0] w fun e w'=>∃ ad c ad2 c2,e=.returned (.tuple #[.agg #[.int .i64 W,.int .i64 h,.int .i64 b,.slice (some ad) M c,.slice (some ad2) M c2],.bool true])∧M≤c∧M≤c2∧Rows w' w.heap.size (q.add p) ad c ad2 c2∧Below w.heap.size w w':=by
 have hp:=szs_prod hs
 have h1 : ∀ F∈[q,p].map (mkF W h b),F.f0=W∧F.f1=h∧F.f2=b∧F.f3.length=M∧F.f4.length=M∧WfF 9000000 F∧chkF F=true:=fun F hF=>by
  obtain ⟨x,hx,rfl⟩:=List.mem_map.mp hF;obtain ⟨e1,e2⟩:=q_len hM (hq x hx);have h2:=tot_mem hx;exact ⟨rfl,rfl,rfl,e1,e2,⟨fun y hy=>((wfF_mkF W h b x).1 y hy).up (by omega),fun y hy=>((wfF_mkF W h b x).2 y hy).up (by omega)⟩,chkF_mkF hs (hq x hx)⟩
 have eq : ([q,p].map (mkF W h b)).map qF=[q,p]:=by simp [qF_mkF]
 have hH : Parts ([q,p].map (mkF W h b)) 9000000:=⟨by decide,fun F hF=>(h1 F hF).2.2.2.2.2.1,by rw [eq];exact hsz⟩
 have hm : M < 4611686018427387904:=by have:=szs_pos hs;omega
 refine (sum20_sem hH (fun F hF=>⟨by rw [(h1 F hF).2.2.2.1];exact hm,by rw [(h1 F hF).2.2.2.2.1];exact hm⟩) A0 c0 w hr).mono ?_
 have hsb : sumB ([q,p].map (mkF W h b))=true:=by
  rw [sumB_iff (by simp)];intro i hi;obtain ⟨a1,a2,a3,_,_,_,a4⟩:=h1 _ (List.getElem_mem hi);obtain ⟨b1,b2,b3,_⟩:=h1 _ (List.getElem_mem (l:=[q,p].map (mkF W h b)) (n:=0) (by simp));unfold good;rw [a4,a1,a2,a3,b1,b2,b3];simp
 rintro e w' ⟨hb,⟨hno,_⟩|⟨_,W',h',b',M',_,hM',hall,ad,c,ad2,c2,he,l1,l2,hrw⟩⟩
 ·rw [hsb] at hno
  cases hno
 ·obtain ⟨e1,e2,e3⟩:=hall _ (List.getElem_mem (l:=[q,p].map (mkF W h b)) (n:=0) (by simp))
  obtain ⟨b1,b2,b3,_⟩:=h1 _ (List.getElem_mem (l:=[q,p].map (mkF W h b)) (n:=0) (by simp));rw [b1] at e1;rw [b2] at e2;rw [b3] at e3;subst e1 e2 e3
  obtain rfl : M'=M:=by omega
  rw [eq] at hrw;exact ⟨ad,c,ad2,c2,he,l1,l2,hrw,hb⟩
abbrev set5b (w : World) (P : Nat) (x y z u v : Value) : World:=((((w.setCell ⟨P,1,none⟩ x).setCell ⟨P,2,none⟩ y).setCell ⟨P,3,none⟩ z).setCell ⟨P,4,none⟩ u).setCell ⟨P,5,none⟩ v
theorem put10b {W : World} {g t : Nat} {v0 v1 v2 v3 v4 v5 v6 v7 v8 v9 : Value} (h : W.heap[g]? = some (.cells #[v0,v1,v2,v3,v4,v5,v6,v7,v8,v9] t (0,0))) (x y z u v : Value) : (set5b W g x y z u v).heap[g]? = some (.cells #[v0,x,y,z,u,v,v6,v7,v8,v9] t (0,0)) :=
 blk_put (cs:=#[v0,x,y,z,u,v5,v6,v7,v8,v9]) (blk_put (cs:=#[v0,x,y,z,v4,v5,v6,v7,v8,v9]) (blk_put (cs:=#[v0,x,y,v3,v4,v5,v6,v7,v8,v9]) (blk_put (cs:=#[v0,x,v2,v3,v4,v5,v6,v7,v8,v9]) (blk_put h 1 x rfl) 2 y rfl) 3 z rfl) 4 u rfl) 5 v rfl
section
variable {w0 w : World} {P Q : Nat} {W h b : Int} {M : Nat} {A0 : Option Addr} {n pc k : Nat} {s : PS} {q : QF}
theorem RPl.setF (H : RPl w0 w P Q W h b M A0 n pc k s q) {q' : QF} {ae ae2 : Addr} {ce ce2 : Nat} (l1 : M≤ce) (l2 : M≤ce2) (hr : Rows w w0.heap.size q' ae ce ae2 ce2) : RPl w0 (set5b w P (.int .i64 W) (.int .i64 h) (.int .i64 b) (.slice (some ae) M ce) (.slice (some ae2) M ce2)) P Q W h b M A0 n pc k s q':=by
 obtain ⟨ad,c,ad2,c2,dv,hp,_,_,_,hd⟩:=H.ex
 have k1 : Tk [3,63,82] w (set5b w P (.int .i64 W) (.int .i64 h) (.int .i64 b) (.slice (some ae) M ce) (.slice (some ae2) M ce2)) :=
  tk_set1 (blk_set (blk_set (blk_set (blk_set hp 1 _) 2 _) 3 _) 4 _) (by decide) 5 _ (tk_set1 (blk_set (blk_set (blk_set hp 1 _) 2 _) 3 _) (by decide) 4 _ (tk_set1 (blk_set (blk_set hp 1 _) 2 _) (by decide) 3 _ (tk_set1 (blk_set hp 1 _) (by decide) 2 _ (tk_set1 hp (by decide) 1 _ inferInstance))))
 exact ⟨((((H.lo.setCell (p:=⟨P,1,none⟩) H.pl _).setCell (p:=⟨P,2,none⟩) H.pl _).setCell (p:=⟨P,3,none⟩) H.pl _).setCell (p:=⟨P,4,none⟩) H.pl _).setCell (p:=⟨P,5,none⟩) H.pl _,H.pl,H.ql,⟨ae,ce,ae2,ce2,dv,put10b hp _ _ _ _ _,l1,l2,hr.tk (k1.less (by simp)),IRow.tk hd (k1.less (by simp))⟩,far1 (far1 (far1 (far1 (far1 H.wk H.ne _ _) H.ne _ _) H.ne _ _) H.ne _ _) H.ne _ _⟩
set_option maxHeartbeats 8000000 in
set_option maxRecDepth 100000 in
theorem rstep3 {qs : List QF} {p : QF} {tk : Nat} (H : RPl w0 w P Q W h b M A0 n pc k s q) {i : Nat} (hi : i < s.ws.length) (h0 : s.ws[i]=(3,tk)) (hk : s.ws.length=k) (hs : szs W h b=true) (hM : (M : Int)=W * h * b) (hr : Kd.C k27 w0 A0 n (qs.map (mkF W h b))) (hn : n=qs.length) (hq : ∀ q∈qs,q.fits W h b) (ht : tk < qs.length) (hp : qs[tk]=p) (hqf : q.fits W h b) (hz : tot [q,p] < 9000000) (hdl : s.done.length≤4096) :
  Calls Try.prog 22 #[.pointer (some ⟨P,0,none⟩),.int .i64 i] w fun e w'=>e=.returned (.tuple #[])∧RPl w0 w' P Q W h b M A0 n pc k ⟨s.c,false,s.ws.set i (0,tk),s.done++[tk]⟩ (q.add p):=by
 have HH:=Aside0.mk H;have hq2:=hq _ (List.getElem_mem ht);rw [hp] at hq2
 have HQP : Aside0 ((∀ x∈[q,p],x.fits W h b)∧tot [q,p] < 9000000):=Aside0.mk ⟨(fun x hx=>by
  rcases List.mem_cons.mp hx with rfl|hx
  ·exact hqf
  ·rcases List.mem_cons.mp hx with rfl|hx
   ·exact hq2
   ·cases hx),hz⟩
 have HR:=Aside0.mk (And.intro hr (And.intro hn (And.intro hq (And.intro hp (And.intro hq2 hqf)))));have HDL:=Aside0.mk hdl;obtain ⟨ad,c,ad2,c2,dv,hpb,_⟩:=H.ex;have q0:=cells10 hpb;have q1:=free10 hpb;have q2:=wat H.wk hi;rw [h0] at q2;have hne:=H.ne;have hne2:=hne.symm;have hP:=blk_lt hpb;have hQ:=blk_lt H.wk;clear H hpb hz hdl hr hq hp hqf hq2
 go_enter Try.func22,Try.ntmps22
 go_upto_region 13 with fail
 have HA : Aside0 (RPl w0 ((w.setCell ⟨P,7,none⟩ (.bool false)).alloc (.cells #[.int .i64 0,.int .i64 tk] 73)) P Q W h b M A0 n pc k ⟨s.c,false,s.ws,s.done⟩ q):=⟨(HH.out.setP (i:=7) (c':=s.c) (l':=false) (.inr ⟨rfl,rfl,rfl⟩)).below (below_alloc (Below.refl _ _) _)⟩;have BX : Aside0 (((w.setCell ⟨P,7,none⟩ (.bool false)).alloc (.cells #[.int .i64 0,.int .i64 tk] 73)).heap[w.heap.size]? = some (.cells #[.int .i64 0,.int .i64 tk] 73 (0,0))):=⟨by simpa using blk_new (w.setCell ⟨P,7,none⟩ (.bool false)) (.cells #[.int .i64 0,.int .i64 tk] 73)⟩
 have hPX : P≠w.heap.size:=by omega
 have hlX : w0.heap.size≤w.heap.size:=HH.out.lo.size;clear q0 q1 q2 hne hne2 hP hQ;obtain ⟨wa,hwa⟩ : ∃ z,(w.setCell ⟨P,7,none⟩ (.bool false)).alloc (.cells #[.int .i64 0,.int .i64 tk] 73)=z:=⟨_,rfl⟩;obtain ⟨X,eX⟩ : ∃ X,w.heap.size=X:=⟨_,rfl⟩;rw [hwa] at HA BX;rw [eX] at BX hPX hlX
 first|rw [hwa,eX]|rw [eX,hwa]
 clear hwa eX HH;have HNX:=Aside0.mk (And.intro hPX hlX);clear hPX hlX;obtain ⟨ad,c,ad2,c2,dv,hpb,l1,l2,hrw,hd⟩:=HA.out.ex;have HP:=Aside0.mk hpb;have HQ:=Aside0.mk HA.out.wk;have HD:=Aside0.mk hd;have HLO:=Aside0.mk HA.out.lo;have HL2:=Aside0.mk (And.intro l1 (And.intro l2 hrw));clear hpb l1 l2 hrw hd;refine sT (n:=12) (S:=fun w'=>w'.cell? ⟨P,9,none⟩=some dv∧w'.cell? ⟨X,1,none⟩=some (.int .i64 tk)) (ds:=[11]) (by kernel_rfl) rfl ⟨(cells10 (blk_drew HP.out)).2.2.2.2.2.2.2.2.2,blk_cell (blk_drew BX.out) 1⟩ (fun hHeld=>?_);refine with_tabW rstep.tab13 rstep.bits13 (fun HT_ HW_=>?_);refine zp 0 45 ?_;refine zp 1 46 ?_;refine zp 2 47 ?_;refine zp 3 48 ?_;refine zp 5 50 ?_;refine zt 4 49 ?_;refine zt 6 51 ?_
 refine oN 7 (some 52) rfl rfl fun K hK=>?_
 obtain ⟨wc,hwc⟩ : ∃ z,wa.drew=z:=⟨_,rfl⟩;have HW : Aside0 (Below wa.heap.size wa wc):=⟨by rw [← hwc];exact below_drew1 (Below.refl _ _)⟩;rw [hwc];clear hwc;have HPc:=Aside0.mk (blk_below HP.out HW.out);have HQc:=Aside0.mk (blk_below HQ.out HW.out);have HXc:=Aside0.mk (blk_below BX.out HW.out);have HDc:=Aside0.mk (pw_own_below HD.out HW.out);have HLc:=Aside0.mk (below_step HLO.out HW.out);refine value_ (w1:=?_) (v:=?_) (by rfl) rfl ?_ ?_;rotate_left 2
 ·go_simp
  constructor
  ·rfl
  ·rfl
 refine hK.out _ _ ⟨(cells10 (blk_alloc HPc.out _)).2.2.2.2.2.2.2.2.2,blk_cell (blk_alloc HXc.out _) 1⟩ (fun hHeld=>?_);clear hK K;refine nZ ?_
 refine oN 8 (some 53) rfl rfl fun K hK=>?_
 refine step_append_cells (w0:=w0) w0.heap.size (by rfl) (.tmp 49) (.tmp 52) 23 3 (.int .i64 0) 1 8 rfl Try.underlying23 info3 rfl (by decide) (by decide) _ _ _ [.int .i64 tk] rfl rfl rfl (by simp [Value.oneCell']) HDc.out HLc.out HLc.out.size (by have h9:=HDL.out;rw [List.length_map];dsimp only;omega) ?_;intro vn w1 hown hB3 hg hat;obtain ⟨A5,c5,e5⟩:=own_slice hown;subst e5;have HD1:=Aside0.mk hown;have HLO1:=Aside0.mk hB3;have HK1 : Aside0 (Tk [63,82] wc w1):=⟨tk_grown3 hg HDc.out⟩;have HP1:=Aside0.mk (blk_grown HPc.out hg (own_ne HDc.out HPc.out (by decide)));have HQ1:=Aside0.mk (blk_grown HQc.out hg (own_ne HDc.out HQc.out (by decide)));have BX1:=Aside0.mk (blk_grown HXc.out hg (own_ne HDc.out HXc.out (by decide)));clear hown hB3 hg hat;refine hK.out _ _ ⟨(cells10 HP1.out).2.2.2.2.2.2.2.2.2,blk_cell BX1.out 1⟩ (fun hHeld=>?_);clear hK K;refine nZ ?_;refine zp 9 54 ?_;refine zp 10 55 ?_
 refine lN 11 (none) rfl rfl fun K hK=>?_
 have q0:=cells10 HP1.out;have q1:=free10 HP1.out;refine skip_ (w1:=?_) (by rfl) rfl ?_ ?_;rotate_left
 ·go_simp
  rfl
 clear q0 q1;refine hK.out _ _ ?_;clear hK K;refine dN ?_
 have HX : Aside0 (RPl w0 (w1.setCell ⟨P,9,none⟩ (.slice A5 (s.done.length+1) c5)) P Q W h b M A0 n pc k ⟨s.c,false,s.ws,s.done++[tk]⟩ q):=⟨by
  have k3 : Tk [3,63,82] w1 (w1.setCell ⟨P,9,none⟩ (.slice A5 (s.done.length+1) c5)):=tk_set1 HP1.out (by decide) 9 _ inferInstance
  have hI : IRow w1 w0.heap.size (.slice A5 (s.done.length+1) c5) ((s.done++[tk]).map Int.ofNat):=by
   have h:=HD1.out;have e1 : (s.done.map Int.ofNat).length=s.done.length:=List.length_map ..
   have e2 : ((s.done++[tk]).map Int.ofNat).length=s.done.length+1:=by simp
   show w1.slackRow w0.heap.size 3 1 _ ((s.done++[tk]).map Int.ofNat).length (nums .i64 ((s.done++[tk]).map Int.ofNat))
   dsimp only at h;rw [e1] at h;rw [e2,List.map_append,nums_append];exact h
  exact ⟨HLO1.out.setCell (p:=⟨P,9,none⟩) HA.out.pl _,HA.out.pl,HA.out.ql,⟨ad,c,ad2,c2,_,blk_put HP1.out 9 _ rfl,HL2.out.1,HL2.out.2.1,((HL2.out.2.2.below HW.out).tk HK1.out).tk (k3.less (by simp)),IRow.tk hI (k3.less (by simp))⟩,far1 HQ1.out HA.out.ne _ _⟩⟩
 have BX3 : Aside0 ((w1.setCell ⟨P,9,none⟩ (.slice A5 (s.done.length+1) c5)).heap[X]? = some (.cells #[.int .i64 0,.int .i64 tk] 73 (0,0))):=⟨far1 BX1.out HNX.out.1.symm _ _⟩;clear HA HL2 HK1 HP1 HQ1 HD1 HLO1 HW BX BX1 HP HQ HD HLO HPc HQc HXc HDc HLc
 try clear hHeld
 obtain ⟨w3,hw3⟩ : ∃ z,w1.setCell ⟨P,9,none⟩ (.slice A5 (s.done.length+1) c5)=z:=⟨_,rfl⟩
 first|rw [hw3] at HX BX3 ⊢|(rw [show (s.done.map Int.ofNat).length=s.done.length from List.length_map ..];rw [hw3] at HX BX3 ⊢)
 clear hw3;obtain ⟨ad,c,ad2,c2,dv,hpb,l1,l2,hrw,hd⟩:=HX.out.ex;have HP3:=Aside0.mk hpb;obtain ⟨pa,A3,c3,A4,c4,rfl,z0,z1,z2,z3,z4,g3,g4,l3,l4⟩:=at_film hM (Kd.C_below HR.out.1 HX.out.lo) HR.out.2.2.1 ht HR.out.2.1;rw [HR.out.2.2.2.1] at g3 g4;have KF:=Aside0.mk (film_K hrw hM HR.out.2.2.2.2.2)
 have KP : Aside0 (k27.K w3 (mkF W h b p) [.int .i64 W,.int .i64 h,.int .i64 b,.slice A3 M c3,.slice A4 M c4]):=⟨by
  obtain ⟨e1,e2⟩:=q_len hM HR.out.2.2.2.2.1;have h2:=k27_mk w3 (mkF W h b p) (A3:=A3) (c3:=c3) (by rw [show (mkF W h b p).f3.length=M from e1];exact l3) (by rw [show (mkF W h b p).f3.length=M from e1];exact g3) (A4:=A4) (c4:=c4) (by rw [show (mkF W h b p).f4.length=M from e2];exact l4) (by rw [show (mkF W h b p).f4.length=M from e2];exact g4);rw [show (mkF W h b p).f3.length=M from e1,show (mkF W h b p).f4.length=M from e2] at h2
  exact h2⟩
 have ZZ:=Aside0.mk (show w3.cell? ⟨P,0,none⟩=some (.slice (some pa) n pc)∧w3.cell? ⟨P,1,none⟩=some (.int .i64 W)∧w3.cell? ⟨P,2,none⟩=some (.int .i64 h)∧w3.cell? ⟨P,3,none⟩=some (.int .i64 b)∧w3.cell? ⟨P,4,none⟩=some (.slice (some ad) M c)∧w3.cell? ⟨P,5,none⟩=some (.slice (some ad2) M c2)∧w3.cell? ⟨X,1,none⟩=some (.int .i64 tk)∧w3.cell? (pa.add (tk * 5))=some (.int .i64 W)∧w3.cell? ⟨(pa.add (tk * 5)).block,(pa.add (tk * 5)).off+1,none⟩=some (.int .i64 h)∧w3.cell? ⟨(pa.add (tk * 5)).block,(pa.add (tk * 5)).off+2,none⟩=some (.int .i64 b)∧w3.cell? ⟨(pa.add (tk * 5)).block,(pa.add (tk * 5)).off+3,none⟩=some (.slice A3 M c3)∧w3.cell? ⟨(pa.add (tk * 5)).block,(pa.add (tk * 5)).off+4,none⟩=some (.slice A4 M c4) from ⟨(cells10 hpb).1,(cells10 hpb).2.1,(cells10 hpb).2.2.1,(cells10 hpb).2.2.2.1,(cells10 hpb).2.2.2.2.1,(cells10 hpb).2.2.2.2.2.1,blk_cell BX3.out 1,z0,z1,z2,z3,z4⟩);clear hpb l1 l2 hrw hd z0 z1 z2 z3 z4 g3 g4 l3 l4
 go_upto_region 14 with fail
 have HW : Aside0 (Below w3.heap.size w3 w3.drew):=⟨below_drew1 (Below.refl _ _)⟩;refine start_ (n:=20) (S:=fun w'=>w'.cell? ⟨P,0,none⟩=some (.slice (some pa) n pc)∧w'.cell? ⟨P,1,none⟩=some (.int .i64 W)∧w'.cell? ⟨P,2,none⟩=some (.int .i64 h)∧w'.cell? ⟨P,3,none⟩=some (.int .i64 b)∧w'.cell? ⟨P,4,none⟩=some (.slice (some ad) M c)∧w'.cell? ⟨P,5,none⟩=some (.slice (some ad2) M c2)∧w'.cell? ⟨X,1,none⟩=some (.int .i64 tk)∧w'.cell? (pa.add (tk * 5))=some (.int .i64 W)∧w'.cell? ⟨(pa.add (tk * 5)).block,(pa.add (tk * 5)).off+1,none⟩=some (.int .i64 h)∧w'.cell? ⟨(pa.add (tk * 5)).block,(pa.add (tk * 5)).off+2,none⟩=some (.int .i64 b)∧w'.cell? ⟨(pa.add (tk * 5)).block,(pa.add (tk * 5)).off+3,none⟩=some (.slice A3 M c3)∧w'.cell? ⟨(pa.add (tk * 5)).block,(pa.add (tk * 5)).off+4,none⟩=some (.slice A4 M c4)) (ds:=[]) #[false,false,false,false,false,false,false,false,false,false,false,false,false,false,false,false,false,false,false,false] (by kernel_rfl) rfl rfl ⟨keepc (below_drew1 (Below.refl _ _)) ZZ.out.1,keepc (below_drew1 (Below.refl _ _)) ZZ.out.2.1,keepc (below_drew1 (Below.refl _ _)) ZZ.out.2.2.1,keepc (below_drew1 (Below.refl _ _)) ZZ.out.2.2.2.1,keepc (below_drew1 (Below.refl _ _)) ZZ.out.2.2.2.2.1,keepc (below_drew1 (Below.refl _ _)) ZZ.out.2.2.2.2.2.1,keepc (below_drew1 (Below.refl _ _)) ZZ.out.2.2.2.2.2.2.1,keepc (below_drew1 (Below.refl _ _)) ZZ.out.2.2.2.2.2.2.2.1,keepc (below_drew1 (Below.refl _ _)) ZZ.out.2.2.2.2.2.2.2.2.1,keepc (below_drew1 (Below.refl _ _)) ZZ.out.2.2.2.2.2.2.2.2.2.1,keepc (below_drew1 (Below.refl _ _)) ZZ.out.2.2.2.2.2.2.2.2.2.2.1,keepc (below_drew1 (Below.refl _ _)) ZZ.out.2.2.2.2.2.2.2.2.2.2.2⟩ (fun hHeld=>?_)
 refine with_tabW rstep.tab14 rstep.bits14 (fun HT_ HW_=>?_);refine zp 0 57 ?_;refine zp 1 58 ?_;refine zp 2 59 ?_;refine zp 4 61 ?_;refine zp 5 62 ?_;refine zp 6 63 ?_;refine zp 8 65 ?_;refine zt 3 60 ?_;refine zt 7 64 ?_;refine zt 9 66 ?_;refine zp 10 67 ?_;refine zt 11 68 ?_;refine join_ (σ:=Nat × Addr × Nat × Addr × Nat × Nat) 2 #[true,true,true,true,true,true,true,true,true,true,true,true,true,true,true,true,true,true,false,false] (fun s_=>[(69,.slice (some ⟨s_.1,0,none⟩) 2 2),(70,.tuple #[.agg #[.int .i64 W,.int .i64 h,.int .i64 b,.slice (some s_.2.1) M s_.2.2.1,.slice (some s_.2.2.2.1) M s_.2.2.2.2.1],.bool true]),(56,.tuple #[.agg #[.int .i64 W,.int .i64 h,.int .i64 b,.slice (some s_.2.1) M s_.2.2.1,.slice (some s_.2.2.2.1) M s_.2.2.2.2.1],.bool true]),(71,.agg #[.int .i64 W,.int .i64 h,.int .i64 b,.slice (some s_.2.1) M s_.2.2.1,.slice (some s_.2.2.2.1) M s_.2.2.2.2.1]),(72,.bool true),(5,.pointer (some ⟨s_.2.2.2.2.2,0,none⟩))]) (fun s_ w'=>(w'.cell? ⟨P,0,none⟩=some (.slice (some pa) n pc)∧w'.cell? ⟨P,1,none⟩=some (.int .i64 W)∧w'.cell? ⟨P,2,none⟩=some (.int .i64 h)∧w'.cell? ⟨P,3,none⟩=some (.int .i64 b)∧w'.cell? ⟨P,4,none⟩=some (.slice (some ad) M c)∧w'.cell? ⟨P,5,none⟩=some (.slice (some ad2) M c2)∧w'.cell? ⟨X,1,none⟩=some (.int .i64 tk)∧w'.cell? (pa.add (tk * 5))=some (.int .i64 W)∧w'.cell? ⟨(pa.add (tk * 5)).block,(pa.add (tk * 5)).off+1,none⟩=some (.int .i64 h)∧w'.cell? ⟨(pa.add (tk * 5)).block,(pa.add (tk * 5)).off+2,none⟩=some (.int .i64 b)∧w'.cell? ⟨(pa.add (tk * 5)).block,(pa.add (tk * 5)).off+3,none⟩=some (.slice A3 M c3)∧w'.cell? ⟨(pa.add (tk * 5)).block,(pa.add (tk * 5)).off+4,none⟩=some (.slice A4 M c4))∧Below w3.heap.size w3 w'∧(M≤s_.2.2.1∧M≤s_.2.2.2.2.1∧Rows w' w0.heap.size (q.add p) s_.2.1 s_.2.2.1 s_.2.2.2.1 s_.2.2.2.2.1)∧w'.heap[s_.2.2.2.2.2]? = some (.cells #[.int .i64 0,.int .i64 0,.int .i64 0,.slice none 0 0,.slice none 0 0] 27 (0,0))∧w3.heap.size≤s_.2.2.2.2.2) ?_ ?_
 rotate_left
 ·intro hCont
  refine two_ (i:=12) (j:=17) (Ni:=some 69) (Nj:=some 5) #[true,true,true,true,true,true,true,true,true,true,true,true,true,false,false,false,false,false,false,false] #[true,true,true,true,true,true,true,true,true,true,true,true,false,false,false,false,false,true,false,false] rfl rfl rfl rfl (two_of HT_.out (by kernel_rfl)) (by decide) (by decide) (fun K hK=>?_) (fun K hK=>?_)
  ·skip
   try (obtain ⟨wc,hwc⟩ : ∃ z,w3.drew=z:=⟨_,rfl⟩;rw [hwc] at HW ⊢;clear hwc)
   refine value_ (w1:=?_) (v:=?_) (by rfl) rfl ?_ ?_;rotate_left 2
   ·go_simp
    constructor
    ·rfl
    ·rfl
   obtain ⟨gl,hga⟩ : ∃ g,wc.heap.size=g:=⟨_,rfl⟩;have H12 : Aside0 (Kd.C k27 (wc.alloc (.cells #[.int .i64 W,.int .i64 h,.int .i64 b,.slice (some ad) M c,.slice (some ad2) M c2,.int .i64 W,.int .i64 h,.int .i64 b,.slice A3 M c3,.slice A4 M c4] 27)) (some ⟨gl,0,none⟩) 2 ([q,p].map (mkF W h b))):=⟨by rw [← hga];exact film_lit (W:=wc) (k27.K_below HW.out KF.out) (k27.K_below HW.out KP.out)⟩;rw [hga];clear hga;have HA_ : Below wc.heap.size wc (wc.alloc (.cells #[.int .i64 W,.int .i64 h,.int .i64 b,.slice (some ad) M c,.slice (some ad2) M c2,.int .i64 W,.int .i64 h,.int .i64 b,.slice A3 M c3,.slice A4 M c4] 27)):=below_alloc (Below.refl _ _) _;replace HW:=Aside0.mk (below_step HW.out HA_)
   try replace H17:=Aside0.mk (And.intro (blk_below H17.out.1 HA_) H17.out.2)
   obtain ⟨wc,hwd⟩ : ∃ wd,wc.alloc (.cells #[.int .i64 W,.int .i64 h,.int .i64 b,.slice (some ad) M c,.slice (some ad2) M c2,.int .i64 W,.int .i64 h,.int .i64 b,.slice A3 M c3,.slice A4 M c4] 27)=wd:=⟨_,rfl⟩;rw [hwd] at HW H12 ⊢
   try rw [hwd] at H17
   clear HA_ hwd;refine hK.out _ _ (kE HW.out ZZ.out) (fun hHeld=>?_);clear hK K;refine nZ ?_;refine two_ (i:=13) (j:=17) (Ni:=some 70) (Nj:=some 5) #[true,true,true,true,true,true,true,true,true,true,true,true,true,true,false,false,false,false,false,false] #[true,true,true,true,true,true,true,true,true,true,true,true,true,false,false,false,false,true,false,false] rfl rfl rfl rfl (two_of HT_.out (by kernel_rfl)) (by decide) (by decide) (fun K hK=>?_) (fun K hK=>?_)
   ·skip
    refine goes_ Try.func25 (by kernel_rfl) rfl #[.slice (some ⟨gl,0,none⟩) 2 2] (by rfl) rfl rfl (by simp only [List.map_toArray,List.map_cons,List.map_nil];rfl) ?_
    with_reducible refine (sumR2 hs hM HQP.out.1 HQP.out.2 H12.out).mono ?_
    rintro e wc ⟨ae,ce,ae2,ce2,rfl,lce,lce2,hrw,hb⟩;refine ⟨_,rfl,?_⟩;have H13:=Aside0.mk (And.intro lce (And.intro lce2 (hrw.lower (Nat.le_trans HX.out.lo.size HW.out.size))));replace HW:=Aside0.mk (below_step HW.out hb)
    try replace H17:=Aside0.mk (And.intro (blk_below H17.out.1 hb) H17.out.2)
    clear hrw hb lce lce2 H12;refine hK.out _ _ (kE HW.out ZZ.out) (fun hHeld=>?_);clear hK K;refine nZ ?_;refine zp 14 56 ?_;refine zp 15 71 ?_;refine zp 16 72 ?_
    refine oN 17 (some 5) rfl rfl fun K hK=>?_
    try (obtain ⟨wc,hwc⟩ : ∃ z,w3.drew=z:=⟨_,rfl⟩;rw [hwc] at HW ⊢;clear hwc)
    refine value_ (w1:=?_) (v:=?_) (by rfl) rfl ?_ ?_;rotate_left 2
    ·go_simp
     constructor
     ·rfl
     ·rfl
    obtain ⟨g5,hga⟩ : ∃ g,wc.heap.size=g:=⟨_,rfl⟩;have H17 : Aside0 ((wc.alloc (.cells #[.int .i64 0,.int .i64 0,.int .i64 0,.slice none 0 0,.slice none 0 0] 27)).heap[g5]? = some (.cells #[.int .i64 0,.int .i64 0,.int .i64 0,.slice none 0 0,.slice none 0 0] 27 (0,0))∧w3.heap.size≤g5):=⟨by rw [← hga];exact ⟨blk_new _ _,HW.out.size⟩⟩;rw [hga];clear hga;have HA_ : Below wc.heap.size wc (wc.alloc (.cells #[.int .i64 0,.int .i64 0,.int .i64 0,.slice none 0 0,.slice none 0 0] 27)):=below_alloc (Below.refl _ _) _;replace HW:=Aside0.mk (below_step HW.out HA_)
    try replace H12:=Aside0.mk (Kd.C_below H12.out HA_)
    try replace H13:=Aside0.mk (And.intro H13.out.1 (And.intro H13.out.2.1 (H13.out.2.2.below HA_)))
    obtain ⟨wc,hwd⟩ : ∃ wd,wc.alloc (.cells #[.int .i64 0,.int .i64 0,.int .i64 0,.slice none 0 0,.slice none 0 0] 27)=wd:=⟨_,rfl⟩;rw [hwd] at HW H17 ⊢
    try rw [hwd] at H12
    try rw [hwd] at H13
    clear HA_ hwd;refine hK.out _ _ (kE HW.out ZZ.out) (fun hHeld=>?_);clear hK K;refine nZ ?_;exact norm_ (by simp only [putAll,Act.put,s0,s1,s2]) (hCont (gl,ae,ce,ae2,ce2,g5) _ ⟨hHeld,HW.out,H13.out,H17.out⟩)
   ·skip
    try (obtain ⟨wc,hwc⟩ : ∃ z,w3.drew=z:=⟨_,rfl⟩;rw [hwc] at HW ⊢;clear hwc)
    refine value_ (w1:=?_) (v:=?_) (by rfl) rfl ?_ ?_;rotate_left 2
    ·go_simp
     constructor
     ·rfl
     ·rfl
    obtain ⟨g5,hga⟩ : ∃ g,wc.heap.size=g:=⟨_,rfl⟩;have H17 : Aside0 ((wc.alloc (.cells #[.int .i64 0,.int .i64 0,.int .i64 0,.slice none 0 0,.slice none 0 0] 27)).heap[g5]? = some (.cells #[.int .i64 0,.int .i64 0,.int .i64 0,.slice none 0 0,.slice none 0 0] 27 (0,0))∧w3.heap.size≤g5):=⟨by rw [← hga];exact ⟨blk_new _ _,HW.out.size⟩⟩;rw [hga];clear hga;have HA_ : Below wc.heap.size wc (wc.alloc (.cells #[.int .i64 0,.int .i64 0,.int .i64 0,.slice none 0 0,.slice none 0 0] 27)):=below_alloc (Below.refl _ _) _;replace HW:=Aside0.mk (below_step HW.out HA_)
    try replace H12:=Aside0.mk (Kd.C_below H12.out HA_)
    try replace H13:=Aside0.mk (And.intro H13.out.1 (And.intro H13.out.2.1 (H13.out.2.2.below HA_)))
    obtain ⟨wc,hwd⟩ : ∃ wd,wc.alloc (.cells #[.int .i64 0,.int .i64 0,.int .i64 0,.slice none 0 0,.slice none 0 0] 27)=wd:=⟨_,rfl⟩;rw [hwd] at HW H17 ⊢
    try rw [hwd] at H12
    try rw [hwd] at H13
    clear HA_ hwd;refine hK.out _ _ (kE HW.out ZZ.out) (fun hHeld=>?_);clear hK K;refine nZ ?_
    refine oN 13 (some 70) rfl rfl fun K hK=>?_
    refine goes_ Try.func25 (by kernel_rfl) rfl #[.slice (some ⟨gl,0,none⟩) 2 2] (by rfl) rfl rfl (by simp only [List.map_toArray,List.map_cons,List.map_nil];rfl) ?_
    with_reducible refine (sumR2 hs hM HQP.out.1 HQP.out.2 H12.out).mono ?_
    rintro e wc ⟨ae,ce,ae2,ce2,rfl,lce,lce2,hrw,hb⟩;refine ⟨_,rfl,?_⟩;have H13:=Aside0.mk (And.intro lce (And.intro lce2 (hrw.lower (Nat.le_trans HX.out.lo.size HW.out.size))));replace HW:=Aside0.mk (below_step HW.out hb)
    try replace H17:=Aside0.mk (And.intro (blk_below H17.out.1 hb) H17.out.2)
    clear hrw hb lce lce2 H12;refine hK.out _ _ (kE HW.out ZZ.out) (fun hHeld=>?_);clear hK K;refine nZ ?_;refine zp 14 56 ?_;refine zp 15 71 ?_;refine zp 16 72 ?_;exact norm_ (by simp only [putAll,Act.put,s0,s1,s2]) (hCont (gl,ae,ce,ae2,ce2,g5) _ ⟨hHeld,HW.out,H13.out,H17.out⟩)
  ·skip
   try (obtain ⟨wc,hwc⟩ : ∃ z,w3.drew=z:=⟨_,rfl⟩;rw [hwc] at HW ⊢;clear hwc)
   refine value_ (w1:=?_) (v:=?_) (by rfl) rfl ?_ ?_;rotate_left 2
   ·go_simp
    constructor
    ·rfl
    ·rfl
   obtain ⟨g5,hga⟩ : ∃ g,wc.heap.size=g:=⟨_,rfl⟩;have H17 : Aside0 ((wc.alloc (.cells #[.int .i64 0,.int .i64 0,.int .i64 0,.slice none 0 0,.slice none 0 0] 27)).heap[g5]? = some (.cells #[.int .i64 0,.int .i64 0,.int .i64 0,.slice none 0 0,.slice none 0 0] 27 (0,0))∧w3.heap.size≤g5):=⟨by rw [← hga];exact ⟨blk_new _ _,HW.out.size⟩⟩;rw [hga];clear hga;have HA_ : Below wc.heap.size wc (wc.alloc (.cells #[.int .i64 0,.int .i64 0,.int .i64 0,.slice none 0 0,.slice none 0 0] 27)):=below_alloc (Below.refl _ _) _;replace HW:=Aside0.mk (below_step HW.out HA_)
   try replace H12:=Aside0.mk (Kd.C_below H12.out HA_)
   try replace H13:=Aside0.mk (And.intro H13.out.1 (And.intro H13.out.2.1 (H13.out.2.2.below HA_)))
   obtain ⟨wc,hwd⟩ : ∃ wd,wc.alloc (.cells #[.int .i64 0,.int .i64 0,.int .i64 0,.slice none 0 0,.slice none 0 0] 27)=wd:=⟨_,rfl⟩;rw [hwd] at HW H17 ⊢
   try rw [hwd] at H12
   try rw [hwd] at H13
   clear HA_ hwd;refine hK.out _ _ (kE HW.out ZZ.out) (fun hHeld=>?_);clear hK K;refine nZ ?_
   refine oN 12 (some 69) rfl rfl fun K hK=>?_
   try (obtain ⟨wc,hwc⟩ : ∃ z,w3.drew=z:=⟨_,rfl⟩;rw [hwc] at HW ⊢;clear hwc)
   refine value_ (w1:=?_) (v:=?_) (by rfl) rfl ?_ ?_;rotate_left 2
   ·go_simp
    constructor
    ·rfl
    ·rfl
   obtain ⟨gl,hga⟩ : ∃ g,wc.heap.size=g:=⟨_,rfl⟩;have H12 : Aside0 (Kd.C k27 (wc.alloc (.cells #[.int .i64 W,.int .i64 h,.int .i64 b,.slice (some ad) M c,.slice (some ad2) M c2,.int .i64 W,.int .i64 h,.int .i64 b,.slice A3 M c3,.slice A4 M c4] 27)) (some ⟨gl,0,none⟩) 2 ([q,p].map (mkF W h b))):=⟨by rw [← hga];exact film_lit (W:=wc) (k27.K_below HW.out KF.out) (k27.K_below HW.out KP.out)⟩;rw [hga];clear hga;have HA_ : Below wc.heap.size wc (wc.alloc (.cells #[.int .i64 W,.int .i64 h,.int .i64 b,.slice (some ad) M c,.slice (some ad2) M c2,.int .i64 W,.int .i64 h,.int .i64 b,.slice A3 M c3,.slice A4 M c4] 27)):=below_alloc (Below.refl _ _) _;replace HW:=Aside0.mk (below_step HW.out HA_)
   try replace H17:=Aside0.mk (And.intro (blk_below H17.out.1 HA_) H17.out.2)
   obtain ⟨wc,hwd⟩ : ∃ wd,wc.alloc (.cells #[.int .i64 W,.int .i64 h,.int .i64 b,.slice (some ad) M c,.slice (some ad2) M c2,.int .i64 W,.int .i64 h,.int .i64 b,.slice A3 M c3,.slice A4 M c4] 27)=wd:=⟨_,rfl⟩;rw [hwd] at HW H12 ⊢
   try rw [hwd] at H17
   clear HA_ hwd;refine hK.out _ _ (kE HW.out ZZ.out) (fun hHeld=>?_);clear hK K;refine nZ ?_
   refine oN 13 (some 70) rfl rfl fun K hK=>?_
   refine goes_ Try.func25 (by kernel_rfl) rfl #[.slice (some ⟨gl,0,none⟩) 2 2] (by rfl) rfl rfl (by simp only [List.map_toArray,List.map_cons,List.map_nil];rfl) ?_
   with_reducible refine (sumR2 hs hM HQP.out.1 HQP.out.2 H12.out).mono ?_
   rintro e wc ⟨ae,ce,ae2,ce2,rfl,lce,lce2,hrw,hb⟩;refine ⟨_,rfl,?_⟩;have H13:=Aside0.mk (And.intro lce (And.intro lce2 (hrw.lower (Nat.le_trans HX.out.lo.size HW.out.size))));replace HW:=Aside0.mk (below_step HW.out hb)
   try replace H17:=Aside0.mk (And.intro (blk_below H17.out.1 hb) H17.out.2)
   clear hrw hb lce lce2 H12;refine hK.out _ _ (kE HW.out ZZ.out) (fun hHeld=>?_);clear hK K;refine nZ ?_;refine zp 14 56 ?_;refine zp 15 71 ?_;refine zp 16 72 ?_;exact norm_ (by simp only [putAll,Act.put,s0,s1,s2]) (hCont (gl,ae,ce,ae2,ce2,g5) _ ⟨hHeld,HW.out,H13.out,H17.out⟩)
 rintro ⟨gl,ae,ce,ae2,ce2,g5⟩ wc ⟨hHeld,h1,h2,h3,h4⟩;dsimp only at h1 h2 h3 h4;replace HW:=Aside0.mk h1;have H13:=Aside0.mk h2;have H17:=Aside0.mk (And.intro h3 h4);clear h1 h2 h3 h4;refine norm_ (a':=?_) ?_ ?_;rotate_left
 ·simp only [putAll,Act.put,s0,s1,s2]
  rfl
 refine oN 18 (none) rfl rfl fun K hK=>?_
 have q0:=cells5 H17.out.1;have q1:=free5 H17.out.1;refine skip_ (w1:=?_) (by rfl) rfl ?_ ?_;rotate_left
 ·go_simp
  rfl
 clear q0 q1
 have hneP : P≠g5:=fun e=>by have h1:=blk_lt HP3.out;have h2:=H17.out.2;omega
 have hneX : X≠g5:=fun e=>by have h1:=blk_lt BX3.out;have h2:=H17.out.2;omega
 have hneA : pa.block≠g5:=fun e=>by have h1:=World.block_lt_of_cell? _ _ ZZ.out.2.2.2.2.2.2.2.1;rw [add_block] at h1;have h2:=H17.out.2;omega
 refine hK.out _ _ ⟨cell_set5 (keepc HW.out ZZ.out.1) hneP,cell_set5 (keepc HW.out ZZ.out.2.1) hneP,cell_set5 (keepc HW.out ZZ.out.2.2.1) hneP,cell_set5 (keepc HW.out ZZ.out.2.2.2.1) hneP,cell_set5 (keepc HW.out ZZ.out.2.2.2.2.1) hneP,cell_set5 (keepc HW.out ZZ.out.2.2.2.2.2.1) hneP,cell_set5 (keepc HW.out ZZ.out.2.2.2.2.2.2.1) hneX,cell_set5 (keepc HW.out ZZ.out.2.2.2.2.2.2.2.1) (by rw [add_block];exact hneA),cell_set5 (keepc HW.out ZZ.out.2.2.2.2.2.2.2.2.1) (by simpa [add_block] using hneA),cell_set5 (keepc HW.out ZZ.out.2.2.2.2.2.2.2.2.2.1) (by simpa [add_block] using hneA),cell_set5 (keepc HW.out ZZ.out.2.2.2.2.2.2.2.2.2.2.1) (by simpa [add_block] using hneA),cell_set5 (keepc HW.out ZZ.out.2.2.2.2.2.2.2.2.2.2.2) (by simpa [add_block] using hneA)⟩ (fun hHeld=>?_);clear hK K;refine zp 19 6 ?_;refine dN ?_;clear hHeld hneX hneA;have w4e : Aside0 (Below w3.heap.size w3 (((((wc.setCell ⟨g5,0,none⟩ (.int .i64 W)).setCell ⟨g5,1,none⟩ (.int .i64 h)).setCell ⟨g5,2,none⟩ (.int .i64 b)).setCell ⟨g5,3,none⟩ (.slice (some ae) M ce)).setCell ⟨g5,4,none⟩ (.slice (some ae2) M ce2))∧(((((wc.setCell ⟨g5,0,none⟩ (.int .i64 W)).setCell ⟨g5,1,none⟩ (.int .i64 h)).setCell ⟨g5,2,none⟩ (.int .i64 b)).setCell ⟨g5,3,none⟩ (.slice (some ae) M ce)).setCell ⟨g5,4,none⟩ (.slice (some ae2) M ce2)).heap[g5]? = some (.cells #[.int .i64 W,.int .i64 h,.int .i64 b,.slice (some ae) M ce,.slice (some ae2) M ce2] 27 (0,0))∧Rows (((((wc.setCell ⟨g5,0,none⟩ (.int .i64 W)).setCell ⟨g5,1,none⟩ (.int .i64 h)).setCell ⟨g5,2,none⟩ (.int .i64 b)).setCell ⟨g5,3,none⟩ (.slice (some ae) M ce)).setCell ⟨g5,4,none⟩ (.slice (some ae2) M ce2)) w0.heap.size (q.add p) ae ce ae2 ce2):=⟨low5 HW.out H17.out.2 _ _ _ _ _,put5 H17.out.1 _ _ _ _ _,H13.out.2.2.tk ((tk_set5 H17.out.1 (by decide) _ _ _ _ _ inferInstance : Tk [3,63,82] wc _).less (by simp))⟩
 have HL4:=Aside0.mk (And.intro H13.out.1 H13.out.2.1);obtain ⟨w4,hw4⟩ : ∃ z,((((wc.setCell ⟨g5,0,none⟩ (.int .i64 W)).setCell ⟨g5,1,none⟩ (.int .i64 h)).setCell ⟨g5,2,none⟩ (.int .i64 b)).setCell ⟨g5,3,none⟩ (.slice (some ae) M ce)).setCell ⟨g5,4,none⟩ (.slice (some ae2) M ce2)=z:=⟨_,rfl⟩;rw [hw4] at w4e ⊢;clear hw4 HW H13 H17 KF KP ZZ;have HX4:=Aside0.mk (HX.out.below w4e.out.1);have BX4:=Aside0.mk (blk_below BX3.out w4e.out.1);obtain ⟨_,_,_,_,dx,hp4,_⟩:=HX4.out.ex;have q0:=cells5 w4e.out.2.1;have q1:=free10 hp4;have hp8:=cells10 hp4;have hneG:=hneP.symm;clear hp4
 go_upto_region 16 with fail
 clear q0 q1 hp8;have HZ : Aside0 (RPl w0 (set5b w4 P (.int .i64 W) (.int .i64 h) (.int .i64 b) (.slice (some ae) M ce) (.slice (some ae2) M ce2)) P Q W h b M (some pa) n pc k ⟨s.c,false,s.ws,s.done++[tk]⟩ (q.add p)):=⟨HX4.out.setF HL4.out.1 HL4.out.2 w4e.out.2.2⟩;have BX5 : Aside0 ((set5b w4 P (.int .i64 W) (.int .i64 h) (.int .i64 b) (.slice (some ae) M ce) (.slice (some ae2) M ce2)).heap[X]? = some (.cells #[.int .i64 0,.int .i64 tk] 73 (0,0))):=⟨far1 (far1 (far1 (far1 (far1 BX4.out HNX.out.1.symm _ _) HNX.out.1.symm _ _) HNX.out.1.symm _ _) HNX.out.1.symm _ _) HNX.out.1.symm _ _⟩;clear hneG hneP;unfold set5b at HZ BX5;obtain ⟨w5,hw5⟩ : ∃ z,(((((w4.setCell ⟨P,1,none⟩ (.int .i64 W)).setCell ⟨P,2,none⟩ (.int .i64 h)).setCell ⟨P,3,none⟩ (.int .i64 b)).setCell ⟨P,4,none⟩ (.slice (some ae) M ce)).setCell ⟨P,5,none⟩ (.slice (some ae2) M ce2))=z:=⟨_,rfl⟩;rw [hw5] at HZ BX5 ⊢;clear hw5 HX4 BX4 w4e HX BX3 HP3;obtain ⟨_,_,_,_,dx,hpx,_⟩:=HZ.out.ex
 have hik : i < k:=by omega
 have d8:=(cells10 (blk_drew hpx)).2.2.2.2.2.2.2.2.1;have x0:=blk_cell (blk_drew BX5.out) 0;have x1:=blk_cell (blk_drew BX5.out) 1;clear hpx;refine sT (n:=8) (S:=fun w'=>w'.cell? ⟨P,8,none⟩=some (.slice (some ⟨Q,0,none⟩) k k)∧w'.cell? ⟨X,0,none⟩=some (.int .i64 0)∧w'.cell? ⟨X,1,none⟩=some (.int .i64 tk)) (ds:=[7]) (by kernel_rfl) rfl ⟨d8,x0,x1⟩ (fun hHeld=>?_);refine with_tabW rstep.tab16 rstep.bits16 (fun HT_ HW_=>?_);refine zp 0 77 ?_;refine zp 1 78 ?_;refine zp 2 79 ?_;refine zp 4 81 ?_;refine zt 3 80 ?_;refine zt 5 82 ?_;refine zp 6 83 ?_
 refine lN 7 (none) rfl rfl fun K hK=>?_
 obtain ⟨wc,hwc⟩ : ∃ z,w5.drew=z:=⟨_,rfl⟩;have HC : Aside0 (RPl w0 wc P Q W h b M (some pa) n pc k ⟨s.c,false,s.ws,s.done++[tk]⟩ (q.add p)):=⟨by rw [← hwc];exact HZ.out.below (below_drew1 (Below.refl _ _))⟩;rw [hwc];clear hwc;have q1:=wat HC.out.wk hi;refine skip_ (w1:=?_) (by rfl) rfl ?_ ?_;rotate_left
 ·go_simp
  rfl
 clear q1;refine hK.out _ _ ?_;clear hK K;refine dN ?_
 go_wp2
 refine ⟨rfl,_,results_void rfl _ _,rfl,?_⟩;have k1:=HC.out.setW hi 0 tk;rw [show ((0 : Nat) : Int)=0 from rfl] at k1;rw [← hn];exact k1
end
end Go.Proofs.Ytjiaobcoeegioaa.Pq
end
section
namespace Go.Proofs.Ytjiaobcoeegioaa.Pq
open Go.RowKit Go.Proofs.YtjiaobcoeegioaaW.PrintWords Go.Proofs.YtjiaobcoeegioaaW.PrintLast Go.Proofs.YtjiaobcoeegioaaW.PrintMore Go.Proofs.Ytjiaobcoeegioaa.N
namespace X
def rplay.T4 : Bool × List (List Nat × List Nat):=(true,[([],[]),([0],[0]),([1],[1]),([2],[2]),([],[]),([4],[4]),([5],[5]),([6],[6]),([],[]),([8],[8]),([9],[9]),([10],[10]),([3,7,11],[3,7,11]),([12],[12]),([13],[13]),([13],[13]),([],[]),([16,14,12,0,1,2,3,4,5,6,7,8,9,10,11,12,13,14,16],[14,16]),([15,17,0,1,2,3,4,5,6,7,8,9,10,11,12,13,14,15,16,17],[15])])
def rplay.B4 : List Nat:=[0,1,3,7,0,16,48,112,0,256,768,1792,4095,8191,16383,16383,0,98303,262143]
theorem rplay.tab4 : rtab .any (opsOf Try.f10 4)=rplay.T4:=by kernel_rfl
theorem rplay.bits4 : waitsOk rplay.T4.2 rplay.B4=true:=by kernel_rfl
def rplay.T12 : Bool × List (List Nat × List Nat):=(true,[([],[]),([0],[0]),([1],[1]),([2],[2]),([],[]),([4],[4]),([5],[5]),([6],[6]),([],[]),([3,0,1,2,3],[3]),([7,9,0,1,2,3,4,5,6,7,9],[7]),([8,10,0,1,2,3,4,5,6,7,8,9,10],[8]),([11,0,1,2,3,4,5,6,7,8,9,10,11],[])])
def rplay.B12 : List Nat:=[0,1,3,7,0,16,48,112,0,15,767,2047,4095]
theorem rplay.tab12 : rtab .any (opsOf Try.f10 12)=rplay.T12:=by kernel_rfl
theorem rplay.bits12 : waitsOk rplay.T12.2 rplay.B12=true:=by kernel_rfl
end X
open X
section
variable {w0 w : World} {P Q : Nat} {W h b : Int} {M : Nat} {A0 : Option Addr} {n pc k : Nat} {s : PS}
theorem rcanZ {q : QF} (H : RPl w0 w P Q W h b M A0 n pc k s q) (ok : s.Ok n k) (hk2 : k≤64) : Calls Try.prog 21 #[.pointer (some ⟨P,0,none⟩)] w fun e w'=>∃ v,e=.returned v∧IRow w' w.heap.size v ((s.en n).map Int.ofNat)∧Below w.heap.size w w':=by
 obtain ⟨ad,c,ad2,c2,dv,hp,_⟩:=H.ex;exact rcan_sem hp ok.len hk2 H.wk ok.st
theorem rstepZ {z : QF} {qs : List QF} (H : RPl w0 w P Q W h b M A0 n pc k s (filmOf z qs s.done)) (ok : s.Ok n k) {i : Nat} (hi : i < s.ws.length) (hs : szs W h b=true) (hM : (M : Int)=W * h * b) (hr : Kd.C k27 w0 A0 n (qs.map (mkF W h b))) (hn : n=qs.length) (hq : ∀ q∈qs,q.fits W h b) (hz : z.fits W h b) (hz1 : z.sz≤1) (ht : tot qs < 8900000) (hn4 : n≤4096) :
  Calls Try.prog 22 #[.pointer (some ⟨P,0,none⟩),.int .i64 i] w fun e w'=>e=.returned (.tuple #[])∧RPl w0 w' P Q W h b M A0 n pc k (s.step i) (filmOf z qs (s.step i).done):=by
 have hg : s.ws.getD i (0,0)=s.ws[i]:=by rw [List.getD_eq_getElem?_getD,List.getElem?_eq_getElem hi];rfl
 have h3:=ok.st s.ws[i] (List.getElem_mem _);unfold PS.step;rw [hg];dsimp only
 rcases Nat.lt_or_ge s.ws[i].1 1 with e|e
 ·have e0 : s.ws[i].1=0:=by omega
  rw [if_pos e0];exact rstep0 H hi e0 (by have:=ok.c;omega) ok.len
 rcases Nat.lt_or_ge s.ws[i].1 2 with e1|e1
 ·have e0 : s.ws[i].1=1:=by omega
  rw [if_neg (by omega),if_pos e0];exact rstep1 H hi e0 ok.len
 rcases Nat.lt_or_ge s.ws[i].1 3 with e2|e2
 ·have e0 : s.ws[i].1=2:=by omega
  rw [if_neg (by omega),if_neg (by omega),if_pos e0];exact rstep2 H hi e0 ok.len
 ·have e0 : s.ws[i].1=3:=by omega
  rw [if_neg (by omega),if_neg (by omega),if_neg (by omega)];dsimp only;obtain ⟨t1,t2⟩:=task_ok ok z hn hi (by omega);have hd:=done_len ok
  have hp : qs[s.ws[i].2]=qs.getD s.ws[i].2 z:=by rw [List.getD_eq_getElem?_getD,List.getElem?_eq_getElem t1];rfl
  rw [filmOf_snoc];exact rstep3 H hi (Prod.ext e0 rfl) ok.len hs hM hr hn hq t1 hp (filmOf_fits hz hq _) (by unfold tot;simp only [List.map_cons,List.map_nil,List.sum_cons,List.sum_nil];omega) (by omega)
end
theorem info73 : (Try.prog.info? 73).map (fun i=>(i.zero,i.size,i.bytes))=some (some (.agg #[.int .i64 0,.int .i64 0]),2,16):=by kernel_rfl
theorem make73 {k : Nat} (hk : k≤64) (W : World) : (Instr.makeSlice 53 (.int .i64 k) (.int .i64 k)).run Try.prog W=.ok (.slice (some ⟨W.heap.size,0,none⟩) k k) (W.alloc (.cells (wcs (List.replicate k (0,0))).toArray 73)):=by
 obtain ⟨i0,hi,hzz⟩:=Option.map_eq_some_iff.1 info73;simp only [Prod.mk.injEq] at hzz;obtain ⟨hz0,hz1,hz2⟩:=hzz;have hr:=run_make (P:=Try.prog) (w:=W) 53 73 i0 (.agg #[.int .i64 0,.int .i64 0]) Try.underlying53 hi hz0 .i64 .i64 (k : Int) (k : Int) (by omega) (by omega) (by rw [hz2];omega) (by omega);simp only [Int.toNat_natCast] at hr;rw [hz1] at hr;rw [hr,← made51];rfl
set_option maxHeartbeats 8000000 in
set_option maxRecDepth 100000 in
theorem rplay_sem {n0 : Nat} {Fs : List S27} (H0 : Parts Fs n0) (HL : Lens Fs) (ht9 : tot (Fs.map qF) < 8900000) (k : Int) (A0 : Option Addr) (c0 : Nat) (w : World) (hr : Kd.C k27 w A0 Fs.length Fs) (picks : List Int) (Ap : Option Addr) (cp : Nat) (hp : (Kd.int .i64).C w Ap picks.length picks) :
  Calls Try.prog 10 #[.slice A0 Fs.length c0,.int .i64 k,.slice Ap picks.length cp] w fun e w'=>Below w.heap.size w w'∧((mayB Fs k=false∧NoPlay e)∨(mayB Fs k=true ∧ ∃ (W h b : Int) (M : Nat),szs W h b=true∧(M : Int)=W * h * b∧(∀ F∈Fs,F.f0=W∧F.f1=h∧F.f2=b)∧Played Fs k.toNat picks W h b M w e w')):=by
 have HR:=Aside0.mk hr;have HP:=Aside0.mk hp;have HM0:=Aside0.mk (And.intro H0 HL);have HA_:=below_alloc (Below.refl w.heap.size w) (.cells #[.int .i64 0,.int .i64 0,.int .i64 0,.slice none 0 0,.slice none 0 0] 27);have HBA:=Aside0.mk (And.intro HA_ (blk_new w (.cells #[.int .i64 0,.int .i64 0,.int .i64 0,.slice none 0 0,.slice none 0 0] 27)));obtain ⟨bm,ebm⟩ : ∃ b,mayB Fs k=b:=⟨_,rfl⟩;have HMB:=Aside0.mk ebm;clear hr hp H0 HL HA_
 go_enter Try.func10,Try.ntmps10
 cases bm
 ·go_wp2_with (first
   | (go_at_call 13;(with_reducible refine (may_sem HM0.out.1 HM0.out.2 k (Kd.C_below HR.out HBA.out.1) HMB.out).mono ?_);rintro e w1 ⟨rfl,hb⟩;have HB1:=Aside0.mk (And.intro (below_step HBA.out.1 hb) (blk_below HBA.out.2 hb));clear hb HBA;have q0:=cells5 HB1.out.2;have q1:=free5 HB1.out.2))
  refine bodyPost_ret (results_cttt rfl _ _ w.heap.size 27 _ (0,0) _ rfl (put5 HB1.out.2 (.int .i64 0) (.int .i64 0) (.int .i64 0) (.slice none 0 0) (.slice none 0 0)) Try.underlying27 rfl (by kernel_rfl)) rfl ?_;exact ⟨low5 (g:=w.heap.size) HB1.out.1 (Nat.le_refl _) (.int .i64 0) (.int .i64 0) (.int .i64 0) (.slice none 0 0) (.slice none 0 0),.inl ⟨HMB.out,rfl⟩⟩
 ·obtain ⟨h0,h1,h2,h3,W,h,b,M,hs,hM,_,hq,hF⟩:=may_facts ebm
  have hf : ∀ F∈Fs,F.f0=W∧F.f1=h∧F.f2=b:=fun F hFm=>by
   rw [hF] at hFm;obtain ⟨q,_,rfl⟩:=List.mem_map.mp hFm;exact ⟨rfl,rfl,rfl⟩
  obtain ⟨qs,eqs⟩ : ∃ qs,Fs.map qF=qs:=⟨_,rfl⟩;rw [eqs] at hq hF ht9
  have hlen : qs.length=Fs.length:=by rw [← eqs,List.length_map]
  obtain ⟨k',rfl⟩ : ∃ k' : Nat,k=k':=⟨k.toNat,by omega⟩;have hkk : 1≤k'∧k'≤64:=⟨by omega,by omega⟩;have HQ:=Aside0.mk (show (∀ q∈qs,q.fits W h b)∧Fs=qs.map (mkF W h b)∧tot qs < 8900000∧qs.length=Fs.length∧Fs.map qF=qs∧(∀ F∈Fs,F.f0=W∧F.f1=h∧F.f2=b) from ⟨hq,hF,ht9,hlen,eqs,hf⟩);have HKK:=Aside0.mk hkk;have H1:=Aside0.mk (And.intro h0 h1);have hmk:=make73 hkk.2;obtain ⟨ad,_,_,_,_,e1,z0,z1,z2,_,_,_,_⟩:=at_film0 HR.out h0 rfl;subst e1;obtain ⟨e1,e2,e3⟩:=hf _ (List.getElem_mem (n:=0) h0);rw [e1,ad_zero] at z0;rw [e2,ad_zero] at z1;rw [e3,ad_zero] at z2;have HZ0:=Aside0.mk (And.intro z0 (And.intro z1 z2));clear e1 e2 e3 z0 z1 z2 hq hF hlen eqs hf ht9 h1 h2 h3 hkk ebm
  go_upto_region 4 with (first
   | (go_at_call 13;(with_reducible refine (may_sem HM0.out.1 HM0.out.2 k' (Kd.C_below HR.out HBA.out.1) HMB.out).mono ?_);rintro e wr ⟨rfl,hb⟩;have HB:=Aside0.mk (And.intro (below_step HBA.out.1 hb) (blk_below HBA.out.2 hb));clear hb HBA))
  clear hmk;have hbq : Below wr.heap.size wr (wr.alloc (.cells (wcs (List.replicate k' (0,0))).toArray 73)):=below_alloc (Below.refl wr.heap.size wr) _;have hbp : Below wr.heap.size wr ((wr.alloc (.cells (wcs (List.replicate k' (0,0))).toArray 73)).alloc (.cells #[.slice (some ad) Fs.length c0,.int .i64 0,.int .i64 0,.int .i64 0,.slice none 0 0,.slice none 0 0,.int .i64 0,.bool false,.slice (some ⟨wr.heap.size,0,none⟩) k' k',.slice none 0 0] 55)):=below_alloc hbq _;have hBQ:=blk_alloc (blk_new wr (.cells (wcs (List.replicate k' (0,0))).toArray 73)) (.cells #[.slice (some ad) Fs.length c0,.int .i64 0,.int .i64 0,.int .i64 0,.slice none 0 0,.slice none 0 0,.int .i64 0,.bool false,.slice (some ⟨wr.heap.size,0,none⟩) k' k',.slice none 0 0] 55);have hBP:=blk_new (wr.alloc (.cells (wcs (List.replicate k' (0,0))).toArray 73)) (.cells #[.slice (some ad) Fs.length c0,.int .i64 0,.int .i64 0,.int .i64 0,.slice none 0 0,.slice none 0 0,.int .i64 0,.bool false,.slice (some ⟨wr.heap.size,0,none⟩) k' k',.slice none 0 0] 55);rw [show (wr.alloc (.cells (wcs (List.replicate k' (0,0))).toArray 73)).heap.size=wr.heap.size+1 by simp] at hBP;obtain ⟨P,eP⟩ : ∃ P,wr.heap.size+1=P:=⟨_,rfl⟩;obtain ⟨Q,eQ⟩ : ∃ Q,wr.heap.size=Q:=⟨_,rfl⟩;have HE:=Aside0.mk (show wr.heap.size≤P∧wr.heap.size≤Q∧w.heap.size < Q from ⟨by omega,by omega,by rw [← eQ];exact blk_lt HB.out.2⟩);obtain ⟨wp,hwp⟩ : ∃ z,(wr.alloc (.cells (wcs (List.replicate k' (0,0))).toArray 73)).alloc (.cells #[.slice (some ad) Fs.length c0,.int .i64 0,.int .i64 0,.int .i64 0,.slice none 0 0,.slice none 0 0,.int .i64 0,.bool false,.slice (some ⟨wr.heap.size,0,none⟩) k' k',.slice none 0 0] 55)=z:=⟨_,rfl⟩
  rw [hwp] at hBQ hBP hbp ⊢;rw [eP] at hBP ⊢;have HBP : Aside0 (Below wr.heap.size wr wp):=⟨hbp⟩;rw [eQ] at hBP hBQ ⊢;have BP:=Aside0.mk hBP;have BQ:=Aside0.mk hBQ;have HZ3:=Aside0.mk (And.intro (keepc hbp (keepc HB.out.1 HZ0.out.1)) (And.intro (keepc hbp (keepc HB.out.1 HZ0.out.2.1)) (keepc hbp (keepc HB.out.1 HZ0.out.2.2))));clear hbq hbp hBP hBQ eP eQ hwp HZ0;have HW : Aside0 (Below wp.heap.size wp wp.drew):=⟨below_drew1 (Below.refl _ _)⟩;refine start_ (n:=19) (S:=fun w'=>w'.cell? ad=some (.int .i64 W)∧w'.cell? ⟨ad.block,ad.off+1,none⟩=some (.int .i64 h)∧w'.cell? ⟨ad.block,ad.off+2,none⟩=some (.int .i64 b)) (ds:=[]) #[false,false,false,false,false,false,false,false,false,false,false,false,false,false,false,false,false,false,false] (by kernel_rfl) rfl rfl ⟨keepc (below_drew1 (Below.refl _ _)) HZ3.out.1,keepc (below_drew1 (Below.refl _ _)) HZ3.out.2.1,keepc (below_drew1 (Below.refl _ _)) HZ3.out.2.2⟩ (fun hHeld=>?_);refine with_tabW rplay.tab4 rplay.bits4 (fun HT_ HW_=>?_);refine zp 0 26 ?_;refine zp 1 27 ?_;refine zp 2 28 ?_;refine zp 4 30 ?_;refine zp 5 31 ?_;refine zp 6 32 ?_;refine zp 8 34 ?_;refine zp 9 35 ?_;refine zp 10 36 ?_;refine zt 3 29 ?_;refine zt 7 33 ?_;refine zt 11 37 ?_;refine join_ (σ:=Addr × Nat × Addr × Nat × Nat) 2 #[true,true,true,true,true,true,true,true,true,true,true,true,true,true,true,true,true,false,false] (fun s_=>[(38,.tuple #[.agg #[.int .i64 W,.int .i64 h,.int .i64 b,.slice (some s_.1) M s_.2.1,.slice (some s_.2.2.1) M s_.2.2.2.1],.bool true]),(25,.tuple #[.agg #[.int .i64 W,.int .i64 h,.int .i64 b,.slice (some s_.1) M s_.2.1,.slice (some s_.2.2.1) M s_.2.2.2.1],.bool true]),(39,.agg #[.int .i64 W,.int .i64 h,.int .i64 b,.slice (some s_.1) M s_.2.1,.slice (some s_.2.2.1) M s_.2.2.2.1]),(40,.bool true),(11,.pointer (some ⟨s_.2.2.2.2,0,none⟩))]) (fun s_ w'=>(w'.cell? ad=some (.int .i64 W)∧w'.cell? ⟨ad.block,ad.off+1,none⟩=some (.int .i64 h)∧w'.cell? ⟨ad.block,ad.off+2,none⟩=some (.int .i64 b))∧Below wp.heap.size wp w'∧(M≤s_.2.1∧M≤s_.2.2.2.1∧Rows w' wr.heap.size (zeroQ M) s_.1 s_.2.1 s_.2.2.1 s_.2.2.2.1)∧w'.heap[s_.2.2.2.2]? = some (.cells #[.int .i64 0,.int .i64 0,.int .i64 0,.slice none 0 0,.slice none 0 0] 27 (0,0))∧wp.heap.size≤s_.2.2.2.2) ?_ ?_
  rotate_left
  ·intro hCont
   refine two_ (i:=12) (j:=16) (Ni:=some 38) (Nj:=some 11) #[true,true,true,true,true,true,true,true,true,true,true,true,true,false,false,false,false,false,false] #[true,true,true,true,true,true,true,true,true,true,true,true,false,false,false,false,true,false,false] rfl rfl rfl rfl (two_of HT_.out (by kernel_rfl)) (by decide) (by decide) (fun K hK=>?_) (fun K hK=>?_)
   ·skip
    try (obtain ⟨wc,hwc⟩ : ∃ z,wp.drew=z:=⟨_,rfl⟩;rw [hwc] at HW ⊢;clear hwc)
    refine goes_ Try.func20 (by kernel_rfl) rfl #[.int .i64 W,.int .i64 h,.int .i64 b] (by rfl) rfl rfl (by simp only [List.map_toArray,List.map_cons,List.map_nil];rfl) ?_
    with_reducible refine (new20_sem hs hM wc).mono ?_
    rintro e wc ⟨ae,ce,ae2,ce2,rfl,lce,lce2,hrw,hb⟩;refine ⟨_,rfl,?_⟩;have H13:=Aside0.mk (And.intro lce (And.intro lce2 (hrw.lower (Nat.le_trans HBP.out.size HW.out.size))));replace HW:=Aside0.mk (below_step HW.out hb)
    try replace H17:=Aside0.mk (And.intro (blk_below H17.out.1 hb) H17.out.2)
    clear hrw hb lce lce2;refine hK.out _ _ (kE HW.out HZ3.out) (fun hHeld=>?_);clear hK K;refine nZ ?_;refine zp 13 25 ?_;refine zp 14 39 ?_;refine zp 15 40 ?_
    refine oN 16 (some 11) rfl rfl fun K hK=>?_
    try (obtain ⟨wc,hwc⟩ : ∃ z,wp.drew=z:=⟨_,rfl⟩;rw [hwc] at HW ⊢;clear hwc)
    refine value_ (w1:=?_) (v:=?_) (by rfl) rfl ?_ ?_;rotate_left 2
    ·go_simp
     constructor
     ·rfl
     ·rfl
    obtain ⟨g5,hga⟩ : ∃ g,wc.heap.size=g:=⟨_,rfl⟩;have H17 : Aside0 ((wc.alloc (.cells #[.int .i64 0,.int .i64 0,.int .i64 0,.slice none 0 0,.slice none 0 0] 27)).heap[g5]? = some (.cells #[.int .i64 0,.int .i64 0,.int .i64 0,.slice none 0 0,.slice none 0 0] 27 (0,0))∧wp.heap.size≤g5):=⟨by rw [← hga];exact ⟨blk_new _ _,HW.out.size⟩⟩;rw [hga];clear hga;have HA_ : Below wc.heap.size wc (wc.alloc (.cells #[.int .i64 0,.int .i64 0,.int .i64 0,.slice none 0 0,.slice none 0 0] 27)):=below_alloc (Below.refl _ _) _;replace HW:=Aside0.mk (below_step HW.out HA_)
    try replace H13:=Aside0.mk (And.intro H13.out.1 (And.intro H13.out.2.1 (H13.out.2.2.below HA_)))
    obtain ⟨wc,hwd⟩ : ∃ wd,wc.alloc (.cells #[.int .i64 0,.int .i64 0,.int .i64 0,.slice none 0 0,.slice none 0 0] 27)=wd:=⟨_,rfl⟩;rw [hwd] at HW H17 ⊢
    try rw [hwd] at H13
    clear HA_ hwd;refine hK.out _ _ (kE HW.out HZ3.out) (fun hHeld=>?_);clear hK K;refine nZ ?_;exact norm_ (by simp only [putAll,Act.put,s0,s1,s2]) (hCont (ae,ce,ae2,ce2,g5) _ ⟨hHeld,HW.out,H13.out,H17.out⟩)
   ·skip
    try (obtain ⟨wc,hwc⟩ : ∃ z,wp.drew=z:=⟨_,rfl⟩;rw [hwc] at HW ⊢;clear hwc)
    refine value_ (w1:=?_) (v:=?_) (by rfl) rfl ?_ ?_;rotate_left 2
    ·go_simp
     constructor
     ·rfl
     ·rfl
    obtain ⟨g5,hga⟩ : ∃ g,wc.heap.size=g:=⟨_,rfl⟩;have H17 : Aside0 ((wc.alloc (.cells #[.int .i64 0,.int .i64 0,.int .i64 0,.slice none 0 0,.slice none 0 0] 27)).heap[g5]? = some (.cells #[.int .i64 0,.int .i64 0,.int .i64 0,.slice none 0 0,.slice none 0 0] 27 (0,0))∧wp.heap.size≤g5):=⟨by rw [← hga];exact ⟨blk_new _ _,HW.out.size⟩⟩;rw [hga];clear hga;have HA_ : Below wc.heap.size wc (wc.alloc (.cells #[.int .i64 0,.int .i64 0,.int .i64 0,.slice none 0 0,.slice none 0 0] 27)):=below_alloc (Below.refl _ _) _;replace HW:=Aside0.mk (below_step HW.out HA_)
    try replace H13:=Aside0.mk (And.intro H13.out.1 (And.intro H13.out.2.1 (H13.out.2.2.below HA_)))
    obtain ⟨wc,hwd⟩ : ∃ wd,wc.alloc (.cells #[.int .i64 0,.int .i64 0,.int .i64 0,.slice none 0 0,.slice none 0 0] 27)=wd:=⟨_,rfl⟩;rw [hwd] at HW H17 ⊢
    try rw [hwd] at H13
    clear HA_ hwd;refine hK.out _ _ (kE HW.out HZ3.out) (fun hHeld=>?_);clear hK K;refine nZ ?_
    refine oN 12 (some 38) rfl rfl fun K hK=>?_
    try (obtain ⟨wc,hwc⟩ : ∃ z,wp.drew=z:=⟨_,rfl⟩;rw [hwc] at HW ⊢;clear hwc)
    refine goes_ Try.func20 (by kernel_rfl) rfl #[.int .i64 W,.int .i64 h,.int .i64 b] (by rfl) rfl rfl (by simp only [List.map_toArray,List.map_cons,List.map_nil];rfl) ?_
    with_reducible refine (new20_sem hs hM wc).mono ?_
    rintro e wc ⟨ae,ce,ae2,ce2,rfl,lce,lce2,hrw,hb⟩;refine ⟨_,rfl,?_⟩;have H13:=Aside0.mk (And.intro lce (And.intro lce2 (hrw.lower (Nat.le_trans HBP.out.size HW.out.size))));replace HW:=Aside0.mk (below_step HW.out hb)
    try replace H17:=Aside0.mk (And.intro (blk_below H17.out.1 hb) H17.out.2)
    clear hrw hb lce lce2;refine hK.out _ _ (kE HW.out HZ3.out) (fun hHeld=>?_);clear hK K;refine nZ ?_;refine zp 13 25 ?_;refine zp 14 39 ?_;refine zp 15 40 ?_;exact norm_ (by simp only [putAll,Act.put,s0,s1,s2]) (hCont (ae,ce,ae2,ce2,g5) _ ⟨hHeld,HW.out,H13.out,H17.out⟩)
  rintro ⟨ae,ce,ae2,ce2,g5⟩ wc ⟨hHeld,h1,h2,h3,h4⟩;dsimp only at h1 h2 h3 h4;replace HW:=Aside0.mk h1;have H13:=Aside0.mk h2;have H17:=Aside0.mk (And.intro h3 h4);clear h1 h2 h3 h4;refine norm_ (a':=?_) ?_ ?_;rotate_left
  ·simp only [putAll,Act.put,s0,s1,s2]
   rfl
  refine oN 17 (none) rfl rfl fun K hK=>?_
  have q0:=cells5 H17.out.1;have q1:=free5 H17.out.1;refine skip_ (w1:=?_) (by rfl) rfl ?_ ?_;rotate_left
  ·go_simp
   rfl
  clear q0 q1
  have hneA : ad.block≠g5:=fun e=>by have h1:=World.block_lt_of_cell? _ _ HZ3.out.1;have h2:=H17.out.2;omega
  refine hK.out _ _ ⟨cell_set5 (keepc HW.out HZ3.out.1) hneA,cell_set5 (keepc HW.out HZ3.out.2.1) hneA,cell_set5 (keepc HW.out HZ3.out.2.2) hneA⟩ (fun hHeld=>?_);clear hK K;refine zp 18 12 ?_;refine dN ?_;clear hHeld hneA;have w4e : Aside0 (Below wp.heap.size wp (((((wc.setCell ⟨g5,0,none⟩ (.int .i64 W)).setCell ⟨g5,1,none⟩ (.int .i64 h)).setCell ⟨g5,2,none⟩ (.int .i64 b)).setCell ⟨g5,3,none⟩ (.slice (some ae) M ce)).setCell ⟨g5,4,none⟩ (.slice (some ae2) M ce2))∧(((((wc.setCell ⟨g5,0,none⟩ (.int .i64 W)).setCell ⟨g5,1,none⟩ (.int .i64 h)).setCell ⟨g5,2,none⟩ (.int .i64 b)).setCell ⟨g5,3,none⟩ (.slice (some ae) M ce)).setCell ⟨g5,4,none⟩ (.slice (some ae2) M ce2)).heap[g5]? = some (.cells #[.int .i64 W,.int .i64 h,.int .i64 b,.slice (some ae) M ce,.slice (some ae2) M ce2] 27 (0,0))∧Rows (((((wc.setCell ⟨g5,0,none⟩ (.int .i64 W)).setCell ⟨g5,1,none⟩ (.int .i64 h)).setCell ⟨g5,2,none⟩ (.int .i64 b)).setCell ⟨g5,3,none⟩ (.slice (some ae) M ce)).setCell ⟨g5,4,none⟩ (.slice (some ae2) M ce2)) wr.heap.size (zeroQ M) ae ce ae2 ce2):=⟨low5 HW.out H17.out.2 _ _ _ _ _,put5 H17.out.1 _ _ _ _ _,H13.out.2.2.tk ((tk_set5 H17.out.1 (by decide) _ _ _ _ _ inferInstance : Tk [3,63,82] wc _).less (by simp))⟩;have HL4:=Aside0.mk (And.intro H13.out.1 H13.out.2.1)
  have hneG : g5≠P:=fun e=>by have h1:=blk_lt BP.out;have h2:=H17.out.2;omega
  obtain ⟨w4,hw4⟩ : ∃ z,((((wc.setCell ⟨g5,0,none⟩ (.int .i64 W)).setCell ⟨g5,1,none⟩ (.int .i64 h)).setCell ⟨g5,2,none⟩ (.int .i64 b)).setCell ⟨g5,3,none⟩ (.slice (some ae) M ce)).setCell ⟨g5,4,none⟩ (.slice (some ae2) M ce2)=z:=⟨_,rfl⟩;rw [hw4] at w4e ⊢;clear hw4 HW H13 H17 HZ3;have BP4:=Aside0.mk (blk_below BP.out w4e.out.1);have BQ4:=Aside0.mk (blk_below BQ.out w4e.out.1);have q0:=cells5 w4e.out.2.1;have q1:=free10 BP4.out;have q2:=cells10 BP4.out;have hneG2:=hneG.symm
  go_upto_region 7 with fail
  clear q0 q1 q2
  have HSt : Aside0 (RPl wr (set5b w4 P (.int .i64 W) (.int .i64 h) (.int .i64 b) (.slice (some ae) M ce) (.slice (some ae2) M ce2)) P Q W h b M (some ad) Fs.length c0 k' (PS.after Fs.length k' picks 0) (filmOf (zeroQ M) qs (PS.after Fs.length k' picks 0).done)):=⟨by
   have hne : Q≠P:=fun e=>by
    have hq1:=BQ4.out;rw [e,BP4.out] at hq1
    injection hq1 with h1
    injection h1 with _ h2 _
    exact absurd h2 (by decide)
   have k1 : Tk [3,63,82] w4 (set5b w4 P (.int .i64 W) (.int .i64 h) (.int .i64 b) (.slice (some ae) M ce) (.slice (some ae2) M ce2)) :=
    tk_set1 (blk_set (blk_set (blk_set (blk_set BP4.out 1 _) 2 _) 3 _) 4 _) (by decide) 5 _ (tk_set1 (blk_set (blk_set (blk_set BP4.out 1 _) 2 _) 3 _) (by decide) 4 _ (tk_set1 (blk_set (blk_set BP4.out 1 _) 2 _) (by decide) 3 _ (tk_set1 (blk_set BP4.out 1 _) (by decide) 2 _ (tk_set1 BP4.out (by decide) 1 _ inferInstance))))
   exact ⟨(((((below_step HBP.out w4e.out.1).setCell (p:=⟨P,1,none⟩) HE.out.1 _).setCell (p:=⟨P,2,none⟩) HE.out.1 _).setCell (p:=⟨P,3,none⟩) HE.out.1 _).setCell (p:=⟨P,4,none⟩) HE.out.1 _).setCell (p:=⟨P,5,none⟩) HE.out.1 _,HE.out.1,HE.out.2.1,⟨ae,ce,ae2,ce2,.slice none 0 0,put10b BP4.out _ _ _ _ _,HL4.out.1,HL4.out.2,w4e.out.2.2.tk (k1.less (by simp)),own_nil _ _ _ _⟩,far1 (far1 (far1 (far1 (far1 BQ4.out hne _ _) hne _ _) hne _ _) hne _ _) hne _ _⟩⟩
  unfold set5b at HSt;clear hneG hneG2 BP BQ BP4 BQ4 w4e HL4 HBP;obtain ⟨w5,hw5⟩ : ∃ z,(((((w4.setCell ⟨P,1,none⟩ (.int .i64 W)).setCell ⟨P,2,none⟩ (.int .i64 h)).setCell ⟨P,3,none⟩ (.int .i64 b)).setCell ⟨P,4,none⟩ (.slice (some ae) M ce)).setCell ⟨P,5,none⟩ (.slice (some ae2) M ce2))=z:=⟨_,rfl⟩;rw [hw5] at HSt ⊢;clear hw5;have HOK0:=Aside0.mk (after_ok Fs.length k' picks 0 HKK.out.1 (Nat.zero_le _)).1
  go_wp2_with (first
   | (go_at_call 21;(with_reducible refine (rcanZ HSt.out HOK0.out HKK.out.2).mono ?_);rintro e w6 ⟨v,rfl,hi,hb⟩;have HI:=Aside0.mk (own_weaken hi HSt.out.lo.size);replace HSt:=Aside0.mk (HSt.out.below hb);clear hi hb))
  clear HOK0
  go_loopw [13,14] (fun x v ws=>∃ t : Nat,t≤4 * Fs.length∧x=.int .i64 t∧Aside0 (RPl wr ws P Q W h b M (some ad) Fs.length c0 k' (PS.after Fs.length k' picks t) (filmOf (zeroQ M) qs (PS.after Fs.length k' picks t).done))∧Aside0 (IRow ws wr.heap.size v (((PS.after Fs.length k' picks t).en Fs.length).map Int.ofNat))) (fun x _ _=>4 * Fs.length - (intOf x).toNat)
  case atStart=>exact ⟨0,Nat.zero_le _,rfl,HSt,HI⟩
  case round =>
   clear HSt HI;obtain ⟨t,ht,rfl,HS,HI⟩:=hrel;obtain ⟨hok,hrest⟩:=after_ok Fs.length k' picks t HKK.out.1 ht;obtain ⟨s,es⟩ : ∃ s,PS.after Fs.length k' picks t=s:=⟨_,rfl⟩;rw [es] at HS hok hrest HI
   have hen : (s.en Fs.length).length≤64:=by
    have h1 : (s.en Fs.length).length≤(List.range s.ws.length).length:=List.length_filter_le _ _;rw [List.length_range,hok.len] at h1;have:=HKK.out.2;omega
   have HOK:=Aside0.mk (And.intro hok (And.intro hrest es));obtain ⟨en,een⟩ : ∃ en,s.en Fs.length=en:=⟨_,rfl⟩;obtain ⟨l,el⟩ : ∃ l,en.length=l:=⟨_,rfl⟩;rw [een] at HI;obtain ⟨Ae,cE,ev⟩:=own_slice HI.out;rw [List.length_map,el] at ev;subst ev;rw [een,el] at hen
   by_cases hl0 : l=0
   ·have hnil : s.en Fs.length=[]:=by rw [een];exact List.length_eq_zero_iff.mp (el.trans hl0)
    obtain ⟨r0,r1,_⟩:=rest_of_stuck hok HKK.out.1 hnil;have HT : Aside0 (t=4 * Fs.length∧s.done.Perm (List.range Fs.length)):=⟨by omega,r1⟩;have cl : decide (0 < (l : Int))=false:=decide_eq_false (by omega);have cl2 : decide (0 < l)=false:=decide_eq_false (by omega);obtain ⟨ax,cx,ax2,cx2,dv,hp,hl1,hl2,hrx,hdx⟩:=HS.out.ex;have HC:=Aside0.mk hp;obtain ⟨Ad,cd,edv⟩:=own_slice hdx;rw [List.length_map] at edv;subst edv;have HX:=Aside0.mk (And.intro hl1 (And.intro hl2 (And.intro hrx hdx)));clear hp hok hrest es een el hl0 hnil r0 r1 ht hl1 hl2 hrx hdx HI
    go_upto_region 12 with fail
    have HNP:=Aside0.mk (show P≠w.heap.size by have h1:=HE.out.1;have h2:=blk_lt HB.out.2;omega);have BX:=Aside0.mk (blk_below HB.out.2 HS.out.lo);refine sT (n:=13) (S:=fun w'=>w'.cell? ⟨P,1,none⟩=some (.int .i64 W)∧w'.cell? ⟨P,2,none⟩=some (.int .i64 h)∧w'.cell? ⟨P,3,none⟩=some (.int .i64 b)∧w'.cell? ⟨P,4,none⟩=some (.slice (some ax) M cx)∧w'.cell? ⟨P,5,none⟩=some (.slice (some ax2) M cx2)∧w'.cell? ⟨P,9,none⟩=some (.slice Ad s.done.length cd)) (ds:=[]) (by kernel_rfl) rfl ⟨(cells10 (blk_below HC.out (below_drew1 (Below.refl _ _)))).2.1,(cells10 (blk_below HC.out (below_drew1 (Below.refl _ _)))).2.2.1,(cells10 (blk_below HC.out (below_drew1 (Below.refl _ _)))).2.2.2.1,(cells10 (blk_below HC.out (below_drew1 (Below.refl _ _)))).2.2.2.2.1,(cells10 (blk_below HC.out (below_drew1 (Below.refl _ _)))).2.2.2.2.2.1,(cells10 (blk_below HC.out (below_drew1 (Below.refl _ _)))).2.2.2.2.2.2.2.2.2⟩ (fun hHeld=>?_);refine with_tabW rplay.tab12 rplay.bits12 (fun HT_ HW_=>?_);refine zp 0 64 ?_;refine zp 1 65 ?_;refine zp 2 66 ?_;refine zp 4 68 ?_;refine zp 5 69 ?_;refine zp 6 70 ?_;refine zp 8 72 ?_;refine zt 3 67 ?_;refine zt 7 71 ?_
    refine oN 9 (none) rfl rfl fun K hK=>?_
    obtain ⟨wc,hwc⟩ : ∃ z,wr.drew=z:=⟨_,rfl⟩;have HWc : Aside0 (Below wr.heap.size wr wc):=⟨by rw [← hwc];exact below_drew1 (Below.refl _ _)⟩;rw [hwc];clear hwc;have q0:=cells5 (blk_below BX.out HWc.out);have q1:=free5 (blk_below BX.out HWc.out);refine skip_ (w1:=?_) (by rfl) rfl ?_ ?_;rotate_left
    ·go_simp
     rfl
    clear q0 q1;refine hK.out _ _ ⟨(cells10 (far5 (blk_below HC.out HWc.out) HNP.out _ _ _ _ _)).2.1,(cells10 (far5 (blk_below HC.out HWc.out) HNP.out _ _ _ _ _)).2.2.1,(cells10 (far5 (blk_below HC.out HWc.out) HNP.out _ _ _ _ _)).2.2.2.1,(cells10 (far5 (blk_below HC.out HWc.out) HNP.out _ _ _ _ _)).2.2.2.2.1,(cells10 (far5 (blk_below HC.out HWc.out) HNP.out _ _ _ _ _)).2.2.2.2.2.1,(cells10 (far5 (blk_below HC.out HWc.out) HNP.out _ _ _ _ _)).2.2.2.2.2.2.2.2.2⟩ (fun hHeld=>?_);clear hK K;refine zp 10 7 ?_;refine zp 11 8 ?_;refine zp 12 9 ?_;refine dN ?_;clear hHeld
    go_wp2
    refine bodyPost_ret (results_cttt rfl _ _ w.heap.size 27 _ (0,0) _ rfl (put5 (blk_below BX.out HWc.out) (.int .i64 W) (.int .i64 h) (.int .i64 b) (.slice (some ax) M cx) (.slice (some ax2) M cx2)) Try.underlying27 rfl (by kernel_rfl)) rfl ?_;have hbw : Below w.heap.size w wc:=below_step HB.out.1 (below_step HS.out.lo HWc.out);have k5 : Tk [3,63,82] wc (set5 wc w.heap.size (.int .i64 W) (.int .i64 h) (.int .i64 b) (.slice (some ax) M cx) (.slice (some ax2) M cx2)):=tk_set5 (blk_below BX.out HWc.out) (by decide) _ _ _ _ _ inferInstance
    have hne : qs≠[]:=fun e=>by
     have h1:=HQ.out.2.2.2.1;rw [e] at h1;have h2:=H1.out.1;rw [← h1] at h2;exact absurd h2 (by decide)
    refine ⟨low5 (g:=w.heap.size) hbw (Nat.le_refl _) (.int .i64 W) (.int .i64 h) (.int .i64 b) (.slice (some ax) M cx) (.slice (some ax2) M cx2),.inr ⟨HMB.out,W,h,b,M,hs,hM,HQ.out.2.2.2.2.2,ax,cx,ax2,cx2,.slice Ad s.done.length cd,by rw [← HT.out.1];rfl,HX.out.1,HX.out.2.1,?_,?_⟩⟩
    ·rw [HQ.out.2.2.2.2.1,← filmOf_all HQ.out.2.2.2.1.symm hne HT.out.2 (fun q hq=>zero_add hM (HQ.out.1 q hq))]
     exact ((HX.out.2.2.1.below HWc.out).tk (k5.less (by simp))).lower HB.out.1.size
    ·rw [Int.toNat_natCast,← HT.out.1,HOK.out.2.2]
     exact own_weaken (IRow.tk (pw_own_below HX.out.2.2.2 HWc.out) (k5.less (by simp))) HB.out.1.size
   ·have hnil : s.en Fs.length≠[]:=fun e=>hl0 (by rw [← el,← een,e];rfl)
    obtain ⟨hok2,r1⟩:=next_ok (picks:=picks) (t:=t) hok hnil
    have hl1 : 0 < l:=by omega
    have hgo:=pick_en (picks:=picks) (t:=t) hnil;unfold PS.pick at hgo;rw [een,el] at hgo;obtain ⟨a,ea⟩ : ∃ a,pickAt picks t l=a:=⟨_,rfl⟩
    have hal : a < l:=by rw [← ea];exact pickAt_lt hl1
    obtain ⟨i,ei⟩ : ∃ i,en.getD a 0=i:=⟨_,rfl⟩;rw [ea,ei] at hgo;have HT : Aside0 (t+1≤4 * Fs.length∧PS.after Fs.length k' picks (t+1)=s.step i∧i < s.ws.length∧en.getD a 0=i∧pickAt picks t l=a∧0 < l∧l≤64∧(s.step i).Ok Fs.length k'):=⟨by omega,by show (PS.after Fs.length k' picks t).next Fs.length picks t=s.step i;rw [es];unfold PS.next PS.pick;rw [een,el,ea,ei],hgo.1,ei,ea,hl1,hen,by unfold PS.next PS.pick at hok2;rw [een,el,ea,ei] at hok2;exact hok2⟩;have cl : decide (0 < (l : Int))=true:=decide_eq_true (by omega);have cl2 : decide (0 < l)=true:=decide_eq_true (by omega);obtain ⟨g,eg,hga⟩:=IRow.at HI.out (i:=a) (by omega);rw [ei] at hga;subst eg;clear hok hok2 hrest es een el hl0 hnil r1 ht hgo ea ei HI hen hl1
    go_wp2_with (first
     | (go_at_call 23;(with_reducible refine (picked_sem (Kd.C_below (Kd.C_below HP.out HB.out.1) HS.out.lo) HT.out.2.2.2.2.2.1 HT.out.2.2.2.2.2.2.1 HT.out.2.2.2.2.1).mono ?_);rintro e w1 ⟨rfl,hb⟩;have HS1:=Aside0.mk (HS.out.below hb);replace hga:=keepc hb hga;clear hb)
     | (go_at_call 22;(with_reducible refine (rstepZ HS1.out HOK.out.1 HT.out.2.2.1 hs hM (HQ.out.2.1 ▸ Kd.C_below HR.out HB.out.1) HQ.out.2.2.2.1.symm HQ.out.1 (zero_fits hM) (zero_sz M) HQ.out.2.2.1 H1.out.2).mono ?_);rintro e w2 ⟨rfl,hps⟩;have HS2:=Aside0.mk hps;clear hps hga HS1)
     | (go_at_call 21;(with_reducible refine (rcanZ HS2.out HT.out.2.2.2.2.2.2.2 HKK.out.2).mono ?_);rintro e w6 ⟨v,rfl,hi,hb⟩;have HI:=Aside0.mk (own_weaken hi HS2.out.lo.size);replace HS2:=Aside0.mk (HS2.out.below hb);clear hi hb))
    have g1:=HT.out.1;have g2:=H1.out.2
    have g3 : wrap64 ((t : Int)+1)=((t+1 : Nat) : Int):=by unfold wrap64;omega
    clear g2
    go_roundw
    case rel=>exact ⟨t+1,HT.out.1,by rw [g3],⟨by rw [HT.out.2.1];exact HS2.out⟩,⟨by rw [HT.out.2.1];exact HI.out⟩⟩
    case measure=>rw [g3];clear g3;simp only [intOf,Int.toNat_natCast];omega
end Go.Proofs.Ytjiaobcoeegioaa.Pq
end
section
namespace Go.Proofs.Ytjiaobcoeegioaa.U
open Go.ChangeShapes Go.WideShapes
theorem one_le {H : Type} (d : DataW H) : 1≤Rows.uptoBulk d:=by
 cases d with
 | lit l=>cases l <;> simp [Rows.uptoBulk]
 | nil=>simp [Rows.uptoBulk]
 | ptr d=>simp [Rows.uptoBulk]
 | slice elems spare=>simp [Rows.uptoBulk]
 | agg parts=>simp [Rows.uptoBulk]
 | iface t d=>simp [Rows.uptoBulk]
 | map entries=>simp [Rows.uptoBulk]
 | held h=>simp [Rows.uptoBulk]
theorem part_le {H : Type} {d : DataW H} {l : List (DataW H)} (h : d∈l) : Rows.uptoBulk d≤Rows.uptoBulkAll l:=by
 induction l with
 | nil=>cases h
 | cons x r ih =>
  simp only [Rows.uptoBulkAll]
  rcases List.mem_cons.1 h with e|e
  ·subst e;omega
  ·have:=ih e;omega
theorem bound {H : Type} {l : List (DataW H)} (hk : Rows.uptoSmall H l=true) : Rows.uptoBulkAll l≤1048576:=of_decide_eq_true hk
end Go.Proofs.Ytjiaobcoeegioaa.U
end
section
namespace Go.Proofs.Ytjiaobcoeegioaa.N
open Go Go.RowKit Go.Proofs.YtjiaobcoeegioaaW.PrintWords Go.Proofs.YtjiaobcoeegioaaW.PrintLast Go.Proofs.YtjiaobcoeegioaaW.PrintMore Go.Proofs.Ytjiaobcoeegioaa.Pq
section
variable {H : Type} {enc : TypeId × Value→H} {P : Program} {w : World} {base : Nat} {spare : Nat→Bool} {held : Bool}
def Op (enc : TypeId × Value→H) (P : Program) (w : World) (base : Nat) (spare : Nat→Bool) (held : Bool) {α : Type} (d : Kd α) (t : TypeId) (wt : α→Nat) (ok : α→Prop) : Prop :=
 ∀ (fuel : Nat) (cs : List Value) (x : DataW H × List MemPlace),DataW.trod enc P w base spare held fuel t cs=some x → ∃ a,d.K w a cs∧wt a≤Rows.uptoBulk x.1∧ok a
theorem op_int {t : TypeId} {k : IntKind} (ht : P.underlying t=some (.int k)) : Op enc P w base spare held (Kd.int k) t (fun _=>1) (fun n=>(Lit.int k n).wf=true):=fun fuel cs x h=>by
 obtain ⟨n,rfl,rfl,hw⟩:=DataW.trod_int ht h;exact ⟨n,rfl,by simp [Rows.uptoBulk],hw⟩
theorem bulk_sum {f : Nat→Nat} {D : Nat→DataW H} : ∀ (n : Nat),(∀ i,i < n→f i≤Rows.uptoBulk (D i))→((List.range n).map f).sum≤Rows.uptoBulkAll ((List.range n).map D)
 | 0,_=>by simp [Rows.uptoBulkAll]
 | n+1,h=>by
  have ih:=bulk_sum n (fun i hi=>h i (by omega))
  have ha : ∀ l m : List (DataW H),Rows.uptoBulkAll (l++m)=Rows.uptoBulkAll l+Rows.uptoBulkAll m:=fun l m=>by
   induction l with
   | nil=>simp [Rows.uptoBulkAll]
   | cons a l ih=>simp only [List.cons_append,Rows.uptoBulkAll,ih];omega
  have h1:=h n (by omega);rw [List.range_succ,List.map_append,List.map_append,List.sum_append,ha];simp only [List.map_cons,List.map_nil,List.sum_cons,List.sum_nil,Rows.uptoBulkAll];omega
theorem op_slice {α : Type} [Inhabited α] {d : Kd α} {t e : TypeId} {wt : α→Nat} {ok : α→Prop} (ht : P.underlying t=some (.slice e)) (hc : P.cellsOf e=d.sz) (h : Op enc P w base spare held d e wt ok) :
  Op enc P w base spare held (Kd.slice e d) t (fun xs=>(xs.map wt).sum) (fun xs=>∀ a∈xs,ok a):=fun fuel cs x hx=>by
 rcases Go.Deep.open_slice ht hx with ⟨rfl,rfl⟩|⟨a,len,cap,m,n,D,Pl,rfl,hb,hl,hm,hmm,rfl,hi⟩
 ·exact ⟨[],⟨none,0,rfl,Nat.le_refl _,Kd.C_nil d w⟩,by simp,fun a ha=>by cases ha⟩
 ·have hlm : len≤m:=by rw [hmm];split <;> omega
  obtain ⟨f,hf⟩:=Go.Deep.choose_lt (α:=α) (n:=len) (p:=fun i y=>∃ cs',w.cells? base (a.add (i * P.cellsOf e)) (P.cellsOf e)=some cs'∧d.K w y cs'∧wt y≤Rows.uptoBulk (D i)∧ok y) (fun i hi2=>by
   obtain ⟨cs',h1,h2⟩:=hi i (by omega);obtain ⟨y,k1,k2,k3⟩:=h n cs' _ h2
   exact ⟨y,cs',h1,k1,k2,k3⟩)
  have hlen : ((List.range len).map f).length=len:=by rw [List.length_map,List.length_range]
  have hcap : cap≤9223372036854775807:=by simpa [maxLen] using hm
  refine ⟨(List.range len).map f,⟨some a,cap,by rw [hlen],by rw [hlen];exact hl,?_⟩,?_,?_⟩
  ·refine ⟨rfl,by rw [hlen];omega,fun _=>⟨a,rfl,fun j p hj=>?_⟩⟩
   have hj2 : j < len:=by
    have:=(List.getElem?_eq_some_iff.mp hj).1
    rwa [hlen] at this
   have hp : p=f j:=by
    rw [List.getElem?_map,List.getElem?_range hj2] at hj;exact (Option.some.inj hj).symm
   subst hp;obtain ⟨cs',h1,h2,_⟩:=hf j hj2;obtain ⟨_,h4,h5⟩:=World.cells?_some h1;refine ⟨cs',by rw [h4,hc],h2,fun i u hu=>?_⟩
   have hi2 : i < P.cellsOf e:=by
    have:=(List.getElem?_eq_some_iff.mp hu).1;omega
   rw [← hc,← Go.Deep.add_add,h5 i hi2,hu]
  ·have h1:=bulk_sum (f:=fun i=>wt (f i)) (D:=D) len (fun i hi2=>(hf i hi2).choose_spec.2.2.1)
   simp only [List.map_map,Rows.uptoBulk];have : ((List.range len).map (wt∘f)).sum=((List.range len).map fun i=>wt (f i)).sum:=rfl;omega
  ·intro y hy
   obtain ⟨i,hi2,rfl⟩:=List.mem_map.mp hy;exact (hf i (List.mem_range.mp hi2)).choose_spec.2.2.2
instance : Inhabited RatS:=⟨⟨false,[],[]⟩⟩
instance : Inhabited S27:=⟨⟨0,0,0,[],[]⟩⟩
def wtR (x : RatS) : Nat:=x.f1.length+x.f2.length+1
def okR (x : RatS) : Prop:=W x.f1∧W x.f2
theorem wf32 {n : Int} (h : (Lit.int .u32 n).wf=true) : 0≤n∧n < 4294967296:=by
 have h2 : IntKind.u32.min≤n∧n≤IntKind.u32.max:=by simpa [Lit.wf] using h
 have e1 : IntKind.u32.min=0:=by decide
 have e2 : IntKind.u32.max=4294967295:=by decide
 omega
theorem len_sum (xs : List Int) : (xs.map fun _=>1).sum=xs.length:=by
 induction xs with
 | nil=>rfl
 | cons a l ih=>rw [List.map_cons,List.sum_cons,ih,List.length_cons];omega
theorem op_limbs {t e : TypeId} (ht : P.underlying t=some (.slice e)) (he : P.underlying e=some (.int .u32)) (hc : P.cellsOf e=1) : Op enc P w base spare held (Kd.slice e (Kd.int .u32)) t (fun xs=>xs.length) W:=fun fuel cs x h=>by
 obtain ⟨a,h1,h2,h3⟩:=op_slice (d:=Kd.int .u32) ht hc (op_int he) fuel cs x h;dsimp only at h2;rw [len_sum] at h2;exact ⟨a,h1,h2,fun n hn=>wf32 (h3 n hn)⟩
theorem drop_take3 {a b c : Value} {cs : List Value} (hl : cs.length=3) (h0 : (cs.drop 0).take 1=[a]) (h1 : (cs.drop 1).take 1=[b]) (h2 : (cs.drop 2).take 1=[c]) : cs=[a,b,c]:=by
 match cs,hl with
 | [x,y,z],_=>simpa using And.intro h0 (And.intro h1 h2)
theorem drop_take5 {a b c d e : Value} {cs : List Value} (hl : cs.length=5) (h0 : (cs.drop 0).take 1=[a]) (h1 : (cs.drop 1).take 1=[b]) (h2 : (cs.drop 2).take 1=[c]) (h3 : (cs.drop 3).take 1=[d]) (h4 : (cs.drop 4).take 1=[e]) : cs=[a,b,c,d,e]:=by
 match cs,hl with
 | [x,y,z,u,v],_=>simpa using And.intro h0 (And.intro h1 (And.intro h2 (And.intro h3 h4)))
end
section
variable {H : Type} {enc : TypeId × Value→H} {w : World} {base : Nat} {spare : Nat→Bool} {held : Bool}
theorem op63 : Op enc Try.prog w base spare held k63 63 wtR okR:=fun fuel cs x h=>by
 obtain ⟨y0,y1,y2,n,rfl,hl,hb,h1,h2⟩:=Go.Deep.trod_struct3 Try.underlying63 h;obtain ⟨b,e0,hx0⟩:=DataW.trod_bool (t:=4) Try.underlying4 hb;obtain ⟨xs,⟨A1,c1,e1,l1,g1⟩,s1,o1⟩:=op_limbs (t:=61) (e:=82) Try.underlying61 Try.underlying82 (by kernel_rfl) _ _ _ h1;obtain ⟨ys,⟨A2,c2,e2,l2,g2⟩,s2,o2⟩:=op_limbs (t:=61) (e:=82) Try.underlying61 Try.underlying82 (by kernel_rfl) _ _ _ h2
 have c4 : Try.prog.cellsOf 4=1:=by kernel_rfl
 have c61 : Try.prog.cellsOf 61=1:=by kernel_rfl
 have c63 : Try.prog.cellsOf 63=3:=by kernel_rfl
 change (cs.drop 0).take (Try.prog.cellsOf 4)=_ at e0;change (cs.drop 1).take (Try.prog.cellsOf 61)=_ at e1;change (cs.drop 2).take (Try.prog.cellsOf 61)=_ at e2;rw [c4] at e0;rw [c61] at e1 e2;have ec:=drop_take3 (hl.trans c63) e0 e1 e2;refine ⟨⟨b,xs,ys⟩,by rw [ec];exact k63_mk w ⟨b,xs,ys⟩ l1 g1 l2 g2,?_,o1,o2⟩;have h3:=U.one_le y0.1;dsimp only at s1 s2
 show xs.length+ys.length+1≤Rows.uptoBulk (.agg [y0.1,y1.1,y2.1])
 simp only [Rows.uptoBulk,Rows.uptoBulkAll];omega
def wtF (F : S27) : Nat:=(F.f3.map wtR).sum+(F.f4.map wtR).sum+1
def okF (F : S27) : Prop:=(∀ x∈F.f3,okR x)∧(∀ x∈F.f4,okR x)∧(-9223372036854775808≤F.f0∧F.f0≤9223372036854775807)
theorem op27 : Op enc Try.prog w base spare held k27 27 wtF okF:=fun fuel cs x h=>by
 obtain ⟨xs,n,_,rfl,hl,hn,hf⟩:=DataW.trod_struct Try.underlying27 h
 have c3 : Try.prog.cellsOf 3=1:=by kernel_rfl
 have c25 : Try.prog.cellsOf 25=1:=by kernel_rfl
 have c27 : Try.prog.cellsOf 27=5:=by kernel_rfl
 have c63 : Try.prog.cellsOf 63=3:=by kernel_rfl
 match xs,hn with
 | [y0,y1,y2,y3,y4],_ =>
  have f0:=hf 0 _ rfl;have f1:=hf 1 _ rfl;have f2:=hf 2 _ rfl;have f3:=hf 3 _ rfl;have f4:=hf 4 _ rfl;obtain ⟨i0,e0,_,w0⟩:=DataW.trod_int (t:=3) (k:=.i64) Try.underlying3 f0;obtain ⟨i1,e1,_,_⟩:=DataW.trod_int (t:=3) (k:=.i64) Try.underlying3 f1;obtain ⟨i2,e2,_,_⟩:=DataW.trod_int (t:=3) (k:=.i64) Try.underlying3 f2;obtain ⟨a,⟨A1,c1,e3,l1,g1⟩,s1,o1⟩:=op_slice (d:=k63) (t:=25) (e:=63) Try.underlying25 c63 op63 _ _ _ f3;obtain ⟨b,⟨A2,c2,e4,l2,g2⟩,s2,o2⟩:=op_slice (d:=k63) (t:=25) (e:=63) Try.underlying25 c63 op63 _ _ _ f4;change (cs.drop 0).take (Try.prog.cellsOf 3)=_ at e0;change (cs.drop 1).take (Try.prog.cellsOf 3)=_ at e1;change (cs.drop 2).take (Try.prog.cellsOf 3)=_ at e2;change (cs.drop 3).take (Try.prog.cellsOf 25)=_ at e3;change (cs.drop 4).take (Try.prog.cellsOf 25)=_ at e4;rw [c3] at e0 e1 e2;rw [c25] at e3 e4;have ec:=drop_take5 (hl.trans c27) e0 e1 e2 e3 e4;refine ⟨⟨i0,i1,i2,a,b⟩,by rw [ec];exact k27_mk w ⟨i0,i1,i2,a,b⟩ l1 g1 l2 g2,?_,o1,o2,?_⟩
  ·have h0:=U.one_le y0.1
   dsimp only at s1 s2
   show (a.map wtR).sum+(b.map wtR).sum+1≤Rows.uptoBulk (.agg [y0.1,y1.1,y2.1,y3.1,y4.1])
   simp only [Rows.uptoBulk,Rows.uptoBulkAll];omega
  ·have h2 : IntKind.i64.min≤i0∧i0≤IntKind.i64.max:=by simpa [Lit.wf] using w0
   have e1 : IntKind.i64.min = -9223372036854775808:=by decide
   have e2 : IntKind.i64.max=9223372036854775807:=by decide
   show -9223372036854775808≤i0∧i0≤9223372036854775807
   omega
theorem op22 : Op enc Try.prog w base spare held (Kd.slice 27 k27) 22 (fun xs=>(xs.map wtF).sum) (fun xs=>∀ F∈xs,okF F) :=
 op_slice (d:=k27) (t:=22) (e:=27) Try.underlying22 (by kernel_rfl) op27
end
theorem sum_mem {α : Type} {f : α→Nat} {l : List α} {a : α} (h : a∈l) : f a≤(l.map f).sum:=by
 induction l with
 | nil=>cases h
 | cons b l ih =>
  rw [List.map_cons,List.sum_cons]
  rcases List.mem_cons.mp h with rfl|h
  ·omega
  ·have:=ih h
   omega
theorem wf_okR {x : RatS} {n : Nat} (h : okR x) (hn : wtR x≤n) : Wf n x:=by
 unfold wtR at hn;exact ⟨⟨h.1,rfl,by omega⟩,⟨h.2,rfl,by omega⟩⟩
theorem wf_okF {F : S27} {n : Nat} (h : okF F) (hn : wtF F≤n) : WfF n F:=by
 unfold wtF at hn;exact ⟨fun x hx=>wf_okR (h.1 x hx) (by have:=sum_mem (f:=wtR) hx;omega),fun x hx=>wf_okR (h.2.1 x hx) (by have:=sum_mem (f:=wtR) hx;omega)⟩
theorem sz_okF {F : S27} (h : okF F) : (qF F).sz+1≤2 * wtF F+2:=by
 have hx : ∀ l : List RatS,(∀ x∈l,okR x)→szL (l.map qOf)≤2 * (l.map wtR).sum+1:=fun l hl=>szL_le fun q hq=>by
  obtain ⟨x,hx,rfl⟩:=List.mem_map.mp hq;have h1:=sum_mem (f:=wtR) hx;have h2:=sz1_le (wf_okR (hl x hx) (Nat.le_refl _)).sz;omega
 have h3:=hx F.f3 h.1;have h4:=hx F.f4 h.2.1;unfold wtF
 show max (szL (F.f3.map qOf)) (szL (F.f4.map qOf))+1≤_
 omega
theorem tot_okF {Fs : List S27} (h : ∀ F∈Fs,okF F) : ((Fs.map qF).map (fun q=>q.sz+1)).sum≤4 * (Fs.map wtF).sum:=by
 induction Fs with
 | nil=>exact Nat.zero_le _
 | cons F l ih =>
  have h1:=ih (fun G hG=>h G (by simp [hG]));have h2:=sz_okF (h F (by simp))
  have h3 : 1≤wtF F:=by unfold wtF;omega
  simp only [List.map_cons,List.sum_cons];omega
end Go.Proofs.Ytjiaobcoeegioaa.N
end
section
namespace Go.Proofs.Ytjiaobcoeegioaa.Pq
open Go.RowKit Go.Proofs.YtjiaobcoeegioaaW.PrintWords Go.Proofs.YtjiaobcoeegioaaW.PrintLast Go.Proofs.YtjiaobcoeegioaaW.PrintMore Go.Proofs.Ytjiaobcoeegioaa.N
section
variable {H : Type} {enc : TypeId × Value→H} {W : World} {base : Nat} {spare : Nat→Bool} {held : Bool} {a : Option Addr} {len cap : Nat} {d : DataW H} {ps : List MemPlace}
theorem open23 (hd : DataW.Trod enc Try.prog W base spare held 23 (.slice a len cap) d ps) : ∃ xs : List Int,len=xs.length∧len≤cap∧(Kd.int .i64).C W a xs.length xs:=by
 obtain ⟨fuel,hf⟩:=hd;obtain ⟨xs,⟨A,c,e,l,g⟩,_,_⟩:=op_slice (d:=Kd.int .i64) (t:=23) (e:=3) Try.underlying23 (by kernel_rfl) (op_int Try.underlying3) fuel _ _ hf;simp [Value.cells] at e;obtain ⟨rfl,rfl,rfl⟩:=e;exact ⟨xs,rfl,l,g⟩
theorem i64_wf {n : Int} (h : (Lit.int .i64 n).wf=true) : -9223372036854775808≤n∧n≤9223372036854775807:=by
 have h2 : IntKind.i64.min≤n∧n≤IntKind.i64.max:=by simpa [Lit.wf] using h
 have e1 : IntKind.i64.min = -9223372036854775808:=by decide
 have e2 : IntKind.i64.max=9223372036854775807:=by decide
 omega
end
end Go.Proofs.Ytjiaobcoeegioaa.Pq
end
section
namespace Go.Proofs.Ytjiaobcoeegioaa.Pq
open Go.RowKit Go.Proofs.YtjiaobcoeegioaaW.PrintWords Go.Proofs.YtjiaobcoeegioaaW.PrintLast Go.Proofs.YtjiaobcoeegioaaW.PrintMore Go.Proofs.Ytjiaobcoeegioaa.N
theorem wtR_sum (l : List S63) : l.length≤(l.map wtR).sum:=by
 induction l with
 | nil=>exact Nat.zero_le _
 | cons a l ih =>
  rw [List.length_cons,List.map_cons,List.sum_cons]
  have : 1≤wtR a:=by unfold wtR;omega
  omega
end Go.Proofs.Ytjiaobcoeegioaa.Pq
end
section
namespace Go.Proofs.Ytjiaobcoeegioaa.Pq
open Go.RowKit Go.Proofs.YtjiaobcoeegioaaW.PrintWords Go.Proofs.YtjiaobcoeegioaaW.PrintLast Go.Proofs.YtjiaobcoeegioaaW.PrintMore Go.Proofs.Ytjiaobcoeegioaa.N
def Lens2 (Fs : List S27) : Prop:=Lens Fs∧tot (Fs.map qF) < 8900000
theorem open22M {H : Type} {enc : TypeId × Value→H} {W : World} {base : Nat} {spare : Nat→Bool} {held : Bool} {a : Option Addr} {len cap : Nat} {d : DataW H} {ps : List MemPlace} (hb : Rows.uptoBulk d≤1048576) (hd : DataW.Trod enc Try.prog W base spare held 22 (.slice a len cap) d ps) : ∃ Fs : List S27,len=Fs.length∧len≤cap∧Kd.C k27 W a Fs.length Fs∧Parts Fs 1048576∧Lens2 Fs:=by
 obtain ⟨fuel,hf⟩:=hd;obtain ⟨Fs,⟨A,c,e,l,g⟩,hw,ho⟩:=op22 fuel _ _ hf;simp [Value.cells] at e;obtain ⟨rfl,rfl,rfl⟩:=e;dsimp only at hw;have hs : (Fs.map wtF).sum≤1048576:=Nat.le_trans hw hb;have h1:=tot_okF ho;refine ⟨Fs,rfl,l,g,⟨by decide,fun F hF=>wf_okF (ho F hF) (Nat.le_trans (sum_mem (f:=wtF) hF) hs),by unfold tot;omega⟩,fun F hF=>?_,by unfold tot;omega⟩;have h1:=sum_mem (f:=wtF) hF;have h2:=wtR_sum F.f3;have h3:=wtR_sum F.f4;unfold wtF at h1 hs;exact ⟨by omega,by omega⟩
theorem rplay_ans {n0 : Nat} {Fs : List S27} (H : Parts Fs n0) (HL : Lens2 Fs) (k : Int) {A0 : Option Addr} {c0 : Nat} {w : World} (hr : Kd.C k27 w A0 Fs.length Fs) {picks : List Int} {Ap : Option Addr} {cp : Nat} (hp : (Kd.int .i64).C w Ap picks.length picks) {F : S27} {D : List Int} {N : Int} {ok : Bool} (eF : resF Fs k=F) (eD : resD Fs k picks=D) (eN : resN Fs k=N) (eo : mayB Fs k=ok) :
  Calls Try.prog 10 #[.slice A0 Fs.length c0,.int .i64 k,.slice Ap picks.length cp] w fun e w'=>Ans F D N ok w e w' :=
 (rplay_sem H HL.1 HL.2 k A0 c0 w hr picks Ap cp hp).mono fun e w' h=>ans_of eF eD eN eo h
theorem intsD {D : List Int} (hl : D.length≤4096) {A B : Option Addr} {c d : Nat} (l1 : D.length≤c) (l2 : D.length≤d) {w : World} (h1 : (Kd.int .i64).C w A D.length D) (h2 : (Kd.int .i64).C w B D.length D) :
  Calls Try.prog 12 #[.slice A D.length c,.slice B D.length d] w fun e w'=>e=.returned (.bool true)∧Below w.heap.size w w':=by
 obtain ⟨k,hk⟩:=(ints15 (xs:=D) (by omega)).rounds;refine (penumbraref15_Ints.calls k A c D B d D true w h1 l1 h2 l2 hk).mono ?_;rintro e w' ⟨rfl,⟨nd,rfl⟩⟩;exact ⟨rfl,pw_below_drewN (Below.refl _ _) _⟩
set_option maxHeartbeats 4000000 in
set_option maxRecDepth 100000 in
theorem plays_walk {n0 : Nat} {Fs : List S27} (H : Parts Fs n0) (HL : Lens2 Fs) (k : Int) (hk0 : -9223372036854775808≤k∧k≤9223372036854775807) (A0 : Option Addr) (c0 : Nat) (w : World) (hr : Kd.C k27 w A0 Fs.length Fs) (picks : List Int) (Ap : Option Addr) (cp : Nat) (hp : (Kd.int .i64).C w Ap picks.length picks) :
  Calls Try.prog 3 #[.slice A0 Fs.length c0,.int .i64 k,.slice Ap picks.length cp] w fun e w'=>e=.returned (.bool true)∧Below w.heap.size w w':=by
 have hsm:=resF_small H k;obtain ⟨hl1,_⟩:=resD_near Fs k picks;obtain ⟨F1,f1⟩ : ∃ z,resF Fs k=z:=⟨_,rfl⟩;obtain ⟨D1,d1⟩ : ∃ z,resD Fs k picks=z:=⟨_,rfl⟩;obtain ⟨N1,n1⟩ : ∃ z,resN Fs k=z:=⟨_,rfl⟩;obtain ⟨o1,m1⟩ : ∃ z,mayB Fs k=z:=⟨_,rfl⟩;rw [f1] at hsm;rw [d1] at hl1;have HP:=Aside0.mk (And.intro H (And.intro HL (And.intro hr hp)));have HR1:=Aside0.mk (And.intro f1 (And.intro d1 (And.intro n1 m1)));have HS:=Aside0.mk (And.intro hsm hl1)
 have hmax : Fs.length≤9223372036854775807:=by have:=Kd.C_max hr;simpa using this
 clear H HL hr hp f1 d1 n1 m1 hsm hl1
 go_enter Try.func3,Try.ntmps3
 rcases Nat.lt_or_ge 60 Fs.length with h1|h1
 ·have cz : decide (60 < (Fs.length : Int))=true:=decide_eq_true (by omega)
  go_wp2_with (first
   | (go_at_call 8;(with_reducible refine (fixed_true _).mono ?_);rintro e w3 ⟨rfl,hb⟩;have HB:=Aside0.mk hb;clear hb))
  go_ret
  exact ⟨rfl,HB.out⟩
 have cz : decide (60 < (Fs.length : Int))=false:=decide_eq_false (by omega);clear h1
 go_upto_region 4 with (first
  | (go_at_call 9;(with_reducible refine (play_ans HP.out.1 k hk0 HP.out.2.2.1 HP.out.2.2.2 HR1.out.1 HR1.out.2.1 HR1.out.2.2.1 HR1.out.2.2.2).mono ?_);rintro e w1 ⟨A3,c3,A4,c4,Ad,cd,rfl,la,lb,g3,g4,ld,gd,hb⟩;have HF1:=Aside0.mk (And.intro la (And.intro lb (And.intro g3 (And.intro g4 (And.intro ld gd)))));have HB:=Aside0.mk hb;clear la lb g3 g4 ld gd hb))
 have hb:=below_alloc (Below.refl w1.heap.size w1) (.cells #[.int .i64 F1.f0,.int .i64 F1.f1,.int .i64 F1.f2,.slice A3 F1.f3.length c3,.slice A4 F1.f4.length c4] 27);replace HF1:=Aside0.mk (And.intro HF1.out.1 (And.intro HF1.out.2.1 (And.intro (Kd.C_below HF1.out.2.2.1 hb) (And.intro (Kd.C_below HF1.out.2.2.2.1 hb) (And.intro HF1.out.2.2.2.2.1 (Kd.C_below HF1.out.2.2.2.2.2 hb))))));replace HB:=Aside0.mk (below_step HB.out hb);have BF1:=Aside0.mk (blk_new w1 (.cells #[.int .i64 F1.f0,.int .i64 F1.f1,.int .i64 F1.f2,.slice A3 F1.f3.length c3,.slice A4 F1.f4.length c4] 27));obtain ⟨wa,hwa⟩ : ∃ z,w1.alloc (.cells #[.int .i64 F1.f0,.int .i64 F1.f1,.int .i64 F1.f2,.slice A3 F1.f3.length c3,.slice A4 F1.f4.length c4] 27)=z:=⟨_,rfl⟩;obtain ⟨G1,hG⟩ : ∃ z,w1.heap.size=z:=⟨_,rfl⟩;rw [hwa] at HF1 HB BF1 ⊢;rw [hG] at BF1 ⊢;clear hwa hG hb
 go_upto_region 5 with (first
  | (go_at_call 10;(with_reducible refine (rplay_ans HP.out.1 HP.out.2.1 k (Kd.C_below HP.out.2.2.1 HB.out) (Kd.C_below HP.out.2.2.2 HB.out) HR1.out.1 HR1.out.2.1 HR1.out.2.2.1 HR1.out.2.2.2).mono ?_);rintro e w2 ⟨B3,e3,B4,e4,Bd,ed,rfl,la,lb,g3,g4,ld,gd,hb⟩;have HF2:=Aside0.mk (And.intro la (And.intro lb (And.intro g3 (And.intro g4 (And.intro ld gd)))));replace HF1:=Aside0.mk (And.intro HF1.out.1 (And.intro HF1.out.2.1 (And.intro (Kd.C_below HF1.out.2.2.1 hb) (And.intro (Kd.C_below HF1.out.2.2.2.1 hb) (And.intro HF1.out.2.2.2.2.1 (Kd.C_below HF1.out.2.2.2.2.2 hb))))));replace BF1:=Aside0.mk (blk_below BF1.out hb);replace HB:=Aside0.mk (below_step HB.out hb);clear la lb g3 g4 ld gd hb))
 have hb:=below_alloc (Below.refl w2.heap.size w2) (.cells #[.int .i64 F1.f0,.int .i64 F1.f1,.int .i64 F1.f2,.slice B3 F1.f3.length e3,.slice B4 F1.f4.length e4] 27);replace HF1:=Aside0.mk (And.intro HF1.out.1 (And.intro HF1.out.2.1 (And.intro (Kd.C_below HF1.out.2.2.1 hb) (And.intro (Kd.C_below HF1.out.2.2.2.1 hb) (And.intro HF1.out.2.2.2.2.1 (Kd.C_below HF1.out.2.2.2.2.2 hb))))));replace HF2:=Aside0.mk (And.intro HF2.out.1 (And.intro HF2.out.2.1 (And.intro (Kd.C_below HF2.out.2.2.1 hb) (And.intro (Kd.C_below HF2.out.2.2.2.1 hb) (And.intro HF2.out.2.2.2.2.1 (Kd.C_below HF2.out.2.2.2.2.2 hb))))));replace BF1:=Aside0.mk (blk_below BF1.out hb);replace HB:=Aside0.mk (below_step HB.out hb);have BF2:=Aside0.mk (blk_new w2 (.cells #[.int .i64 F1.f0,.int .i64 F1.f1,.int .i64 F1.f2,.slice B3 F1.f3.length e3,.slice B4 F1.f4.length e4] 27));obtain ⟨wd,hwd⟩ : ∃ z,w2.alloc (.cells #[.int .i64 F1.f0,.int .i64 F1.f1,.int .i64 F1.f2,.slice B3 F1.f3.length e3,.slice B4 F1.f4.length e4] 27)=z:=⟨_,rfl⟩;obtain ⟨G2,hG⟩ : ∃ z,w2.heap.size=z:=⟨_,rfl⟩;rw [hwd] at HF1 HF2 BF1 HB BF2 ⊢;rw [hG] at BF2 ⊢;clear hwd hG hb
 go_wp2_with (first
  | (go_at_call 8;(with_reducible refine (fixed_true _).mono ?_);rintro e w3 ⟨rfl,hb⟩;replace HF1:=Aside0.mk (And.intro HF1.out.1 (And.intro HF1.out.2.1 (And.intro (Kd.C_below HF1.out.2.2.1 hb) (And.intro (Kd.C_below HF1.out.2.2.2.1 hb) (And.intro HF1.out.2.2.2.2.1 (Kd.C_below HF1.out.2.2.2.2.2 hb))))));replace HF2:=Aside0.mk (And.intro HF2.out.1 (And.intro HF2.out.2.1 (And.intro (Kd.C_below HF2.out.2.2.1 hb) (And.intro (Kd.C_below HF2.out.2.2.2.1 hb) (And.intro HF2.out.2.2.2.2.1 (Kd.C_below HF2.out.2.2.2.2.2 hb))))));have q1:=cells5 (blk_below BF1.out hb);have q2:=cells5 (blk_below BF2.out hb);replace HB:=Aside0.mk (below_step HB.out hb);clear hb)
  | (go_at_call 11;(with_reducible refine (isF HS.out.1 HF1.out.1 HF1.out.2.1 HF2.out.1 HF2.out.2.1 HF1.out.2.2.1 HF1.out.2.2.2.1 HF2.out.2.2.1 HF2.out.2.2.2.1).mono ?_);rintro e w4 ⟨rfl,hb⟩;have HD:=Aside0.mk (And.intro (Kd.C_below HF1.out.2.2.2.2.2 hb) (Kd.C_below HF2.out.2.2.2.2.2 hb));replace HB:=Aside0.mk (below_step HB.out hb);clear hb)
  | (go_at_call 12;(with_reducible refine (intsD HS.out.2 HF1.out.2.2.2.2.1 HF2.out.2.2.2.2.1 HD.out.1 HD.out.2).mono ?_);rintro e w5 ⟨rfl,hb⟩;replace HB:=Aside0.mk (below_step HB.out hb);clear hb))
 go_ret
 exact ⟨by simp,HB.out⟩
end Go.Proofs.Ytjiaobcoeegioaa.Pq
end
