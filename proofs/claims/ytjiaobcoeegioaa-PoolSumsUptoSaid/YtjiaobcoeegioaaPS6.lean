import Derived.Test.YtjiaobcoeegioaaPS5
set_option linter.unusedVariables false
set_option linter.unusedSimpArgs false
section
namespace Go.Proofs.Ytjiaobcoeegioaa.Pq
open Go.RowKit Go.Proofs.YtjiaobcoeegioaaW.PrintWords Go.Proofs.YtjiaobcoeegioaaW.PrintLast Go.Proofs.YtjiaobcoeegioaaW.PrintMore Go.Proofs.Ytjiaobcoeegioaa.N
set_option linter.unusedVariables false
set_option linter.unusedSimpArgs false
namespace X
def ref20_Sum.T3 : Bool × List (List Nat × List Nat):=(true,[([],[]),([0],[0]),([1],[1]),([2],[2]),([],[]),([4],[4]),([5],[5]),([6],[6]),([],[]),([8],[8]),([9],[9]),([10],[10]),([3,7,11],[3,7,11]),([12],[12]),([13],[13]),([13],[13]),([],[]),([16,14,12,0,1,2,3,4,5,6,7,8,9,10,11,12,13,14,16],[14,16]),([15,17,0,1,2,3,4,5,6,7,8,9,10,11,12,13,14,15,16,17],[15])])
def ref20_Sum.B3 : List Nat:=[0,1,3,7,0,16,48,112,0,256,768,1792,4095,8191,16383,16383,0,98303,262143]
theorem ref20_Sum.tab3 : rtab .any (opsOf Try.f25 3)=ref20_Sum.T3:=by kernel_rfl
theorem ref20_Sum.bits3 : waitsOk ref20_Sum.T3.2 ref20_Sum.B3=true:=by kernel_rfl
def ref20_Sum.T7 : Bool × List (List Nat × List Nat):=(true,[([],[]),([],[]),([0,1],[0,1]),([2],[2]),([3],[3]),([4],[4]),([5,4],[5]),([6],[6]),([6],[6]),([7,8,6],[6,7,8]),([9,6],[6,9]),([10,6],[6,10]),([6],[6]),([12,6],[6,12]),([11,13,6],[6,11,13]),([6,14],[6,14]),([15,6],[15]),([16],[16]),([16],[16]),([17,18,16],[16,17,18]),([19,16],[16,19]),([20,16],[16,20]),([16],[16]),([22,16],[16,22]),([21,23,16],[16,21,23]),([16,24],[16,24]),([25,16],[25]),([26],[26]),([26],[26]),([27,28,26],[26,27,28]),([29,26],[26,29]),([30,26],[26,30]),([26],[26]),([32,26],[26,32]),([31,33,26],[26,31,33]),([26,34],[26,34])])
def ref20_Sum.B7 : List Nat:=[0,0,3,7,15,31,63,127,127,511,1023,2047,127,4223,16383,32767,65535,131071,131071,524287,1048575,2097151,131071,4325375,16777215,33554431,67108863,134217727,134217727,536870911,1073741823,2147483647,134217727,4429185023,17179869183,34359738367]
theorem ref20_Sum.tab7 : rtab .any (opsOf Try.f25 7)=ref20_Sum.T7:=by kernel_rfl
theorem ref20_Sum.bits7 : waitsOk ref20_Sum.T7.2 ref20_Sum.B7=true:=by kernel_rfl
def ref20_Sum.T12 : Bool × List (List Nat × List Nat):=(true,[([],[]),([0],[0]),([],[]),([],[]),([3],[3]),([],[]),([4,5],[4,5]),([6],[6]),([],[]),([],[]),([8,9],[8,9]),([10],[10]),([11],[11]),([],[]),([12,13],[12,13]),([14],[14]),([7,15],[7,15]),([1,2,0,1,2,3,4,5,6,7,8,9,10,11,12,13,14,15,16],[1,2]),([17,16,16,0,1,2,3,4,5,6,7,8,9,10,11,12,13,14,15,16],[16,17])])
def ref20_Sum.B12 : List Nat:=[0,1,0,0,8,0,56,120,0,0,768,1792,3840,0,16128,32512,65528,131071,262143]
theorem ref20_Sum.tab12 : rtab .any (opsOf Try.f25 12)=ref20_Sum.T12:=by kernel_rfl
theorem ref20_Sum.bits12 : waitsOk ref20_Sum.T12.2 ref20_Sum.B12=true:=by kernel_rfl
def ref20_Sum.T13 : Bool × List (List Nat × List Nat):=(true,[([],[]),([0],[0]),([],[]),([],[]),([3],[3]),([],[]),([4,5],[4,5]),([6],[6]),([],[]),([],[]),([8,9],[8,9]),([10],[10]),([11],[11]),([],[]),([12,13],[12,13]),([14],[14]),([7,15],[7,15]),([1,2,0,1,2,3,4,5,6,7,8,9,10,11,12,13,14,15,16],[1,2]),([17,16,16,0,1,2,3,4,5,6,7,8,9,10,11,12,13,14,15,16],[16,17])])
def ref20_Sum.B13 : List Nat:=[0,1,0,0,8,0,56,120,0,0,768,1792,3840,0,16128,32512,65528,131071,262143]
theorem ref20_Sum.tab13 : rtab .any (opsOf Try.f25 13)=ref20_Sum.T13:=by kernel_rfl
theorem ref20_Sum.bits13 : waitsOk ref20_Sum.T13.2 ref20_Sum.B13=true:=by kernel_rfl
end X
open X
theorem cell_set5 {W : World} {p : Addr} {g : Nat} {v x y z u t : Value} (h : W.cell? p=some v) (hne : p.block≠g) : (((((W.setCell ⟨g,0,none⟩ x).setCell ⟨g,1,none⟩ y).setCell ⟨g,2,none⟩ z).setCell ⟨g,3,none⟩ u).setCell ⟨g,4,none⟩ t).cell? p=some v:=cell_set (cell_set (cell_set (cell_set (cell_set h hne) hne) hne) hne) hne
def sumB (Fs : List S27) : Bool :=
 match Fs with
 | []=>false
 | H :: R=>(H :: R).all (good H)
theorem sumB_iff {Fs : List S27} (h0 : 0 < Fs.length) : sumB Fs=true ↔ ∀ i (h : i < Fs.length),good Fs[0] Fs[i]=true:=by
 cases Fs with
 | nil=>exact absurd h0 (Nat.lt_irrefl _)
 | cons H R =>
  unfold sumB
  simp only [List.all_eq_true,List.getElem_cons_zero]
  constructor
  ·intro h i hi
   exact h _ (List.getElem_mem _)
  ·intro h F hF
   obtain ⟨i,hi,rfl⟩:=List.mem_iff_getElem.mp hF
   exact h i hi
def NewF (H : S27) (M : Nat) (w : World) (base : Nat) (q : QF) (fW fh fb : Int) (aA : Option Addr) (nA kA : Nat) (aB : Option Addr) (nB kB : Nat) : Prop :=
 szs H.f0 H.f1 H.f2=true→fW=H.f0∧fh=H.f1∧fb=H.f2∧nA=M∧nB=M∧M≤kA∧M≤kB ∧ ∃ ad ad2,aA=some ad∧aB=some ad2∧Rows w base q ad kA ad2 kB
section
variable {H : S27} {M : Nat} {w w1 : World} {base base' : Nat} {q : QF} {fW fh fb : Int} {aA aB : Option Addr} {nA kA nB kB : Nat}
theorem NewF.imp (h : NewF H M w base q fW fh fb aA nA kA aB nB kB) (f : ∀ ad c ad2 c2,Rows w base q ad c ad2 c2→Rows w1 base' q ad c ad2 c2) : NewF H M w1 base' q fW fh fb aA nA kA aB nB kB:=fun hs=>by
 obtain ⟨e1,e2,e3,e4,e5,l1,l2,ad,ad2,e6,e7,hr⟩:=h hs
 exact ⟨e1,e2,e3,e4,e5,l1,l2,ad,ad2,e6,e7,f _ _ _ _ hr⟩
theorem NewF.below (h : NewF H M w base q fW fh fb aA nA kA aB nB kB) (hb : Below w.heap.size w w1) : NewF H M w1 base q fW fh fb aA nA kA aB nB kB:=h.imp fun _ _ _ _ hr=>hr.below hb
theorem NewF.lower (h : NewF H M w base q fW fh fb aA nA kA aB nB kB) (hb : base'≤base) : NewF H M w base' q fW fh fb aA nA kA aB nB kB:=h.imp fun _ _ _ _ hr=>hr.lower hb
theorem NewF.tk (h : NewF H M w base q fW fh fb aA nA kA aB nB kB) (k : Tk [63,82] w w1) : NewF H M w1 base q fW fh fb aA nA kA aB nB kB:=h.imp fun _ _ _ _ hr=>hr.tk k
end
theorem new20_any {H : S27} {M : Nat} (hM : szs H.f0 H.f1 H.f2=true→(M : Int)=H.f0 * H.f1 * H.f2) (w : World) :
  Calls Try.prog 20 #[.int .i64 H.f0,.int .i64 H.f1,.int .i64 H.f2] w fun e w'=>∃ fW fh fb aA nA kA aB nB kB ok,e=.returned (.tuple #[.agg #[.int .i64 fW,.int .i64 fh,.int .i64 fb,.slice aA nA kA,.slice aB nB kB],.bool ok])∧NewF H M w' w.heap.size (zeroQ M) fW fh fb aA nA kA aB nB kB∧Below w.heap.size w w':=by
 cases hs : szs H.f0 H.f1 H.f2
 ·refine (new20_none hs w).mono ?_
  rintro e w' ⟨A,n,c,B,m,d,rfl,hb⟩
  exact ⟨0,0,0,A,n,c,B,m,d,false,rfl,fun h=>absurd (hs.symm.trans h) (by decide),hb⟩
 ·refine (new20_sem hs (hM hs) w).mono ?_
  rintro e w' ⟨ad,c,ad2,c2,rfl,l1,l2,hr,hb⟩
  exact ⟨_,_,_,_,_,_,_,_,_,true,rfl,fun _=>⟨rfl,rfl,rfl,rfl,rfl,l1,l2,ad,ad2,rfl,rfl,hr⟩,hb⟩
theorem at_film1 {Fs : List S27} {w : World} {A : Option Addr} {n : Nat} (hr : Kd.C k27 w A n Fs) {j : Nat} (hj : j < Fs.length) (hn : n=Fs.length) :
  ∃ ad A3 c3 A4 c4,A=some ad∧w.cell? (ad.add (j * 5))=some (.int .i64 Fs[j].f0)∧w.cell? ⟨(ad.add (j * 5)).block,(ad.add (j * 5)).off+1,none⟩=some (.int .i64 Fs[j].f1)∧w.cell? ⟨(ad.add (j * 5)).block,(ad.add (j * 5)).off+2,none⟩=some (.int .i64 Fs[j].f2) ∧
   w.cell? ⟨(ad.add (j * 5)).block,(ad.add (j * 5)).off+3,none⟩=some (.slice A3 Fs[j].f3.length c3)∧w.cell? ⟨(ad.add (j * 5)).block,(ad.add (j * 5)).off+4,none⟩=some (.slice A4 Fs[j].f4.length c4)∧Kd.C k63 w A3 Fs[j].f3.length Fs[j].f3∧Kd.C k63 w A4 Fs[j].f4.length Fs[j].f4∧Fs[j].f3.length≤c3∧Fs[j].f4.length≤c4:=by
 obtain ⟨ad,A3,c3,A4,c4,e,p0,p1,p2,p3,p4,l3,g3,l4,g4⟩:=at_T27 hr (j : Int) (by omega) (by omega)
 rw [Int.toNat_natCast] at p0 p1 p2 p3 p4
 have hx : rd_T27 Fs (j : Int)=Fs[j]:=by
  unfold rd_T27
  rw [Int.toNat_natCast,List.getD_eq_getElem?_getD,List.getElem?_eq_getElem hj]
  rfl
 rw [hx] at p0 p1 p2 p3 p4 g3 g4 l3 l4
 exact ⟨ad,A3,c3,A4,c4,e,p0,p1,p2,p3,p4,g3,g4,l3,l4⟩
def foldQ (M : Nat) (Fs : List S27) (j : Nat) : QF:=((Fs.map qF).take j).foldl QF.add (zeroQ M)
theorem foldQ_succ {M : Nat} {Fs : List S27} {j : Nat} (hj : j < Fs.length) : foldQ M Fs (j+1)=(foldQ M Fs j).add (qF Fs[j]):=by
 unfold foldQ
 rw [List.take_succ_eq_append_getElem (by rw [List.length_map];exact hj),List.foldl_append,List.getElem_map]
 rfl
def NoSum (e : Ending) : Prop:=e=.returned (.tuple #[.agg #[.int .i64 0,.int .i64 0,.int .i64 0,.slice none 0 0,.slice none 0 0],.bool false])
set_option maxHeartbeats 8000000 in
set_option maxRecDepth 100000 in
theorem sum20_sem {n0 : Nat} {Fs : List S27} (H0 : Parts Fs n0) (HL : ∀ F∈Fs,F.f3.length < 4611686018427387904∧F.f4.length < 4611686018427387904) (A0 : Option Addr) (c0 : Nat) (w : World) (hr : Kd.C k27 w A0 Fs.length Fs) :
  Calls Try.prog 25 #[.slice A0 Fs.length c0] w fun e w'=>Below w.heap.size w w'∧((sumB Fs=false∧NoSum e)∨(sumB Fs=true ∧ ∃ (W h b : Int) (M : Nat),szs W h b=true∧(M : Int)=W * h * b∧(∀ F∈Fs,F.f0=W∧F.f1=h∧F.f2=b) ∧ ∃ ad c ad2 c2,e=.returned (.tuple #[.agg #[.int .i64 W,.int .i64 h,.int .i64 b,.slice (some ad) M c,.slice (some ad2) M c2],.bool true])∧M≤c∧M≤c2∧Rows w' w.heap.size (sumQ (Fs.map qF)) ad c ad2 c2)):=by
 have HR:=Aside0.mk hr
 have HW0:=Aside0.mk (And.intro H0.wf HL)
 have HPN:=Aside0.mk H0.n
 have HT:=Aside0.mk H0.tot
 have hmax : Fs.length≤9223372036854775807:=by have:=Kd.C_max hr;simpa using this
 clear hr H0 HL
 go_enter Try.func25,Try.ntmps25
 rcases Nat.eq_zero_or_pos Fs.length with h0|h0
 ·have cz : ((Fs.length : Int) == 0)=true:=beq_iff_eq.mpr (by omega)
  have HZ : Aside0 (sumB Fs=false):=⟨by rw [List.length_eq_zero_iff.mp h0];rfl⟩
  clear h0
  go_wp2
  obtain ⟨w1,hw1⟩ : ∃ z,w.alloc (.cells #[.int .i64 0,.int .i64 0,.int .i64 0,.slice none 0 0,.slice none 0 0] 27)=z:=⟨_,rfl⟩
  rw [hw1]
  have b0:=blk_new w (.cells #[.int .i64 0,.int .i64 0,.int .i64 0,.slice none 0 0,.slice none 0 0] 27)
  have b1:=below_alloc (Below.refl w.heap.size w) (.cells #[.int .i64 0,.int .i64 0,.int .i64 0,.slice none 0 0,.slice none 0 0] 27)
  rw [hw1] at b0 b1
  clear hw1
  refine bodyPost_ret (results_ct rfl _ _ w.heap.size 27 _ (0,0) _ rfl b0 Try.underlying27 rfl (by kernel_rfl)) rfl ?_
  exact ⟨b1,.inl ⟨HZ.out,rfl⟩⟩
 have cz : ((Fs.length : Int) == 0)=false:=beq_eq_false_iff_ne.mpr (by omega)
 obtain ⟨pa,_,_,_,_,e1,z0,z1,z2,_,_,_,_⟩:=at_film0 HR.out h0 rfl
 subst e1
 rw [ad_zero] at z0 z1 z2
 have HH0:=Aside0.mk h0
 obtain ⟨H,eH⟩ : ∃ z,Fs[0]=z:=⟨_,rfl⟩
 rw [eH] at z0 z1 z2
 have HEH : Aside0 (Fs[0]'HH0.out=H):=⟨eH⟩
 clear eH
 go_upto_region 3 with fail
 clear cz
 have hba:=below_alloc (Below.refl w.heap.size w) (.cells #[.int .i64 0,.int .i64 0,.int .i64 0,.slice none 0 0,.slice none 0 0] 27)
 have B2:=Aside0.mk (blk_new w (.cells #[.int .i64 0,.int .i64 0,.int .i64 0,.slice none 0 0,.slice none 0 0] 27))
 have HZ3:=Aside0.mk (And.intro (keepc hba z0) (And.intro (keepc hba z1) (keepc hba z2)))
 have HBA:=Aside0.mk hba
 obtain ⟨M,hM⟩ : ∃ M : Nat,szs H.f0 H.f1 H.f2=true→(M : Int)=H.f0 * H.f1 * H.f2:=⟨(H.f0 * H.f1 * H.f2).toNat,fun hs=>by have:=szs_pos hs;omega⟩
 have HM:=Aside0.mk hM
 obtain ⟨wr,hwr⟩ : ∃ z,w.alloc (.cells #[.int .i64 0,.int .i64 0,.int .i64 0,.slice none 0 0,.slice none 0 0] 27)=z:=⟨_,rfl⟩
 rw [hwr] at B2 HZ3 HBA ⊢
 clear hwr hba z0 z1 z2 hM
 have HW : Aside0 (Below wr.heap.size wr wr.drew):=⟨below_drew1 (Below.refl _ _)⟩
 refine start_ (n:=19) (S:=fun w'=>w'.cell? pa=some (.int .i64 H.f0)∧w'.cell? ⟨pa.block,pa.off+1,none⟩=some (.int .i64 H.f1)∧w'.cell? ⟨pa.block,pa.off+2,none⟩=some (.int .i64 H.f2)) (ds:=[]) #[false,false,false,false,false,false,false,false,false,false,false,false,false,false,false,false,false,false,false] (by kernel_rfl) rfl rfl HZ3.out (fun hHeld=>?_)
 refine with_tabW ref20_Sum.tab3 ref20_Sum.bits3 (fun HT_ HW_=>?_)
 refine pz 0 (some 13) rfl rfl ?_
 refine pz 1 (some 14) rfl rfl ?_
 refine pz 2 (some 15) rfl rfl ?_
 refine pz 4 (some 17) rfl rfl ?_
 refine pz 5 (some 18) rfl rfl ?_
 refine pz 6 (some 19) rfl rfl ?_
 refine pz 8 (some 21) rfl rfl ?_
 refine pz 9 (some 22) rfl rfl ?_
 refine pz 10 (some 23) rfl rfl ?_
 refine tz 3 (some 16) rfl rfl hHeld ?_
 refine tz 7 (some 20) rfl rfl hHeld ?_
 refine tz 11 (some 24) rfl rfl hHeld ?_
 refine join_ (σ:=Int × Int × Int × Option Addr × Nat × Nat × Option Addr × Nat × Nat × Bool × Nat) 2 #[true,true,true,true,true,true,true,true,true,true,true,true,true,true,true,true,true,false,false] (fun s_=>[(25,.tuple #[.agg #[.int .i64 s_.1,.int .i64 s_.2.1,.int .i64 s_.2.2.1,.slice s_.2.2.2.1 s_.2.2.2.2.1 s_.2.2.2.2.2.1,.slice s_.2.2.2.2.2.2.1 s_.2.2.2.2.2.2.2.1 s_.2.2.2.2.2.2.2.2.1],.bool s_.2.2.2.2.2.2.2.2.2.1]),(12,.tuple #[.agg #[.int .i64 s_.1,.int .i64 s_.2.1,.int .i64 s_.2.2.1,.slice s_.2.2.2.1 s_.2.2.2.2.1 s_.2.2.2.2.2.1,.slice s_.2.2.2.2.2.2.1 s_.2.2.2.2.2.2.2.1 s_.2.2.2.2.2.2.2.2.1],.bool s_.2.2.2.2.2.2.2.2.2.1]),(26,.agg #[.int .i64 s_.1,.int .i64 s_.2.1,.int .i64 s_.2.2.1,.slice s_.2.2.2.1 s_.2.2.2.2.1 s_.2.2.2.2.2.1,.slice s_.2.2.2.2.2.2.1 s_.2.2.2.2.2.2.2.1 s_.2.2.2.2.2.2.2.2.1]),(27,.bool s_.2.2.2.2.2.2.2.2.2.1),(4,.pointer (some ⟨s_.2.2.2.2.2.2.2.2.2.2,0,none⟩))]) (fun s_ w'=>(w'.cell? pa=some (.int .i64 H.f0)∧w'.cell? ⟨pa.block,pa.off+1,none⟩=some (.int .i64 H.f1)∧w'.cell? ⟨pa.block,pa.off+2,none⟩=some (.int .i64 H.f2))∧Below wr.heap.size wr w'∧NewF H M w' wr.heap.size (zeroQ M) s_.1 s_.2.1 s_.2.2.1 s_.2.2.2.1 s_.2.2.2.2.1 s_.2.2.2.2.2.1 s_.2.2.2.2.2.2.1 s_.2.2.2.2.2.2.2.1 s_.2.2.2.2.2.2.2.2.1∧w'.heap[s_.2.2.2.2.2.2.2.2.2.2]? = some (.cells #[.int .i64 0,.int .i64 0,.int .i64 0,.slice none 0 0,.slice none 0 0] 27 (0,0))∧wr.heap.size≤s_.2.2.2.2.2.2.2.2.2.2) ?_ ?_
 rotate_left
 ·intro hCont
  refine two_ (i:=12) (j:=16) (Ni:=some 25) (Nj:=some 4) #[true,true,true,true,true,true,true,true,true,true,true,true,true,false,false,false,false,false,false] #[true,true,true,true,true,true,true,true,true,true,true,true,false,false,false,false,true,false,false] rfl rfl rfl rfl (two_of HT_.out (by kernel_rfl)) (by decide) (by decide) (fun K hK=>?_) (fun K hK=>?_)
  ·skip
   try (obtain ⟨wc,hwc⟩ : ∃ z,wr.drew=z:=⟨_,rfl⟩;rw [hwc] at HW ⊢;clear hwc)
   refine goes_ Try.func20 (by kernel_rfl) rfl #[.int .i64 H.f0,.int .i64 H.f1,.int .i64 H.f2] (by rfl) rfl rfl (by simp only [List.map_toArray,List.map_cons,List.map_nil];rfl) ?_
   with_reducible refine (new20_any HM.out wc).mono ?_
   rintro e wc ⟨fW,fh,fb,aA,nA,kA,aB,nB,kB,ok,rfl,hnf,hb⟩
   refine ⟨_,rfl,?_⟩
   have H12:=Aside0.mk (hnf.lower HW.out.size)
   replace HW:=Aside0.mk (below_step HW.out hb)
   try replace H16:=Aside0.mk (And.intro (blk_below H16.out.1 hb) H16.out.2)
   clear hnf hb
   refine hK.out _ _ (kE HW.out HZ3.out) (fun hHeld=>?_)
   clear hK K
   refine nZ ?_
   refine pz 13 (some 12) rfl rfl ?_
   refine pz 14 (some 26) rfl rfl ?_
   refine pz 15 (some 27) rfl rfl ?_
   refine oN 16 (some 4) rfl rfl fun K hK=>?_
   try (obtain ⟨wc,hwc⟩ : ∃ z,wr.drew=z:=⟨_,rfl⟩;rw [hwc] at HW ⊢;clear hwc)
   refine value_ (w1:=?_) (v:=?_) (by rfl) rfl ?_ ?_
   rotate_left 2
   ·go_simp
    constructor
    ·rfl
    ·rfl
   obtain ⟨g4,hga⟩ : ∃ g,wc.heap.size=g:=⟨_,rfl⟩
   have H16 : Aside0 ((wc.alloc (.cells #[.int .i64 0,.int .i64 0,.int .i64 0,.slice none 0 0,.slice none 0 0] 27)).heap[g4]? = some (.cells #[.int .i64 0,.int .i64 0,.int .i64 0,.slice none 0 0,.slice none 0 0] 27 (0,0))∧wr.heap.size≤g4):=⟨by rw [← hga];exact ⟨blk_new _ _,HW.out.size⟩⟩
   rw [hga]
   clear hga
   have HA_ : Below wc.heap.size wc (wc.alloc (.cells #[.int .i64 0,.int .i64 0,.int .i64 0,.slice none 0 0,.slice none 0 0] 27)):=below_alloc (Below.refl _ _) _
   replace HW:=Aside0.mk (below_step HW.out HA_)
   try replace H12:=Aside0.mk (H12.out.below HA_)
   obtain ⟨wc,hwd⟩ : ∃ wd,wc.alloc (.cells #[.int .i64 0,.int .i64 0,.int .i64 0,.slice none 0 0,.slice none 0 0] 27)=wd:=⟨_,rfl⟩
   rw [hwd] at HW H16 ⊢
   try rw [hwd] at H12
   clear HA_ hwd
   refine hK.out _ _ (kE HW.out HZ3.out) (fun hHeld=>?_)
   clear hK K
   refine nZ ?_
   exact norm_ (by simp only [putAll,Act.put,s0,s1,s2]) (hCont (fW,fh,fb,aA,nA,kA,aB,nB,kB,ok,g4) _ ⟨hHeld,HW.out,H12.out,H16.out⟩)
  ·skip
   try (obtain ⟨wc,hwc⟩ : ∃ z,wr.drew=z:=⟨_,rfl⟩;rw [hwc] at HW ⊢;clear hwc)
   refine value_ (w1:=?_) (v:=?_) (by rfl) rfl ?_ ?_
   rotate_left 2
   ·go_simp
    constructor
    ·rfl
    ·rfl
   obtain ⟨g4,hga⟩ : ∃ g,wc.heap.size=g:=⟨_,rfl⟩
   have H16 : Aside0 ((wc.alloc (.cells #[.int .i64 0,.int .i64 0,.int .i64 0,.slice none 0 0,.slice none 0 0] 27)).heap[g4]? = some (.cells #[.int .i64 0,.int .i64 0,.int .i64 0,.slice none 0 0,.slice none 0 0] 27 (0,0))∧wr.heap.size≤g4):=⟨by rw [← hga];exact ⟨blk_new _ _,HW.out.size⟩⟩
   rw [hga]
   clear hga
   have HA_ : Below wc.heap.size wc (wc.alloc (.cells #[.int .i64 0,.int .i64 0,.int .i64 0,.slice none 0 0,.slice none 0 0] 27)):=below_alloc (Below.refl _ _) _
   replace HW:=Aside0.mk (below_step HW.out HA_)
   try replace H12:=Aside0.mk (H12.out.below HA_)
   obtain ⟨wc,hwd⟩ : ∃ wd,wc.alloc (.cells #[.int .i64 0,.int .i64 0,.int .i64 0,.slice none 0 0,.slice none 0 0] 27)=wd:=⟨_,rfl⟩
   rw [hwd] at HW H16 ⊢
   try rw [hwd] at H12
   clear HA_ hwd
   refine hK.out _ _ (kE HW.out HZ3.out) (fun hHeld=>?_)
   clear hK K
   refine nZ ?_
   refine oN 12 (some 25) rfl rfl fun K hK=>?_
   try (obtain ⟨wc,hwc⟩ : ∃ z,wr.drew=z:=⟨_,rfl⟩;rw [hwc] at HW ⊢;clear hwc)
   refine goes_ Try.func20 (by kernel_rfl) rfl #[.int .i64 H.f0,.int .i64 H.f1,.int .i64 H.f2] (by rfl) rfl rfl (by simp only [List.map_toArray,List.map_cons,List.map_nil];rfl) ?_
   with_reducible refine (new20_any HM.out wc).mono ?_
   rintro e wc ⟨fW,fh,fb,aA,nA,kA,aB,nB,kB,ok,rfl,hnf,hb⟩
   refine ⟨_,rfl,?_⟩
   have H12:=Aside0.mk (hnf.lower HW.out.size)
   replace HW:=Aside0.mk (below_step HW.out hb)
   try replace H16:=Aside0.mk (And.intro (blk_below H16.out.1 hb) H16.out.2)
   clear hnf hb
   refine hK.out _ _ (kE HW.out HZ3.out) (fun hHeld=>?_)
   clear hK K
   refine nZ ?_
   refine pz 13 (some 12) rfl rfl ?_
   refine pz 14 (some 26) rfl rfl ?_
   refine pz 15 (some 27) rfl rfl ?_
   exact norm_ (by simp only [putAll,Act.put,s0,s1,s2]) (hCont (fW,fh,fb,aA,nA,kA,aB,nB,kB,ok,g4) _ ⟨hHeld,HW.out,H12.out,H16.out⟩)
 rintro ⟨fW,fh,fb,aA,nA,kA,aB,nB,kB,ok,g4⟩ wc ⟨hHeld,h1,h2,h3,h4⟩
 dsimp only at h1 h2 h3 h4
 replace HW:=Aside0.mk h1
 have H12:=Aside0.mk h2
 have H16:=Aside0.mk (And.intro h3 h4)
 clear h1 h2 h3 h4
 refine norm_ (a':=?_) ?_ ?_
 rotate_left
 ·simp only [putAll,Act.put,s0,s1,s2]
  rfl
 refine oN 17 (none) rfl rfl fun K hK=>?_
 have q0:=cells5 H16.out.1
 have q1:=free5 H16.out.1
 refine skip_ (w1:=?_) (by rfl) rfl ?_ ?_
 rotate_left
 ·go_simp
  rfl
 clear q0 q1
 have hneP : pa.block≠g4:=fun e=>by have h1:=World.block_lt_of_cell? _ _ HZ3.out.1;have h2:=H16.out.2;omega
 refine hK.out _ _ ⟨cell_set5 (keepc HW.out HZ3.out.1) hneP,cell_set5 (keepc HW.out HZ3.out.2.1) hneP,cell_set5 (keepc HW.out HZ3.out.2.2) hneP⟩ (fun hHeld=>?_)
 clear hK K
 refine pz 18 (some 5) rfl rfl ?_
 refine dN ?_
 have hne2 : w.heap.size≠g4:=fun e=>by have h1:=blk_lt B2.out;have h2:=H16.out.2;omega
 have k5 : Tk [3,63,82] wc (((((wc.setCell ⟨g4,0,none⟩ (.int .i64 fW)).setCell ⟨g4,1,none⟩ (.int .i64 fh)).setCell ⟨g4,2,none⟩ (.int .i64 fb)).setCell ⟨g4,3,none⟩ (.slice aA nA kA)).setCell ⟨g4,4,none⟩ (.slice aB nB kB)):=tk_set5 H16.out.1 (by decide) _ _ _ _ _ inferInstance
 have HB : Aside0 (Below w.heap.size w (((((wc.setCell ⟨g4,0,none⟩ (.int .i64 fW)).setCell ⟨g4,1,none⟩ (.int .i64 fh)).setCell ⟨g4,2,none⟩ (.int .i64 fb)).setCell ⟨g4,3,none⟩ (.slice aA nA kA)).setCell ⟨g4,4,none⟩ (.slice aB nB kB))∧(((((wc.setCell ⟨g4,0,none⟩ (.int .i64 fW)).setCell ⟨g4,1,none⟩ (.int .i64 fh)).setCell ⟨g4,2,none⟩ (.int .i64 fb)).setCell ⟨g4,3,none⟩ (.slice aA nA kA)).setCell ⟨g4,4,none⟩ (.slice aB nB kB)).heap[w.heap.size]? = some (.cells #[.int .i64 0,.int .i64 0,.int .i64 0,.slice none 0 0,.slice none 0 0] 27 (0,0))∧(((((wc.setCell ⟨g4,0,none⟩ (.int .i64 fW)).setCell ⟨g4,1,none⟩ (.int .i64 fh)).setCell ⟨g4,2,none⟩ (.int .i64 fb)).setCell ⟨g4,3,none⟩ (.slice aA nA kA)).setCell ⟨g4,4,none⟩ (.slice aB nB kB)).heap[g4]? = some (.cells #[.int .i64 fW,.int .i64 fh,.int .i64 fb,.slice aA nA kA,.slice aB nB kB] 27 (0,0))):=⟨low5 (g:=g4) (below_step HBA.out HW.out) (Nat.le_trans HBA.out.size H16.out.2) _ _ _ _ _,far5 (blk_below B2.out HW.out) hne2 _ _ _ _ _,put5 H16.out.1 _ _ _ _ _⟩
 have HN : Aside0 (NewF H M (((((wc.setCell ⟨g4,0,none⟩ (.int .i64 fW)).setCell ⟨g4,1,none⟩ (.int .i64 fh)).setCell ⟨g4,2,none⟩ (.int .i64 fb)).setCell ⟨g4,3,none⟩ (.slice aA nA kA)).setCell ⟨g4,4,none⟩ (.slice aB nB kB)) w.heap.size (zeroQ M) fW fh fb aA nA kA aB nB kB):=⟨(H12.out.lower HBA.out.size).tk (k5.less (by simp))⟩
 clear k5 hne2 hneP hHeld H12 H16 HW HZ3 HBA B2
 obtain ⟨wr',hwr⟩ : ∃ z,((((wc.setCell ⟨g4,0,none⟩ (.int .i64 fW)).setCell ⟨g4,1,none⟩ (.int .i64 fh)).setCell ⟨g4,2,none⟩ (.int .i64 fb)).setCell ⟨g4,3,none⟩ (.slice aA nA kA)).setCell ⟨g4,4,none⟩ (.slice aB nB kB)=z:=⟨_,rfl⟩
 rw [hwr] at HB HN ⊢
 clear hwr
 go_wp2
 go_loopw [6] (fun x wr=>∃ j : Nat,j≤Fs.length∧x=.int .i64 j∧Aside0 (Below w.heap.size w wr∧wr.heap[w.heap.size]? = some (.cells #[.int .i64 0,.int .i64 0,.int .i64 0,.slice none 0 0,.slice none 0 0] 27 (0,0))∧wr.heap[g4]? = some (.cells #[.int .i64 fW,.int .i64 fh,.int .i64 fb,.slice aA nA kA,.slice aB nB kB] 27 (0,0)))∧Aside0 (∀ i (h : i < Fs.length),i < j→good H Fs[i]=true)∧Aside0 (NewF H M wr w.heap.size (foldQ M Fs j) fW fh fb aA nA kA aB nB kB)) (fun x _=>Fs.length - (intOf x).toNat)
 case atStart=>exact ⟨0,Nat.zero_le _,rfl,HB,⟨fun i _ h=>absurd h (Nat.not_lt_zero _)⟩,HN⟩
 case round =>
  clear HB HN
  obtain ⟨j,hj,rfl,HB,HG,HN⟩:=hrel
  by_cases hlt : j < Fs.length
  ·have hlb : decide ((j : Int) < (Fs.length : Int))=true:=decide_eq_true (by omega)
   obtain ⟨pb,A3,c3,A4,c4,e1,p0,p1,p2,p3,p4,g3,g5,l3,l4⟩:=at_film1 HR.out hlt rfl
   injection e1 with e1
   subst e1
   have hf:=HW0.out.1 Fs[j] (List.getElem_mem _)
   have hl:=HW0.out.2 Fs[j] (List.getElem_mem _)
   have hgd : good H Fs[j]=true → ∀ i (h : i < Fs.length),i < j+1→good H Fs[i]=true:=fun hg i h hi=>by
    rcases Nat.lt_or_ge i j with hi2|hi2
    ·exact HG.out i h hi2
    ·obtain rfl : i=j:=by omega
     exact hg
   have hbd : good H Fs[j]=false→sumB Fs=false:=fun hg=>by
    rw [← Bool.not_eq_true,sumB_iff HH0.out]
    intro h
    have h1:=h j hlt
    rw [HEH.out,hg] at h1
    cases h1
   have hsz : chkF Fs[j]=true→szs H.f0 H.f1 H.f2=true:=fun hc=>by
    rcases Nat.eq_zero_or_pos j with hj0|hj0
    ·subst hj0
     rw [HEH.out] at hc
     exact (fits_of hc).1
    ·have h1:=HG.out 0 HH0.out hj0
     rw [HEH.out] at h1
     unfold good at h1
     simp only [Bool.and_eq_true] at h1
     exact (fits_of h1.1.1.1).1
   have hfold : foldQ M Fs (j+1)=(foldQ M Fs j).add (qF Fs[j]):=foldQ_succ hlt
   obtain ⟨F,eF⟩ : ∃ z,Fs[j]=z:=⟨_,rfl⟩
   rw [eF] at hgd hbd hsz hfold p0 p1 p2 p3 p4 g3 g5 l3 l4 hf hl
   have HGB:=Aside0.mk (And.intro hgd (And.intro hbd (And.intro hsz hfold)))
   have HEF : Aside0 (Fs[j]'hlt=F):=⟨eF⟩
   have HF:=Aside0.mk (show WfF n0 F∧F.f3.length≤c3∧F.f4.length≤c4∧F.f3.length < 4611686018427387904∧F.f4.length < 4611686018427387904 from ⟨hf,l3,l4,hl.1,hl.2⟩)
   have HWP:=Aside0.mk (And.intro g3 (And.intro g5 (And.intro p3 p4)))
   have HG3:=Aside0.mk (And.intro (Kd.C_below g3 HB.out.1) (Kd.C_below g5 HB.out.1))
   have HZ7:=Aside0.mk (And.intro (keepc HB.out.1 p0) (And.intro (keepc HB.out.1 p1) (And.intro (keepc HB.out.1 p2) (And.intro (keepc HB.out.1 p3) (And.intro (keepc HB.out.1 p4) (And.intro (cells5 HB.out.2.2).1 (And.intro (cells5 HB.out.2.2).2.1 (cells5 HB.out.2.2).2.2.1)))))))
   clear hgd hbd hsz hfold eF hf hl l3 l4 p0 p1 p2 p3 p4 g3 g5
   go_upto_region 7 with fail
   rcases hc : chkF F with _|_
   rotate_left
   rcases Bool.eq_false_or_eq_true (F.f0 != fW) with hc0|hc0
   rotate_left
   rcases Bool.eq_false_or_eq_true (F.f1 != fh) with hc1|hc1
   rotate_left
   rcases Bool.eq_false_or_eq_true (F.f2 != fb) with hc2|hc2
   all_goals
    have HC:=Aside0.mk hc
    try have HZ : Aside0 (sumB Fs=false):=⟨HGB.out.2.1 (by unfold good;first|(rw [hc];rfl)|(rw [show (F.f0 == H.f0)=false by rw [← (HN.out (HGB.out.2.2.1 hc)).1];simpa [bne] using hc0];simp;done)|(rw [show (F.f1 == H.f1)=false by rw [← (HN.out (HGB.out.2.2.1 hc)).2.1];simpa [bne] using hc1];simp;done)|(rw [show (F.f2 == H.f2)=false by rw [← (HN.out (HGB.out.2.2.1 hc)).2.2.1];simpa [bne] using hc2];simp;done))⟩
    clear hc
    have hjl:=hlt
    refine sT (n:=36) (S:=fun w'=>w'.cell? (pa.add (j * 5))=some (.int .i64 F.f0)∧w'.cell? ⟨(pa.add (j * 5)).block,(pa.add (j * 5)).off+1,none⟩=some (.int .i64 F.f1)∧w'.cell? ⟨(pa.add (j * 5)).block,(pa.add (j * 5)).off+2,none⟩=some (.int .i64 F.f2)∧w'.cell? ⟨(pa.add (j * 5)).block,(pa.add (j * 5)).off+3,none⟩=some (.slice A3 F.f3.length c3)∧w'.cell? ⟨(pa.add (j * 5)).block,(pa.add (j * 5)).off+4,none⟩=some (.slice A4 F.f4.length c4)∧w'.cell? ⟨g4,0,none⟩=some (.int .i64 fW)∧w'.cell? ⟨g4,1,none⟩=some (.int .i64 fh)∧w'.cell? ⟨g4,2,none⟩=some (.int .i64 fb)) (ds:=[]) (by kernel_rfl) rfl HZ7.out (fun hHeld=>?_)
    refine with_tabW ref20_Sum.tab7 ref20_Sum.bits7 (fun HT_ HW_=>?_)
    refine pz 0 (some 34) rfl rfl ?_
    refine pz 1 (some 35) rfl rfl ?_
    refine pz 2 (some 36) rfl rfl ?_
    refine tz 3 (some 37) rfl rfl hHeld ?_
    refine oN 4 (some 38) rfl rfl fun K hK=>?_
    obtain ⟨wc,hwc⟩ : ∃ z,wr.drew=z:=⟨_,rfl⟩
    have HWc : Aside0 (Below wr.heap.size wr wc):=⟨by rw [← hwc];exact below_drew1 (Below.refl _ _)⟩
    rw [hwc]
    clear hwc
    refine goes_ Try.func38 (by kernel_rfl) rfl #[.agg #[.int .i64 F.f0,.int .i64 F.f1,.int .i64 F.f2,.slice A3 F.f3.length c3,.slice A4 F.f4.length c4]] (by rfl) rfl rfl (by simp only [List.map_toArray,List.map_cons,List.map_nil];rfl) ?_
    with_reducible refine (check20_sem HPN.out HF.out.1 HC.out HF.out.2.1 HF.out.2.2.1 (Kd.C_below HG3.out.1 HWc.out) (Kd.C_below HG3.out.2 HWc.out) HF.out.2.2.2.1 HF.out.2.2.2.2).mono ?_
    rintro e w2 ⟨rfl,hb⟩
    refine ⟨_,rfl,?_⟩
    replace HWc:=Aside0.mk (below_step HWc.out hb)
    clear hb
    refine hK.out _ _ (kE HWc.out HZ7.out) (fun hHeld=>?_)
    clear hK K
    refine nZ ?_
    refine pz 5 (some 39) rfl rfl ?_
    refine pz 6 (some 40) rfl rfl ?_
    refine pz 7 (some 41) rfl rfl ?_
    refine pz 8 (some 42) rfl rfl ?_
    refine pz 9 (some 43) rfl rfl ?_
    refine pz 10 (some 44) rfl rfl ?_
    refine pz 12 (some 46) rfl rfl ?_
    refine tz 11 (some 45) rfl rfl hHeld ?_
    refine tz 13 (some 47) rfl rfl hHeld ?_
    refine pz 14 (some 48) rfl rfl ?_
    refine pz 15 (some 49) rfl rfl ?_
    refine pz 16 (some 50) rfl rfl ?_
    refine pz 17 (some 51) rfl rfl ?_
    refine pz 18 (some 52) rfl rfl ?_
    refine pz 19 (some 53) rfl rfl ?_
    refine pz 20 (some 54) rfl rfl ?_
    refine pz 22 (some 56) rfl rfl ?_
    refine tz 21 (some 55) rfl rfl hHeld ?_
    refine tz 23 (some 57) rfl rfl hHeld ?_
    refine pz 24 (some 58) rfl rfl ?_
    refine pz 25 (some 59) rfl rfl ?_
    refine pz 26 (some 60) rfl rfl ?_
    refine pz 27 (some 61) rfl rfl ?_
    refine pz 28 (some 62) rfl rfl ?_
    refine pz 29 (some 63) rfl rfl ?_
    refine pz 30 (some 64) rfl rfl ?_
    refine pz 32 (some 66) rfl rfl ?_
    refine tz 31 (some 65) rfl rfl hHeld ?_
    refine tz 33 (some 67) rfl rfl hHeld ?_
    refine pz 34 (some 68) rfl rfl ?_
    refine pz 35 (some 69) rfl rfl ?_
    refine dN ?_
    have BR:=Aside0.mk (blk_below HB.out.2.1 HWc.out)
    have BG:=Aside0.mk (blk_below HB.out.2.2 HWc.out)
    have q0:=cells5 BR.out
    have q1:=free5 BR.out
    clear hHeld
    go_wp2
    try (refine bodyPost_ret (results_ct rfl _ _ w.heap.size 27 _ (0,0) _ rfl (put5 BR.out (.int .i64 0) (.int .i64 0) (.int .i64 0) (.slice none 0 0) (.slice none 0 0)) Try.underlying27 rfl (by kernel_rfl)) rfl ?_;exact ⟨low5 (g:=w.heap.size) (below_step HB.out.1 HWc.out) (Nat.le_refl _) (.int .i64 0) (.int .i64 0) (.int .i64 0) (.slice none 0 0) (.slice none 0 0),.inl ⟨HZ.out,rfl⟩⟩)
   have hs:=HGB.out.2.2.1 HC.out
   obtain ⟨rfl,rfl,rfl,eA,eB,lA,lB,ad,ad2,rfl,rfl,hrw⟩:=HN.out hs
   obtain rfl:=eA.symm
   obtain rfl:=eB.symm
   have hM:=HM.out hs
   have hgF : good H F=true:=by
    unfold good
    rw [HC.out,show (F.f0 == H.f0)=true by simpa [bne] using hc0,show (F.f1 == H.f1)=true by simpa [bne] using hc1,show (F.f2 == H.f2)=true by simpa [bne] using hc2]
    rfl
   have hfit : ∀ G : S27,good H G=true→(qF G).fits H.f0 H.f1 H.f2:=fun G hG=>by
    unfold good at hG
    simp only [Bool.and_eq_true,beq_iff_eq] at hG
    rw [← hG.1.1.2,← hG.1.2,← hG.2]
    exact (fits_of hG.1.1.1).2
   have hp : (foldQ M Fs j).fits H.f0 H.f1 H.f2:=foldl_fits (zero_fits hM) (fun q hq=>by
    obtain ⟨k,hk,rfl⟩:=List.mem_iff_getElem.mp hq
    rw [List.length_take,List.length_map] at hk
    rw [List.getElem_take,List.getElem_map]
    exact hfit _ (HG.out k (by omega) (by omega)))
   have hq:=hfit F hgF
   have hpz : (foldQ M Fs j).sz < 10000000:=by
    have h1:=foldl_sz ((Fs.map qF).take j) (zeroQ M)
    have h2:=tot_take (Fs.map qF) j
    have h3:=zero_sz M
    have h4:=HT.out
    unfold foldQ
    omega
   have hqz : (qF F).sz < 10000000:=by
    have h1:=tot_mem (l:=Fs.map qF) (q:=qF F) (List.mem_map.mpr ⟨F,by rw [← HEF.out];exact List.getElem_mem _,rfl⟩)
    have h4:=HT.out
    omega
   have hF3 : F.f3=(qF F).a.map mkR∧F.f4=(qF F).b.map mkR:=by
    have h1:=mkF_qF HC.out
    exact ⟨(congrArg S27.f3 h1).symm,(congrArg S27.f4 h1).symm⟩
   obtain ⟨la,lb⟩:=q_len hM hp
   obtain ⟨lc,ld⟩:=q_len hM hq
   have k3:=HWP.out.1
   have k4:=HWP.out.2.1
   rw [hF3.1,lc] at k3
   rw [hF3.2,ld] at k4
   have z8:=HWP.out.2.2.1
   have z9:=HWP.out.2.2.2
   rw [hF3.1,lc] at z8
   rw [hF3.2,ld] at z9
   rw [List.length_map] at la lb lc ld
   obtain ⟨p,ep⟩ : ∃ p,foldQ M Fs j=p:=⟨_,rfl⟩
   obtain ⟨q,eq⟩ : ∃ q,qF F=q:=⟨_,rfl⟩
   rw [ep] at hrw hp hpz la lb
   rw [eq] at k3 k4 hq hqz lc ld
   have HFO : Aside0 (foldQ M Fs (j+1)=p.add q):=⟨by rw [HGB.out.2.2.2,ep,eq]⟩
   have HGN:=Aside0.mk (HGB.out.1 hgF)
   have HPQ:=Aside0.mk (show p.a.length=M∧p.b.length=M∧q.a.length=M∧q.b.length=M∧p.sz < 10000000∧q.sz < 10000000 from ⟨la,lb,lc,ld,hpz,hqz⟩)
   have HK:=Aside0.mk (And.intro k3 (And.intro k4 (And.intro z8 z9)))
   have HS:=Aside0.mk (And.intro hs (And.intro hM (And.intro lA lB)))
   have hm2 : M≤2048:=by have:=szs_prod hs;omega
   have HB0:=Aside0.mk (show Below w.heap.size w w2∧w2.heap[w.heap.size]? = some (.cells #[.int .i64 0,.int .i64 0,.int .i64 0,.slice none 0 0,.slice none 0 0] 27 (0,0))∧w2.heap[g4]? = some (.cells #[.int .i64 H.f0,.int .i64 H.f1,.int .i64 H.f2,.slice (some ad) M kA,.slice (some ad2) M kB] 27 (0,0)) from ⟨below_step HB.out.1 HWc.out,BR.out,BG.out⟩)
   have HO0:=Aside0.mk (show ORow w2 w.heap.size ad kA ((mixQ 0 p.a q.a).map mkR)∧ORow w2 w.heap.size ad2 kB ((mixQ 0 p.b q.b).map mkR)∧ad.block≠ad2.block from ⟨by rw [mixQ_zero];exact (hrw.below HWc.out).a,by rw [mixQ_zero];exact (hrw.below HWc.out).b,hrw.ne⟩)
   clear hgF hfit hp hq hpz hqz hF3 la lb lc ld k3 k4 z8 z9 ep eq hrw hs hM lA lB hc0 hc1 hc2 HGB HG3 HZ7 HB HN q0 q1 BR BG HF hjl eA eB HWP
   go_loopw [7] (fun y wr=>∃ i : Nat,i≤M∧y=.int .i64 i∧Aside0 (Below w.heap.size w wr∧wr.heap[w.heap.size]? = some (.cells #[.int .i64 0,.int .i64 0,.int .i64 0,.slice none 0 0,.slice none 0 0] 27 (0,0))∧wr.heap[g4]? = some (.cells #[.int .i64 H.f0,.int .i64 H.f1,.int .i64 H.f2,.slice (some ad) M kA,.slice (some ad2) M kB] 27 (0,0)))∧Aside0 (ORow wr w.heap.size ad kA ((mixQ i p.a q.a).map mkR)∧ORow wr w.heap.size ad2 kB ((mixQ i p.b q.b).map mkR)∧ad.block≠ad2.block)) (fun y _=>M - (intOf y).toNat)
   case atStart=>exact ⟨0,Nat.zero_le _,rfl,HB0,HO0⟩
   case round =>
    clear HB0 HO0
    obtain ⟨i,hi,rfl,HB,HO⟩:=hrel
    by_cases hil : i < M
    ·have hil2 : decide ((i : Int) < (M : Int))=true:=decide_eq_true (by omega)
     obtain ⟨la,lb,lc,ld,_,_⟩:=HPQ.out
     have tX:=mixQ_set (i:=i) (p:=p.a) (q:=q.a) (by omega) (by omega)
     have gX:=mixQ_get (i:=i) (p:=p.a) (q:=q.a) (by omega) (by omega)
     have nX:=mixQ_length (i:=i) (p:=p.a) (q:=q.a) (by omega)
     obtain ⟨K1,k1,K2,k2,a0,a1,a2,hx⟩:=ORow.num HO.out.1 (i:=i) (by omega)
     rw [gX] at a0 a1 a2 hx
     obtain ⟨ad3,M1,m1,M2,m2,eP,z4,z5,z6,hu⟩:=at_num (Kd.C_below HK.out.1 HB.out.1) (i:=i) (by omega) hil
     subst eP
     have sx : AddTo (mkR (p.a[i]'(by omega))) (mkR (q.a[i]'(by omega))) (mkR (p.a[i]'(by omega)+q.a[i]'(by omega))):=addR (by have h1:=szL_mem (List.getElem_mem (l:=p.a) (n:=i) (by omega));have h2 : szL p.a≤p.sz:=Nat.le_max_left _ _;have h3:=HPQ.out.2.2.2.2.1;omega) (by have h1:=szL_mem (List.getElem_mem (l:=q.a) (n:=i) (by omega));have h2 : szL q.a≤q.sz:=Nat.le_max_left _ _;have h3:=HPQ.out.2.2.2.2.2;omega)
     have na2 : i < ((mixQ i p.a q.a).map mkR).length:=by rw [List.length_map];omega
     have ta2 : ((mixQ i p.a q.a).map mkR).set i (mkR (p.a[i]'(by omega)+q.a[i]'(by omega)))=(mixQ (i+1) p.a q.a).map mkR:=by rw [← List.map_set,tX]
     obtain ⟨x,ex⟩ : ∃ x,mkR (p.a[i]'(by omega))=x:=⟨_,rfl⟩
     obtain ⟨u,eu⟩ : ∃ x,mkR (q.a[i]'(by omega))=x:=⟨_,rfl⟩
     obtain ⟨X,eX⟩ : ∃ x,mkR (p.a[i]'(by omega)+q.a[i]'(by omega))=x:=⟨_,rfl⟩
     rw [ex] at a0 a1 a2 hx sx
     rw [eu] at z4 z5 z6 hu sx
     rw [eX] at sx ta2
     have KX:=Aside0.mk hx
     have KU:=Aside0.mk hu
     have SX:=Aside0.mk sx
     have TA:=Aside0.mk (And.intro na2 ta2)
     have ZA:=Aside0.mk (show wr.cell? ⟨g4,3,none⟩=some (.slice (some ad) M kA)∧wr.cell? (ad.add (i * 3))=some (.bool x.f0)∧wr.cell? ⟨(ad.add (i * 3)).block,(ad.add (i * 3)).off+1,none⟩=some (.slice K1 x.f1.length k1)∧wr.cell? ⟨(ad.add (i * 3)).block,(ad.add (i * 3)).off+2,none⟩=some (.slice K2 x.f2.length k2)∧wr.cell? ⟨(pa.add (j * 5)).block,(pa.add (j * 5)).off+3,none⟩=some (.slice (some ad3) M c3)∧wr.cell? (ad3.add (i * 3))=some (.bool u.f0)∧wr.cell? ⟨(ad3.add (i * 3)).block,(ad3.add (i * 3)).off+1,none⟩=some (.slice M1 u.f1.length m1)∧wr.cell? ⟨(ad3.add (i * 3)).block,(ad3.add (i * 3)).off+2,none⟩=some (.slice M2 u.f2.length m2) from ⟨(cells5 HB.out.2.2).2.2.2.1,a0,a1,a2,keepc HB.out.1 HK.out.2.2.1,z4,z5,z6⟩)
     clear tX gX nX a0 a1 a2 hx z4 z5 z6 hu sx na2 ta2 ex eu eX
     have qg:=(cells5 HB.out.2.2).2.2.2.1
     have hjl:=hlt
     go_upto_region 12 with fail
     clear qg
     refine sT (n:=19) (S:=fun w'=>w'.cell? ⟨g4,3,none⟩=some (.slice (some ad) M kA)∧w'.cell? (ad.add (i * 3))=some (.bool x.f0)∧w'.cell? ⟨(ad.add (i * 3)).block,(ad.add (i * 3)).off+1,none⟩=some (.slice K1 x.f1.length k1)∧w'.cell? ⟨(ad.add (i * 3)).block,(ad.add (i * 3)).off+2,none⟩=some (.slice K2 x.f2.length k2)∧w'.cell? ⟨(pa.add (j * 5)).block,(pa.add (j * 5)).off+3,none⟩=some (.slice (some ad3) M c3)∧w'.cell? (ad3.add (i * 3))=some (.bool u.f0)∧w'.cell? ⟨(ad3.add (i * 3)).block,(ad3.add (i * 3)).off+1,none⟩=some (.slice M1 u.f1.length m1)∧w'.cell? ⟨(ad3.add (i * 3)).block,(ad3.add (i * 3)).off+2,none⟩=some (.slice M2 u.f2.length m2)) (ds:=[18]) (by kernel_rfl) rfl ZA.out (fun hHeld=>?_)
     refine with_tabW ref20_Sum.tab12 ref20_Sum.bits12 (fun HT_ HW_=>?_)
     refine pz 0 (some 78) rfl rfl ?_
     refine pz 2 (some 80) rfl rfl ?_
     refine pz 3 (some 81) rfl rfl ?_
     refine pz 5 (some 83) rfl rfl ?_
     refine pz 8 (some 86) rfl rfl ?_
     refine pz 9 (some 87) rfl rfl ?_
     refine pz 10 (some 88) rfl rfl ?_
     refine pz 11 (some 89) rfl rfl ?_
     refine pz 13 (some 91) rfl rfl ?_
     refine tz 1 (some 79) rfl rfl hHeld ?_
     refine tz 4 (some 82) rfl rfl hHeld ?_
     refine pz 6 (some 84) rfl rfl ?_
     refine tz 7 (some 85) rfl rfl hHeld ?_
     refine tz 12 (some 90) rfl rfl hHeld ?_
     refine pz 14 (some 92) rfl rfl ?_
     refine tz 15 (some 93) rfl rfl hHeld ?_
     refine oN 16 (some 94) rfl rfl fun K hK=>?_
     obtain ⟨wc,hwc⟩ : ∃ z,wr.drew=z:=⟨_,rfl⟩
     have HW : Aside0 (Below wr.heap.size wr wc):=⟨by rw [← hwc];exact below_drew1 (Below.refl _ _)⟩
     rw [hwc]
     clear hwc
     refine goes_ Try.func39 (by kernel_rfl) rfl #[.agg #[.bool x.f0,.slice K1 x.f1.length k1,.slice K2 x.f2.length k2],.agg #[.bool u.f0,.slice M1 u.f1.length m1,.slice M2 u.f2.length m2]] (by rfl) rfl rfl (by simp only [List.map_toArray,List.map_cons,List.map_nil];rfl) ?_
     with_reducible refine (SX.out.go (k63.K_below HW.out KX.out) (k63.K_below HW.out KU.out)).mono ?_
     rintro e wc ⟨P1,p1,P2,p2,rfl,hxk,hb⟩
     refine ⟨_,rfl,?_⟩
     have HXK:=Aside0.mk hxk
     replace HW:=Aside0.mk (below_step HW.out hb)
     clear hxk hb
     refine hK.out _ _ (kE HW.out ZA.out) (fun hHeld=>?_)
     clear hK K
     refine nZ ?_
     refine pz 17 (some 95) rfl rfl ?_
     refine lN 18 (none) rfl rfl fun K hK=>?_
     have q0:=keepc HW.out ZA.out.2.1
     have q1:=keepc HW.out ZA.out.2.2.1
     have q2:=keepc HW.out ZA.out.2.2.2.1
     have q3:=(HO.out.1.below HW.out).free (i * 3)
     have q4:=next_cells (a:=.bool X.f0) (b:=.slice P1 X.f1.length p1) q1 q2
     refine skip_ (w1:=?_) (by rfl) rfl ?_ ?_
     rotate_left
     ·go_simp
      rfl
     clear q0 q1 q2 q3 q4
     refine hK.out _ _ ?_
     clear hK K
     refine dN ?_
     have e1 : g4≠(ad.add (i * 3)).block:=blk_ne HO.out.1 HB.out.2.2 (by decide) _
     have e0 : w.heap.size≠(ad.add (i * 3)).block:=blk_ne HO.out.1 HB.out.2.1 (by decide) _
     have HB2:=Aside0.mk (show Below w.heap.size w (((wc.setCell (ad.add (i * 3)) (.bool X.f0)).setCell ⟨(ad.add (i * 3)).block,(ad.add (i * 3)).off+1,none⟩ (.slice P1 X.f1.length p1)).setCell ⟨(ad.add (i * 3)).block,(ad.add (i * 3)).off+2,none⟩ (.slice P2 X.f2.length p2))∧(((wc.setCell (ad.add (i * 3)) (.bool X.f0)).setCell ⟨(ad.add (i * 3)).block,(ad.add (i * 3)).off+1,none⟩ (.slice P1 X.f1.length p1)).setCell ⟨(ad.add (i * 3)).block,(ad.add (i * 3)).off+2,none⟩ (.slice P2 X.f2.length p2)).heap[w.heap.size]? = some (.cells #[.int .i64 0,.int .i64 0,.int .i64 0,.slice none 0 0,.slice none 0 0] 27 (0,0))∧(((wc.setCell (ad.add (i * 3)) (.bool X.f0)).setCell ⟨(ad.add (i * 3)).block,(ad.add (i * 3)).off+1,none⟩ (.slice P1 X.f1.length p1)).setCell ⟨(ad.add (i * 3)).block,(ad.add (i * 3)).off+2,none⟩ (.slice P2 X.f2.length p2)).heap[g4]? = some (.cells #[.int .i64 H.f0,.int .i64 H.f1,.int .i64 H.f2,.slice (some ad) M kA,.slice (some ad2) M kB] 27 (0,0)) from ⟨low_st3 (below_step HB.out.1 HW.out) (by rw [add_block];exact HO.out.1.from_) _ _ _,blk_st3 (blk_below HB.out.2.1 HW.out) e0,blk_st3 (blk_below HB.out.2.2 HW.out) e1⟩)
     have HO2:=Aside0.mk (show ORow (((wc.setCell (ad.add (i * 3)) (.bool X.f0)).setCell ⟨(ad.add (i * 3)).block,(ad.add (i * 3)).off+1,none⟩ (.slice P1 X.f1.length p1)).setCell ⟨(ad.add (i * 3)).block,(ad.add (i * 3)).off+2,none⟩ (.slice P2 X.f2.length p2)) w.heap.size ad kA ((mixQ (i+1) p.a q.a).map mkR)∧ORow (((wc.setCell (ad.add (i * 3)) (.bool X.f0)).setCell ⟨(ad.add (i * 3)).block,(ad.add (i * 3)).off+1,none⟩ (.slice P1 X.f1.length p1)).setCell ⟨(ad.add (i * 3)).block,(ad.add (i * 3)).off+2,none⟩ (.slice P2 X.f2.length p2)) w.heap.size ad2 kB ((mixQ i p.b q.b).map mkR)∧ad.block≠ad2.block from ⟨by rw [← TA.out.2];exact (HO.out.1.below HW.out).store TA.out.1 HXK.out,(HO.out.2.1.below HW.out).beside (HO.out.1.below HW.out) HO.out.2.2 i _ _ _,HO.out.2.2⟩)
     clear HB HO e0 e1 KX KU SX TA ZA HXK HW hHeld
     obtain ⟨wr3,hwr3⟩ : ∃ z,((wc.setCell (ad.add (i * 3)) (.bool X.f0)).setCell ⟨(ad.add (i * 3)).block,(ad.add (i * 3)).off+1,none⟩ (.slice P1 X.f1.length p1)).setCell ⟨(ad.add (i * 3)).block,(ad.add (i * 3)).off+2,none⟩ (.slice P2 X.f2.length p2)=z:=⟨_,rfl⟩
     rw [hwr3] at HB2 HO2 ⊢
     clear hwr3
     obtain ⟨wr,ewr⟩ : ∃ z,z=wr3:=⟨_,rfl⟩
     subst ewr
     have HB:=HB2
     have HO:=HO2
     clear HB2 HO2
     have tX:=mixQ_set (i:=i) (p:=p.b) (q:=q.b) (by omega) (by omega)
     have gX:=mixQ_get (i:=i) (p:=p.b) (q:=q.b) (by omega) (by omega)
     have nX:=mixQ_length (i:=i) (p:=p.b) (q:=q.b) (by omega)
     obtain ⟨K1,k1,K2,k2,a0,a1,a2,hx⟩:=ORow.num HO.out.2.1 (i:=i) (by omega)
     rw [gX] at a0 a1 a2 hx
     obtain ⟨ad4,M1,m1,M2,m2,eP,z4,z5,z6,hu⟩:=at_num (Kd.C_below HK.out.2.1 HB.out.1) (i:=i) (by omega) hil
     subst eP
     have sx : AddTo (mkR (p.b[i]'(by omega))) (mkR (q.b[i]'(by omega))) (mkR (p.b[i]'(by omega)+q.b[i]'(by omega))):=addR (by have h1:=szL_mem (List.getElem_mem (l:=p.b) (n:=i) (by omega));have h2 : szL p.b≤p.sz:=Nat.le_max_right _ _;have h3:=HPQ.out.2.2.2.2.1;omega) (by have h1:=szL_mem (List.getElem_mem (l:=q.b) (n:=i) (by omega));have h2 : szL q.b≤q.sz:=Nat.le_max_right _ _;have h3:=HPQ.out.2.2.2.2.2;omega)
     have na2 : i < ((mixQ i p.b q.b).map mkR).length:=by rw [List.length_map];omega
     have ta2 : ((mixQ i p.b q.b).map mkR).set i (mkR (p.b[i]'(by omega)+q.b[i]'(by omega)))=(mixQ (i+1) p.b q.b).map mkR:=by rw [← List.map_set,tX]
     obtain ⟨x,ex⟩ : ∃ x,mkR (p.b[i]'(by omega))=x:=⟨_,rfl⟩
     obtain ⟨u,eu⟩ : ∃ x,mkR (q.b[i]'(by omega))=x:=⟨_,rfl⟩
     obtain ⟨X,eX⟩ : ∃ x,mkR (p.b[i]'(by omega)+q.b[i]'(by omega))=x:=⟨_,rfl⟩
     rw [ex] at a0 a1 a2 hx sx
     rw [eu] at z4 z5 z6 hu sx
     rw [eX] at sx ta2
     have KX:=Aside0.mk hx
     have KU:=Aside0.mk hu
     have SX:=Aside0.mk sx
     have TA:=Aside0.mk (And.intro na2 ta2)
     have ZB:=Aside0.mk (show wr.cell? ⟨g4,4,none⟩=some (.slice (some ad2) M kB)∧wr.cell? (ad2.add (i * 3))=some (.bool x.f0)∧wr.cell? ⟨(ad2.add (i * 3)).block,(ad2.add (i * 3)).off+1,none⟩=some (.slice K1 x.f1.length k1)∧wr.cell? ⟨(ad2.add (i * 3)).block,(ad2.add (i * 3)).off+2,none⟩=some (.slice K2 x.f2.length k2)∧wr.cell? ⟨(pa.add (j * 5)).block,(pa.add (j * 5)).off+4,none⟩=some (.slice (some ad4) M c4)∧wr.cell? (ad4.add (i * 3))=some (.bool u.f0)∧wr.cell? ⟨(ad4.add (i * 3)).block,(ad4.add (i * 3)).off+1,none⟩=some (.slice M1 u.f1.length m1)∧wr.cell? ⟨(ad4.add (i * 3)).block,(ad4.add (i * 3)).off+2,none⟩=some (.slice M2 u.f2.length m2) from ⟨(cells5 HB.out.2.2).2.2.2.2,a0,a1,a2,keepc HB.out.1 HK.out.2.2.2,z4,z5,z6⟩)
     clear tX gX nX a0 a1 a2 hx z4 z5 z6 hu sx na2 ta2 ex eu eX
     go_upto_region 13 with fail
     refine sT (n:=19) (S:=fun w'=>w'.cell? ⟨g4,4,none⟩=some (.slice (some ad2) M kB)∧w'.cell? (ad2.add (i * 3))=some (.bool x.f0)∧w'.cell? ⟨(ad2.add (i * 3)).block,(ad2.add (i * 3)).off+1,none⟩=some (.slice K1 x.f1.length k1)∧w'.cell? ⟨(ad2.add (i * 3)).block,(ad2.add (i * 3)).off+2,none⟩=some (.slice K2 x.f2.length k2)∧w'.cell? ⟨(pa.add (j * 5)).block,(pa.add (j * 5)).off+4,none⟩=some (.slice (some ad4) M c4)∧w'.cell? (ad4.add (i * 3))=some (.bool u.f0)∧w'.cell? ⟨(ad4.add (i * 3)).block,(ad4.add (i * 3)).off+1,none⟩=some (.slice M1 u.f1.length m1)∧w'.cell? ⟨(ad4.add (i * 3)).block,(ad4.add (i * 3)).off+2,none⟩=some (.slice M2 u.f2.length m2)) (ds:=[18]) (by kernel_rfl) rfl ZB.out (fun hHeld=>?_)
     refine with_tabW ref20_Sum.tab13 ref20_Sum.bits13 (fun HT_ HW_=>?_)
     refine pz 0 (some 96) rfl rfl ?_
     refine pz 2 (some 98) rfl rfl ?_
     refine pz 3 (some 99) rfl rfl ?_
     refine pz 5 (some 101) rfl rfl ?_
     refine pz 8 (some 104) rfl rfl ?_
     refine pz 9 (some 105) rfl rfl ?_
     refine pz 10 (some 106) rfl rfl ?_
     refine pz 11 (some 107) rfl rfl ?_
     refine pz 13 (some 109) rfl rfl ?_
     refine tz 1 (some 97) rfl rfl hHeld ?_
     refine tz 4 (some 100) rfl rfl hHeld ?_
     refine pz 6 (some 102) rfl rfl ?_
     refine tz 7 (some 103) rfl rfl hHeld ?_
     refine tz 12 (some 108) rfl rfl hHeld ?_
     refine pz 14 (some 110) rfl rfl ?_
     refine tz 15 (some 111) rfl rfl hHeld ?_
     refine oN 16 (some 112) rfl rfl fun K hK=>?_
     obtain ⟨wc,hwc⟩ : ∃ z,wr.drew=z:=⟨_,rfl⟩
     have HW : Aside0 (Below wr.heap.size wr wc):=⟨by rw [← hwc];exact below_drew1 (Below.refl _ _)⟩
     rw [hwc]
     clear hwc
     refine goes_ Try.func39 (by kernel_rfl) rfl #[.agg #[.bool x.f0,.slice K1 x.f1.length k1,.slice K2 x.f2.length k2],.agg #[.bool u.f0,.slice M1 u.f1.length m1,.slice M2 u.f2.length m2]] (by rfl) rfl rfl (by simp only [List.map_toArray,List.map_cons,List.map_nil];rfl) ?_
     with_reducible refine (SX.out.go (k63.K_below HW.out KX.out) (k63.K_below HW.out KU.out)).mono ?_
     rintro e wc ⟨P1,p1,P2,p2,rfl,hxk,hb⟩
     refine ⟨_,rfl,?_⟩
     have HXK:=Aside0.mk hxk
     replace HW:=Aside0.mk (below_step HW.out hb)
     clear hxk hb
     refine hK.out _ _ (kE HW.out ZB.out) (fun hHeld=>?_)
     clear hK K
     refine nZ ?_
     refine pz 17 (some 113) rfl rfl ?_
     refine lN 18 (none) rfl rfl fun K hK=>?_
     have q0:=keepc HW.out ZB.out.2.1
     have q1:=keepc HW.out ZB.out.2.2.1
     have q2:=keepc HW.out ZB.out.2.2.2.1
     have q3:=(HO.out.2.1.below HW.out).free (i * 3)
     have q4:=next_cells (a:=.bool X.f0) (b:=.slice P1 X.f1.length p1) q1 q2
     refine skip_ (w1:=?_) (by rfl) rfl ?_ ?_
     rotate_left
     ·go_simp
      rfl
     clear q0 q1 q2 q3 q4
     refine hK.out _ _ ?_
     clear hK K
     refine dN ?_
     have e1 : g4≠(ad2.add (i * 3)).block:=blk_ne HO.out.2.1 HB.out.2.2 (by decide) _
     have e0 : w.heap.size≠(ad2.add (i * 3)).block:=blk_ne HO.out.2.1 HB.out.2.1 (by decide) _
     have HB2:=Aside0.mk (show Below w.heap.size w (((wc.setCell (ad2.add (i * 3)) (.bool X.f0)).setCell ⟨(ad2.add (i * 3)).block,(ad2.add (i * 3)).off+1,none⟩ (.slice P1 X.f1.length p1)).setCell ⟨(ad2.add (i * 3)).block,(ad2.add (i * 3)).off+2,none⟩ (.slice P2 X.f2.length p2))∧(((wc.setCell (ad2.add (i * 3)) (.bool X.f0)).setCell ⟨(ad2.add (i * 3)).block,(ad2.add (i * 3)).off+1,none⟩ (.slice P1 X.f1.length p1)).setCell ⟨(ad2.add (i * 3)).block,(ad2.add (i * 3)).off+2,none⟩ (.slice P2 X.f2.length p2)).heap[w.heap.size]? = some (.cells #[.int .i64 0,.int .i64 0,.int .i64 0,.slice none 0 0,.slice none 0 0] 27 (0,0))∧(((wc.setCell (ad2.add (i * 3)) (.bool X.f0)).setCell ⟨(ad2.add (i * 3)).block,(ad2.add (i * 3)).off+1,none⟩ (.slice P1 X.f1.length p1)).setCell ⟨(ad2.add (i * 3)).block,(ad2.add (i * 3)).off+2,none⟩ (.slice P2 X.f2.length p2)).heap[g4]? = some (.cells #[.int .i64 H.f0,.int .i64 H.f1,.int .i64 H.f2,.slice (some ad) M kA,.slice (some ad2) M kB] 27 (0,0)) from ⟨low_st3 (below_step HB.out.1 HW.out) (by rw [add_block];exact HO.out.2.1.from_) _ _ _,blk_st3 (blk_below HB.out.2.1 HW.out) e0,blk_st3 (blk_below HB.out.2.2 HW.out) e1⟩)
     have HO2:=Aside0.mk (show ORow (((wc.setCell (ad2.add (i * 3)) (.bool X.f0)).setCell ⟨(ad2.add (i * 3)).block,(ad2.add (i * 3)).off+1,none⟩ (.slice P1 X.f1.length p1)).setCell ⟨(ad2.add (i * 3)).block,(ad2.add (i * 3)).off+2,none⟩ (.slice P2 X.f2.length p2)) w.heap.size ad kA ((mixQ (i+1) p.a q.a).map mkR)∧ORow (((wc.setCell (ad2.add (i * 3)) (.bool X.f0)).setCell ⟨(ad2.add (i * 3)).block,(ad2.add (i * 3)).off+1,none⟩ (.slice P1 X.f1.length p1)).setCell ⟨(ad2.add (i * 3)).block,(ad2.add (i * 3)).off+2,none⟩ (.slice P2 X.f2.length p2)) w.heap.size ad2 kB ((mixQ (i+1) p.b q.b).map mkR)∧ad.block≠ad2.block from ⟨(HO.out.1.below HW.out).beside (HO.out.2.1.below HW.out) (fun e=>HO.out.2.2 e.symm) i _ _ _,by rw [← TA.out.2];exact (HO.out.2.1.below HW.out).store TA.out.1 HXK.out,HO.out.2.2⟩)
     clear HB HO e0 e1 KX KU SX TA ZB HXK HW hHeld
     obtain ⟨wr3,hwr3⟩ : ∃ z,((wc.setCell (ad2.add (i * 3)) (.bool X.f0)).setCell ⟨(ad2.add (i * 3)).block,(ad2.add (i * 3)).off+1,none⟩ (.slice P1 X.f1.length p1)).setCell ⟨(ad2.add (i * 3)).block,(ad2.add (i * 3)).off+2,none⟩ (.slice P2 X.f2.length p2)=z:=⟨_,rfl⟩
     rw [hwr3] at HB2 HO2 ⊢
     clear hwr3
     go_wp2
     go_roundw
     case rel=>exact ⟨i+1,hil,by go_num,HB2,HO2⟩
     case measure=>simp [intOf];omega
    ·obtain rfl : i=M:=by omega
     have hil2 : decide ((i : Int) < (i : Int))=false:=by simp
     have qg:=(cells5 HB.out.2.2).2.2.2.1
     go_wp2
     go_roundw
     case rel=>exact ⟨j+1,hlt,by go_num,HB,HGN,⟨fun hs=>⟨rfl,rfl,rfl,rfl,rfl,HS.out.2.2.1,HS.out.2.2.2,ad,ad2,rfl,rfl,by
      rw [HFO.out]
      have h1:=HO.out.1
      have h2:=HO.out.2.1
      obtain ⟨la,lb,lc,ld,_,_⟩:=HPQ.out
      rw [show mixQ i p.a q.a=List.zipWith (· + ·) p.a q.a by rw [← la];exact mixQ_all (by omega)] at h1
      rw [show mixQ i p.b q.b=List.zipWith (· + ·) p.b q.b by rw [← lb];exact mixQ_all (by omega)] at h2
      exact ⟨h1,h2,HO.out.2.2⟩⟩⟩⟩
     case measure=>simp [intOf];omega
  ·obtain rfl : j=Fs.length:=by omega
   have hlb : decide ((Fs.length : Int) < (Fs.length : Int))=false:=by simp
   have hsm : sumB Fs=true:=(sumB_iff HH0.out).mpr (fun i h=>by rw [HEH.out];exact HG.out i h h)
   have hg0:=HG.out 0 HH0.out HH0.out
   rw [HEH.out] at hg0
   have hall : ∀ F∈Fs,chkF F=true∧F.f0=H.f0∧F.f1=H.f1∧F.f2=H.f2:=fun F hF=>by
    obtain ⟨i,hi,rfl⟩:=List.mem_iff_getElem.mp hF
    have h2:=HG.out i hi hi
    unfold good at h2
    simp only [Bool.and_eq_true,beq_iff_eq] at h2
    exact ⟨h2.1.1.1,h2.1.1.2,h2.1.2,h2.2⟩
   have hs : szs H.f0 H.f1 H.f2=true:=by
    unfold good at hg0
    simp only [Bool.and_eq_true] at hg0
    exact (fits_of hg0.1.1.1).1
   have hM:=HM.out hs
   obtain ⟨rfl,rfl,rfl,eA,eB,lA,lB,ad,ad2,rfl,rfl,hrw⟩:=HN.out hs
   obtain rfl:=eA.symm
   obtain rfl:=eB.symm
   have hsum : foldQ M Fs Fs.length=sumQ (Fs.map qF):=by
    have hq : ∀ q∈Fs.map qF,(zeroQ M).add q=q:=fun q hq=>by
     obtain ⟨F,hF,rfl⟩:=List.mem_map.mp hq
     obtain ⟨c,e1,e2,e3⟩:=hall F hF
     exact zero_add hM (by rw [← e1,← e2,← e3];exact (fits_of c).2)
    unfold foldQ
    rw [show Fs.length=(Fs.map qF).length by rw [List.length_map],List.take_length]
    cases hl : Fs.map qF with
    | nil =>
     rw [List.map_eq_nil_iff] at hl
     have:=HH0.out
     rw [hl] at this
     exact absurd this (by decide)
    | cons a l =>
     rw [hl] at hq
     show l.foldl QF.add ((zeroQ M).add a)=l.foldl QF.add a
     rw [hq a (by simp)]
   rw [hsum] at hrw
   have HE:=Aside0.mk (And.intro hsm (And.intro hall (And.intro hs (And.intro hM (And.intro lA (And.intro lB hrw))))))
   clear hsm hg0 hall hs hM eA eB lA lB hrw hsum HN HG
   have q0:=cells5 HB.out.2.2
   have q1:=cells5 HB.out.2.1
   have q2:=free5 HB.out.2.1
   go_wp2
   refine bodyPost_ret (results_ct rfl _ _ w.heap.size 27 _ (0,0) _ rfl (put5 HB.out.2.1 (.int .i64 H.f0) (.int .i64 H.f1) (.int .i64 H.f2) (.slice (some ad) M kA) (.slice (some ad2) M kB)) Try.underlying27 rfl (by kernel_rfl)) rfl ?_
   exact ⟨low5 (g:=w.heap.size) HB.out.1 (Nat.le_refl _) _ _ _ _ _,.inr ⟨HE.out.1,H.f0,H.f1,H.f2,M,HE.out.2.2.1,HE.out.2.2.2.1,fun F hF=>(HE.out.2.1 F hF).2,ad,kA,ad2,kB,rfl,HE.out.2.2.2.2.1,HE.out.2.2.2.2.2.1,HE.out.2.2.2.2.2.2.tk (tk_set5 HB.out.2.1 (by decide) _ _ _ _ _ inferInstance)⟩⟩
end Go.Proofs.Ytjiaobcoeegioaa.Pq
end
section
namespace Go.Proofs.Ytjiaobcoeegioaa.Pq
open Go.RowKit Go.Proofs.YtjiaobcoeegioaaW.PrintWords Go.Proofs.YtjiaobcoeegioaaW.PrintLast Go.Proofs.YtjiaobcoeegioaaW.PrintMore Go.Proofs.Ytjiaobcoeegioaa.N
set_option linter.unusedVariables false
set_option linter.unusedSimpArgs false
theorem may_sum {Fs : List S27} {k : Int} : mayB Fs k=(decide (1≤Fs.length) && decide (Fs.length≤4096) && decide (1≤k) && decide (k≤64) && sumB Fs):=by
 cases Fs with
 | nil=>simp [mayB]
 | cons H R=>simp [mayB,sumB]
def Lens (Fs : List S27) : Prop:=∀ F∈Fs,F.f3.length < 4611686018427387904∧F.f4.length < 4611686018427387904
theorem sum20B {n0 : Nat} {Fs : List S27} (H : Parts Fs n0) (HL : Lens Fs) {A0 : Option Addr} {c0 : Nat} {w : World} (hr : Kd.C k27 w A0 Fs.length Fs) {b : Bool} (hb : sumB Fs=b) :
  Calls Try.prog 25 #[.slice A0 Fs.length c0] w fun e w'=>∃ fW fh fb A n c B m d,e=.returned (.tuple #[.agg #[.int .i64 fW,.int .i64 fh,.int .i64 fb,.slice A n c,.slice B m d],.bool b])∧Below w.heap.size w w':=by
 refine (sum20_sem H HL A0 c0 w hr).mono ?_
 subst hb
 rintro e w' ⟨hb,⟨h1,he⟩|⟨h1,W,h,b,M,_,_,_,ad,c,ad2,c2,he,_⟩⟩
 ·rw [h1]
  exact ⟨_,_,_,_,_,_,_,_,_,he,hb⟩
 ·rw [h1]
  exact ⟨_,_,_,_,_,_,_,_,_,he,hb⟩
set_option maxHeartbeats 4000000 in
set_option maxRecDepth 100000 in
theorem may_sem {n0 : Nat} {Fs : List S27} (H : Parts Fs n0) (HL : Lens Fs) (k : Int) {A0 : Option Addr} {c0 : Nat} {w : World} (hr : Kd.C k27 w A0 Fs.length Fs) {b : Bool} (hb : mayB Fs k=b) :
  Calls Try.prog 13 #[.slice A0 Fs.length c0,.int .i64 k] w fun e w'=>e=.returned (.bool b)∧Below w.heap.size w w':=by
 rw [may_sum] at hb
 have HP:=Aside0.mk (And.intro H (And.intro HL hr))
 have hmax : Fs.length≤9223372036854775807:=by have:=Kd.C_max hr;simpa using this
 clear H HL hr
 subst hb
 go_enter Try.func13,Try.ntmps13
 rcases Nat.lt_or_ge Fs.length 1 with h0|h0
 ·have cz : decide ((Fs.length : Int) < 1)=true:=decide_eq_true (by omega)
  rw [decide_eq_false (show ¬ 1≤Fs.length by omega),Bool.false_and,Bool.false_and,Bool.false_and,Bool.false_and]
  go_wp2
  go_ret
  exact ⟨rfl,Below.refl _ _⟩
 have cz : decide ((Fs.length : Int) < 1)=false:=decide_eq_false (by omega)
 rw [decide_eq_true h0,Bool.true_and]
 rcases Nat.lt_or_ge 4096 Fs.length with h1|h1
 ·have cz1 : decide (4096 < (Fs.length : Int))=true:=decide_eq_true (by omega)
  rw [decide_eq_false (show ¬ Fs.length≤4096 by omega),Bool.false_and,Bool.false_and,Bool.false_and]
  go_wp2
  go_ret
  exact ⟨rfl,Below.refl _ _⟩
 have cz1 : decide (4096 < (Fs.length : Int))=false:=decide_eq_false (by omega)
 rw [decide_eq_true (show Fs.length≤4096 from h1),Bool.true_and]
 rcases Int.lt_or_le k 1 with h2|h2
 ·have cz2 : decide (k < 1)=true:=decide_eq_true h2
  rw [decide_eq_false (show ¬ 1≤k by omega),Bool.false_and,Bool.false_and]
  go_wp2
  go_ret
  exact ⟨rfl,Below.refl _ _⟩
 have cz2 : decide (k < 1)=false:=decide_eq_false (by omega)
 rw [decide_eq_true h2,Bool.true_and]
 rcases Int.lt_or_le 64 k with h3|h3
 ·have cz3 : decide (64 < k)=true:=decide_eq_true h3
  rw [decide_eq_false (show ¬ k≤64 by omega),Bool.false_and]
  go_wp2
  go_ret
  exact ⟨rfl,Below.refl _ _⟩
 have cz3 : decide (64 < k)=false:=decide_eq_false (by omega)
 rw [decide_eq_true h3,Bool.true_and]
 obtain ⟨b,hb⟩ : ∃ b,sumB Fs=b:=⟨_,rfl⟩
 rw [hb]
 have HS:=Aside0.mk hb
 clear hb h0 h1 h2 h3
 go_wp2_with (first
  | (go_at_call 25;(with_reducible refine (sum20B HP.out.1 HP.out.2.1 HP.out.2.2 HS.out).mono ?_);rintro e w1 ⟨fW,fh,fb,A,n,c,B,m,d,rfl,hb⟩;have HB:=Aside0.mk hb;clear hb))
 go_ret
 exact ⟨rfl,below_alloc HB.out _⟩
end Go.Proofs.Ytjiaobcoeegioaa.Pq
end
section
namespace Go.Proofs.Ytjiaobcoeegioaa.Pq
open Go.RowKit Go.Proofs.YtjiaobcoeegioaaW.PrintWords Go.Proofs.YtjiaobcoeegioaaW.PrintLast Go.Proofs.YtjiaobcoeegioaaW.PrintMore Go.Proofs.Ytjiaobcoeegioaa.N
set_option linter.unusedVariables false
set_option linter.unusedSimpArgs false
theorem info4 : (Try.prog.info? 4).map (fun i=>(i.zero,i.size,i.bytes))=some (some (.bool false),1,1):=by kernel_rfl
def bls (bs : List Bool) : Array Value:=(bs.map Value.bool).toArray
theorem make36 {m : Nat} (hm : m≤4096) (W : World) : (Instr.makeSlice 36 (.int .i64 m) (.int .i64 m)).run Try.prog W=.ok (.slice (some ⟨W.heap.size,0,none⟩) m m) (W.alloc (.cells (bls (List.replicate m false)) 4)):=by
 have h:=print_make_of (P:=Try.prog) 36 4 (.bool false) 1 Try.underlying36 info4 rfl (by decide) m (by omega) W
 have e : madeCells #[Value.bool false] m=bls (List.replicate m false):=by
  unfold bls
  apply Array.ext
  ·simp [madeCells]
  ·intro i h1 h2
   simp [madeCells,Nat.mod_one]
 rw [h,e]
theorem bls_at {W : World} {g : Nat} {bs : List Bool} (h : W.heap[g]? = some (.cells (bls bs) 4 (0,0))) {d : Nat} (hd : d < bs.length) : W.cell? ⟨g,d,none⟩=some (.bool bs[d]) :=
 (blk_cell h d).trans (by unfold bls;simp [hd])
theorem bls_put {W : World} {g : Nat} {bs : List Bool} (h : W.heap[g]? = some (.cells (bls bs) 4 (0,0))) (d : Nat) (b : Bool) : (W.setCell ⟨g,d,none⟩ (.bool b)).heap[g]? = some (.cells (bls (bs.set d b)) 4 (0,0)) :=
 blk_put h d _ (by unfold bls;rw [List.setIfInBounds_toArray,List.map_set])
theorem sumAll {n0 : Nat} {Fs : List S27} {k : Int} (H : Parts Fs n0) (hm : mayB Fs k=true) {F : S27} (eF : resF Fs k=F) {A0 : Option Addr} {c0 : Nat} {w : World} (hr : Kd.C k27 w A0 Fs.length Fs) :
  Calls Try.prog 14 #[.slice A0 Fs.length c0] w fun e w'=>∃ A c B d,e=.returned (.tuple #[.agg #[.int .i64 F.f0,.int .i64 F.f1,.int .i64 F.f2,.slice A F.f3.length c,.slice B F.f4.length d],.bool true])∧F.f3.length≤c∧F.f4.length≤d∧Kd.C k63 w' A F.f3.length F.f3∧Kd.C k63 w' B F.f4.length F.f4∧Below w.heap.size w w':=by
 obtain ⟨h0,_,_,_,W,h,b,M,hs,hM,e,hq,hF⟩:=may_facts hm
 unfold resF at eF
 rw [hm,if_pos rfl,e] at eF
 have ht:=H.tot
 obtain ⟨qs,eqs⟩ : ∃ qs,Fs.map qF=qs:=⟨_,rfl⟩
 rw [eqs] at hq hF ht eF
 have hlen : qs.length=Fs.length:=by rw [← eqs,List.length_map]
 have hne : qs≠[]:=fun e=>by rw [e] at hlen;simp at hlen;omega
 have hr2 : Kd.C k27 w A0 qs.length (qs.map (mkF W h b)):=by rw [← hF,hlen];exact hr
 rw [← hlen]
 refine (filmsum_sem hs hM hq hne (by omega) A0 c0 w hr2).mono ?_
 rintro e w' ⟨ad,c,ad2,c2,rfl,lc,lc2,hrw,hb2⟩
 obtain ⟨n1,n2⟩:=q_len hM (sumQ_fits hne hq)
 have r1:=(ORow.reads hrw.a).2.now (W:=w')
 have r2:=(ORow.reads hrw.b).2.now (W:=w')
 subst eF
 dsimp only [mkF]
 refine ⟨some ad,c,some ad2,c2,?_,by rw [n1];exact lc,by rw [n2];exact lc2,r1,r2,hb2⟩
 rw [n1,n2]
theorem resD_all {Fs : List S27} {k : Int} (hm : mayB Fs k=true) (picks : List Int) : ∃ ds : List Nat,resD Fs k picks=ds.map Int.ofNat∧ds.length=Fs.length∧ds.Nodup ∧ ∀ d∈ds,d < Fs.length:=by
 obtain ⟨h0,_,h1,_,_⟩:=may_facts hm
 have hk : 0 < k.toNat:=by omega
 have hp:=done_all Fs.length k.toNat picks hk
 unfold resD
 rw [hm,if_pos rfl]
 exact ⟨_,rfl,done_length Fs.length k.toNat picks hk,hp.nodup_iff.mpr List.nodup_range,fun d hd=>List.mem_range.mp (hp.mem_iff.mp hd)⟩
theorem resD_none {Fs : List S27} {k : Int} (hm : mayB Fs k=false) (picks : List Int) : resD Fs k picks=[]∧resN Fs k=0:=by
 unfold resD resN
 rw [hm]
 exact ⟨rfl,rfl⟩
theorem resN_all {Fs : List S27} {k : Int} (hm : mayB Fs k=true) : resN Fs k=((4 * Fs.length : Nat) : Int):=by
 unfold resN
 rw [hm,if_pos rfl]
def marks (n : Nat) (ds : List Nat) : List Bool:=(List.range n).map fun t=>decide (t∈ds)
theorem marks_len (n : Nat) (ds : List Nat) : (marks n ds).length=n:=by unfold marks;rw [List.length_map,List.length_range]
theorem marks_at {n : Nat} {ds : List Nat} {d : Nat} (hd : d < (marks n ds).length) : (marks n ds)[d]=decide (d∈ds):=by
 simp [marks]
theorem marks_set {n : Nat} (ds : List Nat) (d : Nat) : (marks n ds).set d true=marks n (ds++[d]):=by
 apply List.ext_getElem
 ·rw [List.length_set,marks_len,marks_len]
 ·intro i h1 h2
  rw [List.getElem_set,marks_at h2]
  by_cases h : d=i
  ·subst h
   rw [if_pos rfl]
   simp
  ·rw [if_neg h,marks_at (by rw [List.length_set] at h1;exact h1)]
   have : i≠d:=fun e=>h e.symm
   simp [this]
theorem marks_nil (n : Nat) : marks n []=List.replicate n false:=by
 apply List.ext_getElem
 ·rw [marks_len,List.length_replicate]
 ·intro i h1 h2
  rw [marks_at h1,List.getElem_replicate]
  simp
set_option maxHeartbeats 4000000 in
set_option maxRecDepth 100000 in
theorem sums_walk {n0 : Nat} {Fs : List S27} (H : Parts Fs n0) (HL : Lens Fs) (k : Int) (hk0 : -9223372036854775808≤k∧k≤9223372036854775807) (A0 : Option Addr) (c0 : Nat) (w : World) (hr : Kd.C k27 w A0 Fs.length Fs) (picks : List Int) (Ap : Option Addr) (cp : Nat) (hp : (Kd.int .i64).C w Ap picks.length picks) :
  Calls Try.prog 4 #[.slice A0 Fs.length c0,.int .i64 k,.slice Ap picks.length cp] w fun e w'=>e=.returned (.bool true)∧Below w.heap.size w w':=by
 have hsm:=resF_small H k
 have HP:=Aside0.mk (And.intro H (And.intro hr (And.intro hp HL)))
 obtain ⟨F1,f1⟩ : ∃ z,resF Fs k=z:=⟨_,rfl⟩
 obtain ⟨D1,d1⟩ : ∃ z,resD Fs k picks=z:=⟨_,rfl⟩
 obtain ⟨N1,n1⟩ : ∃ z,resN Fs k=z:=⟨_,rfl⟩
 obtain ⟨o1,m1⟩ : ∃ z,mayB Fs k=z:=⟨_,rfl⟩
 rw [f1] at hsm
 have HS:=Aside0.mk hsm
 have HR1:=Aside0.mk (And.intro f1 (And.intro d1 (And.intro n1 m1)))
 clear H HL hr hp f1 d1 n1 m1 hsm
 go_enter Try.func4,Try.ntmps4
 go_upto_region 2 with (first
  | (go_at_call 9;(with_reducible refine (play_ans HP.out.1 k hk0 HP.out.2.1 HP.out.2.2.1 HR1.out.1 HR1.out.2.1 HR1.out.2.2.1 HR1.out.2.2.2).mono ?_);rintro e w1 ⟨A3,c3,A4,c4,Ad,cd,rfl,la,lb,g3,g4,ld,hd,hb⟩;have HF1:=Aside0.mk (And.intro la (And.intro lb (And.intro g3 g4)));have HD:=Aside0.mk (And.intro ld hd);have HB:=Aside0.mk hb;clear la lb g3 g4 ld hd hb))
 have hb:=below_alloc (Below.refl w1.heap.size w1) (.cells #[.int .i64 F1.f0,.int .i64 F1.f1,.int .i64 F1.f2,.slice A3 F1.f3.length c3,.slice A4 F1.f4.length c4] 27)
 replace HB:=Aside0.mk (below_step HB.out hb)
 replace HF1:=Aside0.mk (And.intro HF1.out.1 (And.intro HF1.out.2.1 (And.intro (Kd.C_below HF1.out.2.2.1 hb) (Kd.C_below HF1.out.2.2.2 hb))))
 replace HD:=Aside0.mk (And.intro HD.out.1 (Kd.C_below HD.out.2 hb))
 have BF1:=Aside0.mk (blk_new w1 (.cells #[.int .i64 F1.f0,.int .i64 F1.f1,.int .i64 F1.f2,.slice A3 F1.f3.length c3,.slice A4 F1.f4.length c4] 27))
 obtain ⟨wa,hwa⟩ : ∃ z,w1.alloc (.cells #[.int .i64 F1.f0,.int .i64 F1.f1,.int .i64 F1.f2,.slice A3 F1.f3.length c3,.slice A4 F1.f4.length c4] 27)=z:=⟨_,rfl⟩
 obtain ⟨G1,hG⟩ : ∃ z,w1.heap.size=z:=⟨_,rfl⟩
 rw [hwa] at HB HF1 HD BF1 ⊢
 rw [hG] at BF1 ⊢
 clear hwa hG hb
 rcases Nat.lt_or_ge 60 Fs.length with h1|h1
 ·have cz : decide (60 < (Fs.length : Int))=true:=decide_eq_true (by omega)
  have fx : ∀ w : World,Calls Try.prog 8 #[] w fun e w'=>e=.returned (.bool true)∧Below w.heap.size w w':=fixed_true
  have FX:=Aside0.mk fx
  clear fx
  go_wp2_with (first
   | (go_at_call 8;(with_reducible refine (FX.out _).mono ?_);rintro e w2 ⟨rfl,hb⟩;replace HB:=Aside0.mk (below_step HB.out hb);clear hb;clear FX)
   | (go_at_call 8;(with_reducible refine (fixed_true _).mono ?_);rintro e w3 ⟨rfl,hb⟩;replace HB:=Aside0.mk (below_step HB.out hb);clear hb))
  go_ret
  exact ⟨rfl,HB.out⟩
 have cz : decide (60 < (Fs.length : Int))=false:=decide_eq_false (by omega)
 cases o1
 ·obtain ⟨rfl,rfl⟩ : D1=[]∧N1=0:=by
   obtain ⟨e1,e2⟩:=resD_none HR1.out.2.2.2 picks
   exact ⟨by rw [← HR1.out.2.1,e1],by rw [← HR1.out.2.2.1,e2]⟩
  go_wp2_with (first
   | (go_at_call 8;(with_reducible refine (fixed_true _).mono ?_);rintro e w2 ⟨rfl,hb⟩;replace HB:=Aside0.mk (below_step HB.out hb);clear hb)
   | (go_at_call 13;(with_reducible refine (may_sem HP.out.1 HP.out.2.2.2 k (Kd.C_below HP.out.2.1 HB.out) HR1.out.2.2.2).mono ?_);rintro e w3 ⟨rfl,hb⟩;replace HB:=Aside0.mk (below_step HB.out hb);clear hb))
  go_ret
  exact ⟨rfl,HB.out⟩
 obtain ⟨ds,eds,lds,nds,bds⟩:=resD_all HR1.out.2.2.2 picks
 rw [HR1.out.2.1] at eds
 have eN : N1=((4 * Fs.length : Nat) : Int):=by rw [← HR1.out.2.2.1];exact resN_all HR1.out.2.2.2
 have hlD : D1.length=Fs.length:=by rw [eds,List.length_map,lds]
 have hrd : ∀ i (h : i < ds.length),rd D1 (i : Int)=(ds[i] : Nat):=fun i h=>by
  unfold rd
  rw [Int.toNat_natCast,eds,List.getD_eq_getElem?_getD,List.getElem?_map,List.getElem?_eq_getElem h]
  rfl
 have HDS:=Aside0.mk (show ds.length=Fs.length∧ds.Nodup∧(∀ d∈ds,d < Fs.length)∧(∀ i (h : i < ds.length),rd D1 (i : Int)=(ds[i] : Nat))∧N1=((4 * Fs.length : Nat) : Int)∧D1.length=Fs.length∧Fs.length≤60 from ⟨lds,nds,bds,hrd,eN,hlD,h1⟩)
 clear eds lds nds bds hrd eN hlD h1
 go_upto_region 7 with (first
  | (go_at_call 8;(with_reducible refine (fixed_true _).mono ?_);rintro e w2 ⟨rfl,hb⟩;replace HB:=Aside0.mk (below_step HB.out hb);replace HF1:=Aside0.mk (And.intro HF1.out.1 (And.intro HF1.out.2.1 (And.intro (Kd.C_below HF1.out.2.2.1 hb) (Kd.C_below HF1.out.2.2.2 hb))));replace HD:=Aside0.mk (And.intro HD.out.1 (Kd.C_below HD.out.2 hb));replace BF1:=Aside0.mk (blk_below BF1.out hb);clear hb)
  | (go_at_call 14;(with_reducible refine (sumAll HP.out.1 HR1.out.2.2.2 HR1.out.1 (Kd.C_below HP.out.2.1 HB.out)).mono ?_);rintro e w3 ⟨S3,s3,S4,s4,rfl,la,lb,g3,g4,hb⟩;have HF2:=Aside0.mk (And.intro la (And.intro lb (And.intro g3 g4)));replace HB:=Aside0.mk (below_step HB.out hb);replace HF1:=Aside0.mk (And.intro HF1.out.1 (And.intro HF1.out.2.1 (And.intro (Kd.C_below HF1.out.2.2.1 hb) (Kd.C_below HF1.out.2.2.2 hb))));replace HD:=Aside0.mk (And.intro HD.out.1 (Kd.C_below HD.out.2 hb));replace BF1:=Aside0.mk (blk_below BF1.out hb);clear la lb g3 g4 hb))
 have hb:=below_alloc (Below.refl w3.heap.size w3) (.cells #[.int .i64 F1.f0,.int .i64 F1.f1,.int .i64 F1.f2,.slice S3 F1.f3.length s3,.slice S4 F1.f4.length s4] 27)
 replace HB:=Aside0.mk (below_step HB.out hb)
 replace HF1:=Aside0.mk (And.intro HF1.out.1 (And.intro HF1.out.2.1 (And.intro (Kd.C_below HF1.out.2.2.1 hb) (Kd.C_below HF1.out.2.2.2 hb))))
 replace HD:=Aside0.mk (And.intro HD.out.1 (Kd.C_below HD.out.2 hb))
 replace BF1:=Aside0.mk (blk_below BF1.out hb)
 replace HF2:=Aside0.mk (And.intro HF2.out.1 (And.intro HF2.out.2.1 (And.intro (Kd.C_below HF2.out.2.2.1 hb) (Kd.C_below HF2.out.2.2.2 hb))))
 have BF2:=Aside0.mk (blk_new w3 (.cells #[.int .i64 F1.f0,.int .i64 F1.f1,.int .i64 F1.f2,.slice S3 F1.f3.length s3,.slice S4 F1.f4.length s4] 27))
 obtain ⟨wb,hwa⟩ : ∃ z,w3.alloc (.cells #[.int .i64 F1.f0,.int .i64 F1.f1,.int .i64 F1.f2,.slice S3 F1.f3.length s3,.slice S4 F1.f4.length s4] 27)=z:=⟨_,rfl⟩
 obtain ⟨G2,hG⟩ : ∃ z,w3.heap.size=z:=⟨_,rfl⟩
 rw [hwa] at HB HF1 HD BF1 HF2 BF2 ⊢
 rw [hG] at BF2 ⊢
 clear hwa hG hb
 clear cz
 have hmk:=make36 (m:=Fs.length) (by have:=HDS.out.2.2.2.2.2.2;omega)
 go_upto_region 8 with fail
 clear hmk
 have BM:=Aside0.mk (blk_new wb (.cells (bls (List.replicate Fs.length false)) 4))
 have HW:=Aside0.mk (below_alloc (Below.refl wb.heap.size wb) (.cells (bls (List.replicate Fs.length false)) 4))
 obtain ⟨wm,hwm⟩ : ∃ z,wb.alloc (.cells (bls (List.replicate Fs.length false)) 4)=z:=⟨_,rfl⟩
 obtain ⟨Gm,hG⟩ : ∃ z,wb.heap.size=z:=⟨_,rfl⟩
 have HGm : Aside0 (wb.heap.size≤Gm):=⟨Nat.le_of_eq hG⟩
 rw [hwm] at BM HW ⊢
 rw [hG] at BM ⊢
 rw [← marks_nil] at BM
 clear hwm hG
 go_wp2
 go_loopw [14] (fun x wr=>∃ i : Nat,i≤D1.length∧x=.int .i64 i∧Aside0 (Below wb.heap.size wb wr∧wr.heap[Gm]? = some (.cells (bls (marks Fs.length (ds.take i))) 4 (0,0)))) (fun x _=>D1.length - (intOf x).toNat)
 case atStart=>exact ⟨0,Nat.zero_le _,rfl,⟨HW.out,BM.out⟩⟩
 case round =>
  clear HW BM
  obtain ⟨i,hi,rfl,HI⟩:=hrel
  by_cases hil : i < D1.length
  ·have hil2 : decide ((i : Int) < (D1.length : Int))=true:=decide_eq_true (by omega)
   have hid : i < ds.length:=by have h1:=HDS.out.1;have h2:=HDS.out.2.2.2.2.2.1;omega
   obtain ⟨ad,e,hc⟩:=Kd.at_int (Kd.C_below HD.out.2 HI.out.1) (i : Int) (by omega) (by omega)
   subst e
   rw [HDS.out.2.2.2.1 i hid,Int.toNat_natCast] at hc
   have hdn : ds[i] < Fs.length:=HDS.out.2.2.1 _ (List.getElem_mem _)
   have hml : ds[i] < (marks Fs.length (ds.take i)).length:=by rw [marks_len];exact hdn
   have hs:=bls_at HI.out.2 hml
   have hnm : ds[i] ∉ ds.take i:=fun hm=>by
    obtain ⟨j,hj,ej⟩:=List.mem_iff_getElem.mp hm
    rw [List.length_take] at hj
    rw [List.getElem_take] at ej
    exact absurd ((List.getElem_inj HDS.out.2.1).mp ej) (by omega)
   rw [marks_at hml,decide_eq_false hnm] at hs
   have hfz:=blk_frozen HI.out.2 ds[i]
   have htk : ds.take (i+1)=ds.take i++[ds[i]]:=List.take_succ_eq_append_getElem hid
   obtain ⟨d,ed⟩ : ∃ d,ds[i]=d:=⟨_,rfl⟩
   rw [ed] at hc hdn hs hfz htk
   have HTK:=Aside0.mk htk
   have hi60 : i < 4096:=by have h1:=HDS.out.2.2.2.2.2.2;have h2:=HDS.out.2.2.2.2.2.1;omega
   have hn1 : decide ((Fs.length : Int)≤(d : Int))=false:=decide_eq_false (by omega)
   clear hid hml hnm ed htk
   go_wp2
   go_roundw
   case rel=>exact ⟨i+1,hil,by go_num,⟨HI.out.1.setCell (p:=⟨Gm,d,none⟩) HGm.out _,by rw [HTK.out,← marks_set];exact bls_put HI.out.2 d true⟩⟩
   case measure=>simp [intOf];omega
  ·obtain rfl : i=D1.length:=by omega
   have hil2 : decide ((D1.length : Int) < (D1.length : Int))=false:=by simp
   have hlD : ((D1.length : Int) == (Fs.length : Int))=true:=beq_iff_eq.mpr (by have:=HDS.out.2.2.2.2.2.1;omega)
   have hw4 : wrap64 (4 * (Fs.length : Int))=4 * (Fs.length : Int):=by have:=HDS.out.2.2.2.2.2.2;unfold wrap64;omega
   have hn4 : (N1 == 4 * (Fs.length : Int))=true:=beq_iff_eq.mpr (by have:=HDS.out.2.2.2.2.1;omega)
   have q1:=cells5 (blk_below BF1.out HI.out.1)
   have q2:=cells5 (blk_below BF2.out HI.out.1)
   have hb:=HI.out.1
   replace HF1:=Aside0.mk (And.intro HF1.out.1 (And.intro HF1.out.2.1 (And.intro (Kd.C_below HF1.out.2.2.1 hb) (Kd.C_below HF1.out.2.2.2 hb))))
   replace HF2:=Aside0.mk (And.intro HF2.out.1 (And.intro HF2.out.2.1 (And.intro (Kd.C_below HF2.out.2.2.1 hb) (Kd.C_below HF2.out.2.2.2 hb))))
   replace HB:=Aside0.mk (below_step HB.out hb)
   clear hb
   go_wp2_with (first
    | (go_at_call 11;(with_reducible refine (isF HS.out HF1.out.1 HF1.out.2.1 HF2.out.1 HF2.out.2.1 HF1.out.2.2.1 HF1.out.2.2.2 HF2.out.2.2.1 HF2.out.2.2.2).mono ?_);rintro e w5 ⟨rfl,hb⟩;replace HB:=Aside0.mk (below_step HB.out hb);clear hb))
   go_ret
   exact ⟨rfl,HB.out⟩
end Go.Proofs.Ytjiaobcoeegioaa.Pq
end
section
namespace Go.Proofs.Ytjiaobcoeegioaa.Pq
open Go.RowKit Go.Proofs.YtjiaobcoeegioaaW.PrintWords Go.Proofs.YtjiaobcoeegioaaW.PrintLast Go.Proofs.YtjiaobcoeegioaaW.PrintMore Go.Proofs.Ytjiaobcoeegioaa.N
set_option linter.unusedVariables false
set_option linter.unusedSimpArgs false
theorem wtR_sum (l : List S63) : l.length≤(l.map wtR).sum:=by
 induction l with
 | nil=>exact Nat.zero_le _
 | cons a l ih =>
  rw [List.length_cons,List.map_cons,List.sum_cons]
  have : 1≤wtR a:=by unfold wtR;omega
  omega
theorem open22L {H : Type} {enc : TypeId × Value→H} {W : World} {base : Nat} {spare : Nat→Bool} {held : Bool} {a : Option Addr} {len cap : Nat} {d : DataW H} {ps : List MemPlace} (hb : Rows.uptoBulk d≤1048576) (hd : DataW.Trod enc Try.prog W base spare held 22 (.slice a len cap) d ps) : ∃ Fs : List S27,len=Fs.length∧len≤cap∧Kd.C k27 W a Fs.length Fs∧Parts Fs 1048576∧Lens Fs:=by
 obtain ⟨fuel,hf⟩:=hd
 obtain ⟨Fs,⟨A,c,e,l,g⟩,hw,ho⟩:=op22 fuel _ _ hf
 simp [Value.cells] at e
 obtain ⟨rfl,rfl,rfl⟩:=e
 dsimp only at hw
 have hs : (Fs.map wtF).sum≤1048576:=Nat.le_trans hw hb
 refine ⟨Fs,rfl,l,g,⟨by decide,fun F hF=>wf_okF (ho F hF) (Nat.le_trans (sum_mem (f:=wtF) hF) hs),?_⟩,fun F hF=>?_⟩
 ·have h1:=tot_okF ho
  unfold tot
  omega
 ·have h1:=sum_mem (f:=wtF) hF
  have h2:=wtR_sum F.f3
  have h3:=wtR_sum F.f4
  unfold wtF at h1 hs
  exact ⟨by omega,by omega⟩
end Go.Proofs.Ytjiaobcoeegioaa.Pq
end
