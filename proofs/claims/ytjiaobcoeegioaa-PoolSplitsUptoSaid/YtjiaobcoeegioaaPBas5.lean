import Derived.Test.YtjiaobcoeegioaaPBas4
set_option linter.unusedVariables false
set_option linter.unusedSimpArgs false
section
namespace Go.Proofs.Ytjiaobcoeegioaa.Pq
open Go.RowKit Go.Proofs.YtjiaobcoeegioaaW.PrintWords Go.Proofs.YtjiaobcoeegioaaW.PrintLast Go.Proofs.YtjiaobcoeegioaaW.PrintMore Go.Proofs.Ytjiaobcoeegioaa.N
set_option linter.unusedVariables false
set_option linter.unusedSimpArgs false
namespace X
def pool_Play.T6 : Bool × List (List Nat × List Nat):=(true,[([],[]),([0],[0]),([1],[1]),([2,1],[2]),([3],[3]),([4,3],[3,4]),([3],[3]),([6,3],[3,6]),([7,3],[3,7]),([8,3],[3,8]),([5,9,3],[3,5,9]),([3,10],[3,10]),([11,3],[11]),([12],[12]),([13,12],[12,13]),([12],[12]),([15,12],[12,15]),([16,12],[12,16]),([17,12],[12,17]),([14,18,12],[12,14,18]),([12,19],[12,19]),([20,12],[20]),([21],[21]),([22,21],[21,22]),([21],[21]),([24,21],[21,24]),([25,21],[21,25]),([26,21],[21,26]),([23,27,21],[21,23,27]),([21,28],[21,28])])
def pool_Play.B6 : List Nat:=[0,1,3,7,15,31,15,79,207,463,1023,2047,4095,8191,16383,8191,40959,106495,237567,524287,1048575,2097151,4194303,8388607,4194303,20971519,54525951,121634815,268435455,536870911]
theorem pool_Play.tab6 : rtab .any (opsOf Try.f9 6)=pool_Play.T6:=by kernel_rfl
theorem pool_Play.bits6 : waitsOk pool_Play.T6.2 pool_Play.B6=true:=by kernel_rfl
def pool_Play.T10 : Bool × List (List Nat × List Nat):=(true,[([],[]),([],[]),([1],[1]),([2],[2]),([3],[3]),([],[]),([5],[5]),([6],[6]),([7],[7]),([],[]),([9],[9]),([10],[10]),([11],[11]),([4,8,12],[4,8,12]),([13],[13]),([14],[14]),([14],[14]),([0,0,1,2,3,4,5,6,7,8,9,10,11,12,13,14,15],[0]),([17,0,1,2,3,4,5,6,7,8,9,10,11,12,13,14,15],[17]),([18,15,13,0,1,2,3,4,5,6,7,8,9,10,11,12,13,14,15],[15,18])])
def pool_Play.B10 : List Nat:=[0,0,2,6,14,0,32,96,224,0,512,1536,3584,8190,16382,32766,32766,65535,196607,458751]
theorem pool_Play.tab10 : rtab .any (opsOf Try.f9 10)=pool_Play.T10:=by kernel_rfl
theorem pool_Play.bits10 : waitsOk pool_Play.T10.2 pool_Play.B10=true:=by kernel_rfl
def pool_Play.T15 : Bool × List (List Nat × List Nat):=(true,[([],[]),([0],[0]),([1],[1]),([2],[2]),([],[]),([4],[4]),([5],[5]),([6],[6]),([],[]),([3,0,1,2,3],[3]),([7,9,0,1,2,3,4,5,6,7,9],[7]),([8,10,0,1,2,3,4,5,6,7,8,9,10],[8]),([11,0,1,2,3,4,5,6,7,8,9,10,11],[])])
def pool_Play.B15 : List Nat:=[0,1,3,7,0,16,48,112,0,15,767,2047,4095]
theorem pool_Play.tab15 : rtab .any (opsOf Try.f9 15)=pool_Play.T15:=by kernel_rfl
theorem pool_Play.bits15 : waitsOk pool_Play.T15.2 pool_Play.B15=true:=by kernel_rfl
def pool_Play.T19 : Bool × List (List Nat × List Nat):=(true,[([],[]),([],[]),([1],[1]),([2],[2]),([3],[3]),([],[]),([],[]),([5,6],[5,6]),([7],[7]),([4,8],[4,8]),([0,9],[0,9])])
def pool_Play.B19 : List Nat:=[0,0,2,6,14,0,0,96,224,510,1023]
theorem pool_Play.tab19 : rtab .any (opsOf Try.f9 19)=pool_Play.T19:=by kernel_rfl
theorem pool_Play.bits19 : waitsOk pool_Play.T19.2 pool_Play.B19=true:=by kernel_rfl
end X
open X
def good (H F : S27) : Bool:=chkF F && (F.f0 == H.f0) && (F.f1 == H.f1) && (F.f2 == H.f2)
def mayB (Fs : List S27) (k : Int) : Bool :=
 match Fs with
|[]=>false
|H :: R=>decide ((H :: R).length≤4096) && decide (1≤k) && decide (k≤64) && (H :: R).all (good H)
theorem mayB_iff {Fs : List S27} {k : Int} (h0 : 0 < Fs.length) : mayB Fs k=true↔Fs.length≤4096∧1≤k∧k≤64 ∧ ∀ i (h : i < Fs.length),good Fs[0] Fs[i]=true:=by
 cases Fs with
|nil=>exact absurd h0 (Nat.lt_irrefl _)
|cons H R =>
  unfold mayB
  simp only [Bool.and_eq_true,decide_eq_true_eq,List.all_eq_true,List.getElem_cons_zero,and_assoc]
  refine and_congr_right fun _=>and_congr_right fun _=>and_congr_right fun _=>?_
  constructor
  ·intro h i hi
   exact h _ (List.getElem_mem _)
  ·intro h F hF
   obtain ⟨i,hi,rfl⟩:=List.mem_iff_getElem.mp hF
   exact h i hi
theorem at_film0 {Fs : List S27} {w : World} {A : Option Addr} {n : Nat} (hr : Kd.C k27 w A n Fs) {j : Nat} (hj : j < Fs.length) (hn : n=Fs.length) :
  ∃ ad A3 c3 A4 c4,A=some ad∧w.cell? (ad.add (j * 5))=some (.int .i64 Fs[j].f0)∧w.cell? ⟨(ad.add (j * 5)).block,(ad.add (j * 5)).off+1,none⟩=some (.int .i64 Fs[j].f1)∧w.cell? ⟨(ad.add (j * 5)).block,(ad.add (j * 5)).off+2,none⟩=some (.int .i64 Fs[j].f2) ∧
   w.cell? ⟨(ad.add (j * 5)).block,(ad.add (j * 5)).off+3,none⟩=some (.slice A3 Fs[j].f3.length c3)∧w.cell? ⟨(ad.add (j * 5)).block,(ad.add (j * 5)).off+4,none⟩=some (.slice A4 Fs[j].f4.length c4)∧Kd.C k63 w A3 Fs[j].f3.length Fs[j].f3∧Kd.C k63 w A4 Fs[j].f4.length Fs[j].f4:=by
 obtain ⟨ad,A3,c3,A4,c4,e,p0,p1,p2,p3,p4,l3,g3,l4,g4⟩:=at_T27 hr (j : Int) (by omega) (by omega)
 rw [Int.toNat_natCast] at p0 p1 p2 p3 p4
 have hx : rd_T27 Fs (j : Int)=Fs[j]:=by
  unfold rd_T27
  rw [Int.toNat_natCast,List.getD_eq_getElem?_getD,List.getElem?_eq_getElem hj]
  rfl
 rw [hx] at p0 p1 p2 p3 p4 g3 g4 l3 l4
 exact ⟨ad,A3,c3,A4,c4,e,p0,p1,p2,p3,p4,g3,g4⟩
theorem fcheckB {n : Nat} (hn : n < 10000000) (F : S27) (A3 : Option Addr) (c3 : Nat) (A4 : Option Addr) (c4 : Nat) (w : World) (h3 : Kd.C k63 w A3 F.f3.length F.f3) (h4 : Kd.C k63 w A4 F.f4.length F.f4) (hw : WfF n F) {b : Bool} (hb : chkF F=b) :
  Calls Try.prog 16 #[.agg #[.int .i64 F.f0,.int .i64 F.f1,.int .i64 F.f2,.slice A3 F.f3.length c3,.slice A4 F.f4.length c4]] w fun e w'=>e=.returned (.bool b)∧Below w.heap.size w w':=hb ▸ fcheck_sem hn F A3 c3 A4 c4 w h3 h4 hw
theorem info51 : (Try.prog.info? 51).map (fun i=>(i.zero,i.size,i.bytes))=some (some (.agg #[.int .i64 0,.int .i64 0]),2,16):=by kernel_rfl
theorem made51 (k : Nat) : (madeCells #[.int .i64 0,.int .i64 0] (k * 2))=(wcs (List.replicate k (0,0))).toArray:=by
 have e : wcs (List.replicate k (0,0))=List.replicate (k * 2) (.int .i64 0):=by
  induction k with
 |zero=>rfl
 |succ k ih =>
   rw [List.replicate_succ,show wcs ((0,0) :: List.replicate k (0,0))=.int .i64 (0 : Nat) :: .int .i64 (0 : Nat) :: wcs (List.replicate k (0,0)) from rfl,ih,show (k+1) * 2=k * 2+1+1 by omega,List.replicate_succ,List.replicate_succ]
   rfl
 rw [e]
 apply Array.ext
 ·simp [madeCells]
 ·intro i h1 h2
  have : i % 2=0∨i % 2=1:=by omega
  rcases this with h|h <;> simp [madeCells,h]
theorem make51 {k : Nat} (hk : k≤64) (W : World) : (Instr.makeSlice 43 (.int .i64 k) (.int .i64 k)).run Try.prog W=.ok (.slice (some ⟨W.heap.size,0,none⟩) k k) (W.alloc (.cells (wcs (List.replicate k (0,0))).toArray 51)):=by
 obtain ⟨i0,hi,hzz⟩:=Option.map_eq_some_iff.1 info51
 simp only [Prod.mk.injEq] at hzz
 obtain ⟨hz0,hz1,hz2⟩:=hzz
 have hr:=run_make (P:=Try.prog) (w:=W) 43 51 i0 (.agg #[.int .i64 0,.int .i64 0]) Try.underlying43 hi hz0 .i64 .i64 (k : Int) (k : Int) (by omega) (by omega) (by rw [hz2];omega) (by omega)
 simp only [Int.toNat_natCast] at hr
 rw [hz1] at hr
 rw [hr,← made51]
 rfl
theorem IRow.at {w : World} {base : Nat} {A : Option Addr} {n c : Nat} {xs : List Nat} (h : IRow w base (.slice A n c) (xs.map Int.ofNat)) {i : Nat} (hi : i < xs.length) : ∃ g,A=some ⟨g,0,none⟩∧w.cell? ⟨g,i,none⟩=some (.int .i64 (xs.getD i 0 : Nat)):=by
 rcases h.2 with ⟨_,h2⟩|⟨g,cap,cur,e,_⟩
 ·rw [List.length_map] at h2
  omega
 ·injection e with e1 _ _
  subst e1
  have h3:=World.slackRow.cells h (g:=g) rfl i (.int .i64 (xs.getD i 0 : Nat)) (by
   unfold nums
   rw [List.map_map,List.getElem?_map,List.getElem?_eq_getElem hi,List.getD_eq_getElem?_getD,List.getElem?_eq_getElem hi]
   rfl)
  rw [addz] at h3
  exact ⟨g,rfl,h3⟩
theorem pick_val (p : Int) {l : Nat} (h : 0 < l) (h2 : l≤64) : Int.tmod (wrap64 (Int.tmod p l+l)) l=((p % (l : Int)).toNat : Nat):=by
 have h3:=Int.tmod_lt_of_pos p (b:=(l : Int)) (by omega)
 have h4 : -(l : Int) < Int.tmod p l:=by
  have:=Int.tmod_lt_of_pos (-p) (b:=(l : Int)) (by omega)
  rw [Int.neg_tmod] at this
  omega
 have h5 : wrap64 (Int.tmod p l+l)=Int.tmod p l+l:=by unfold wrap64;omega
 have h6:=Int.emod_nonneg p (b:=(l : Int)) (by omega)
 rw [h5,Int.tmod_eq_emod_of_nonneg (by omega)]
 have h7 : (Int.tmod p l+l) % (l : Int)=p % l:=by
  rw [Int.add_emod_right]
  have h8:=Int.tmod_add_mul_tdiv p (l : Int)
  conv=>rhs;rw [← h8]
  rw [Int.add_mul_emod_self_left]
 rw [h7]
 omega
theorem ad_zero (ad : Addr) : ad.add (0 * 5)=ad:=by simp [Addr.add]
theorem enabled2 {w : World} {P : Nat} {v0 v1 v2 v3 v4 v9 : Value} {pA : Option Addr} {n pc : Nat} {s : PS} {qa : Addr} {k l : Nat} {en : List Nat} (hP : w.heap[P]? = some (.cells #[v0,v1,v2,v3,v4,.slice pA n pc,.int .i64 s.c,.bool s.l,.slice (some qa) k k,v9] 45 (0,0))) (hk : s.ws.length=k) (hk2 : k≤64) (hW : WRow w qa s.ws) (he : s.en n=en) (hl : en.length=l) :
  Calls Try.prog 18 #[.pointer (some ⟨P,0,none⟩)] w fun e w'=>∃ A c,e=.returned (.slice A l c)∧IRow w' w.heap.size (.slice A l c) (en.map Int.ofNat)∧Below w.heap.size w w':=by
 refine (enabled_sem hP hk hk2 hW).mono ?_
 rintro e w' ⟨v,rfl,hi,hb⟩
 obtain ⟨A,c,rfl⟩:=own_slice hi
 rw [he] at hi ⊢
 rw [List.length_map,hl] at hi ⊢
 exact ⟨A,c,rfl,hi,hb⟩
theorem zero_add {M : Nat} {q : QF} {W h b : Int} (hM : (M : Int)=W * h * b) (hf : q.fits W h b) : (zeroQ M).add q=q:=by
 have h1 : ∀ l : List Rat,l.length=M→List.zipWith (· + ·) (List.replicate M 0) l=l:=fun l hl=>by
  subst hl
  clear hM
  induction l with
 |nil=>rfl
 |cons a l ih=>rw [List.length_cons,List.replicate_succ,List.zipWith_cons_cons,ih,Rat.zero_add]
 unfold QF.add zeroQ
 obtain ⟨a,b⟩:=q
 dsimp only at hf ⊢
 rw [h1 a (by have:=hf.1;simp only at this;omega),h1 b (by have:=hf.2;simp only at this;omega)]
theorem zero_fits {M : Nat} {W h b : Int} (hM : (M : Int)=W * h * b) : (zeroQ M).fits W h b:=⟨by unfold zeroQ;simp [hM],by unfold zeroQ;simp [hM]⟩
theorem zero_sz (M : Nat) : (zeroQ M).sz≤1:=by
 unfold QF.sz zeroQ
 refine Nat.max_le.mpr ⟨szL_le fun q hq=>?_,szL_le fun q hq=>?_⟩ <;> · rw [List.eq_of_mem_replicate hq];exact sz1_zero
theorem PlaySt.below {w0 w w1 : World} {P : Nat} {qa : Addr} {W h b : Int} {M : Nat} {A0 : Option Addr} {n pc k : Nat} {s : PS} {q : QF} (H : PlaySt w0 w P qa W h b M A0 n pc k s q) (hb : Below w.heap.size w w1) : PlaySt w0 w1 P qa W h b M A0 n pc k s q:=by
 obtain ⟨ad,c,ad2,c2,dv,hp,l1,l2,hr,hd⟩:=H.ex
 exact ⟨below_step H.lo hb,H.pl,H.ql,⟨ad,c,ad2,c2,dv,blk_below hp hb,l1,l2,hr.below hb,pw_own_below hd hb⟩,H.wk.below hb⟩
theorem stepZ {w0 w : World} {P Q : Nat} {W h b : Int} {M : Nat} {A0 : Option Addr} {n pc k : Nat} {s : PS} {z : QF} {qs : List QF} (H : PlaySt w0 w P ⟨Q,0,none⟩ W h b M A0 n pc k s (filmOf z qs s.done)) (ok : s.Ok n k) {i : Nat} (hi : i < s.ws.length) (hs : szs W h b=true) (hM : (M : Int)=W * h * b) (hr : Kd.C k27 w0 A0 n (qs.map (mkF W h b))) (hn : n=qs.length) (hq : ∀ q∈qs,q.fits W h b) (hz : z.fits W h b) (hz1 : z.sz≤1) (ht : tot qs < 9000000) (hn4 : n≤4096) :
  Calls Try.prog 19 #[.pointer (some ⟨P,0,none⟩),.pointer (some ⟨Q,i * 2,none⟩)] w fun e w'=>e=.returned (.tuple #[])∧PlaySt w0 w' P ⟨Q,0,none⟩ W h b M A0 n pc k (s.step i) (filmOf z qs (s.step i).done):=by
 have h1:=step_sem H ok hi hs hM hr hn hq hz hz1 ht hn4
 rw [addz] at h1
 exact h1
def NoPlay (e : Ending) : Prop:=e=.returned (.tuple #[.agg #[.int .i64 0,.int .i64 0,.int .i64 0,.slice none 0 0,.slice none 0 0],.slice none 0 0,.int .i64 0,.bool false])
def Played (Fs : List S27) (k : Nat) (picks : List Int) (W h b : Int) (M : Nat) (w : World) (e : Ending) (w' : World) : Prop :=
 ∃ ad c ad2 c2 dv,e=.returned (.tuple #[.agg #[.int .i64 W,.int .i64 h,.int .i64 b,.slice (some ad) M c,.slice (some ad2) M c2],dv,.int .i64 ((4 * Fs.length : Nat) : Int),.bool true])∧M≤c∧M≤c2∧Rows w' w.heap.size (sumQ (Fs.map qF)) ad c ad2 c2∧IRow w' w.heap.size dv ((PS.after Fs.length k picks (4 * Fs.length)).done.map Int.ofNat)
set_option maxHeartbeats 4000000 in
set_option maxRecDepth 100000 in
theorem play_sem {n0 : Nat} {Fs : List S27} (hn0 : n0 < 10000000) (hw : ∀ F∈Fs,WfF n0 F) (k : Int) (hk0 : -9223372036854775808≤k∧k≤9223372036854775807) (hsz : tot (Fs.map qF) < 9000000) (A0 : Option Addr) (c0 : Nat) (w : World) (hr : Kd.C k27 w A0 Fs.length Fs) (picks : List Int) (Ap : Option Addr) (cp : Nat) (hp : (Kd.int .i64).C w Ap picks.length picks) :
  Calls Try.prog 9 #[.slice A0 Fs.length c0,.int .i64 k,.slice Ap picks.length cp] w fun e w'=>Below w.heap.size w w'∧((mayB Fs k=false∧NoPlay e)∨(mayB Fs k=true ∧ ∃ (W h b : Int) (M : Nat),szs W h b=true∧(M : Int)=W * h * b∧(∀ F∈Fs,F.f0=W∧F.f1=h∧F.f2=b)∧Played Fs k.toNat picks W h b M w e w')):=by
 have HR:=Aside0.mk hr
 have HP:=Aside0.mk hp
 have HW:=Aside0.mk hw
 have hmax : Fs.length≤9223372036854775807:=by have:=Kd.C_max hr;simpa using this
 clear hr hp hw
 go_enter Try.func9,Try.ntmps9
 rcases Nat.eq_zero_or_pos Fs.length with h0|h0
 ·have cz : ((Fs.length : Int) == 0)=true:=beq_iff_eq.mpr (by omega)
  have HZ : Aside0 (mayB Fs k=false):=⟨by rw [List.length_eq_zero_iff.mp h0];rfl⟩
  clear h0
  go_wp2
  obtain ⟨w1,hw1⟩ : ∃ z,w.alloc (.cells #[.int .i64 0,.int .i64 0,.int .i64 0,.slice none 0 0,.slice none 0 0] 27)=z:=⟨_,rfl⟩
  rw [hw1]
  have b0:=blk_new w (.cells #[.int .i64 0,.int .i64 0,.int .i64 0,.slice none 0 0,.slice none 0 0] 27)
  have b1:=below_alloc (Below.refl w.heap.size w) (.cells #[.int .i64 0,.int .i64 0,.int .i64 0,.slice none 0 0,.slice none 0 0] 27)
  rw [hw1] at b0 b1
  clear hw1
  refine bodyPost_ret (results_cttt rfl _ _ w.heap.size 27 _ (0,0) _ rfl b0 Try.underlying27 rfl (by kernel_rfl)) rfl ?_
  exact ⟨b1,.inl ⟨HZ.out,rfl⟩⟩
 have cz : ((Fs.length : Int) == 0)=false:=beq_eq_false_iff_ne.mpr (by omega)
 have H0:=Aside0.mk h0
 clear h0
 rcases Nat.lt_or_ge 4096 Fs.length with h1|h1
 ·have cz1 : decide (4096 < (Fs.length : Int))=true:=decide_eq_true (by omega)
  have HZ : Aside0 (mayB Fs k=false):=⟨by
   rw [← Bool.not_eq_true,mayB_iff H0.out]
   omega⟩
  clear h1
  go_wp2
  obtain ⟨w1,hw1⟩ : ∃ z,w.alloc (.cells #[.int .i64 0,.int .i64 0,.int .i64 0,.slice none 0 0,.slice none 0 0] 27)=z:=⟨_,rfl⟩
  rw [hw1]
  have b0:=blk_new w (.cells #[.int .i64 0,.int .i64 0,.int .i64 0,.slice none 0 0,.slice none 0 0] 27)
  have b1:=below_alloc (Below.refl w.heap.size w) (.cells #[.int .i64 0,.int .i64 0,.int .i64 0,.slice none 0 0,.slice none 0 0] 27)
  rw [hw1] at b0 b1
  clear hw1
  refine bodyPost_ret (results_cttt rfl _ _ w.heap.size 27 _ (0,0) _ rfl b0 Try.underlying27 rfl (by kernel_rfl)) rfl ?_
  exact ⟨b1,.inl ⟨HZ.out,rfl⟩⟩
 have cz1 : decide (4096 < (Fs.length : Int))=false:=decide_eq_false (by omega)
 have H1:=Aside0.mk h1
 clear h1
 rcases Int.lt_or_le k 1 with h2|h2
 ·have cz2 : decide (k < 1)=true:=decide_eq_true h2
  have HZ : Aside0 (mayB Fs k=false):=⟨by
   rw [← Bool.not_eq_true,mayB_iff H0.out]
   omega⟩
  clear h2
  go_wp2
  obtain ⟨w1,hw1⟩ : ∃ z,w.alloc (.cells #[.int .i64 0,.int .i64 0,.int .i64 0,.slice none 0 0,.slice none 0 0] 27)=z:=⟨_,rfl⟩
  rw [hw1]
  have b0:=blk_new w (.cells #[.int .i64 0,.int .i64 0,.int .i64 0,.slice none 0 0,.slice none 0 0] 27)
  have b1:=below_alloc (Below.refl w.heap.size w) (.cells #[.int .i64 0,.int .i64 0,.int .i64 0,.slice none 0 0,.slice none 0 0] 27)
  rw [hw1] at b0 b1
  clear hw1
  refine bodyPost_ret (results_cttt rfl _ _ w.heap.size 27 _ (0,0) _ rfl b0 Try.underlying27 rfl (by kernel_rfl)) rfl ?_
  exact ⟨b1,.inl ⟨HZ.out,rfl⟩⟩
 have cz2 : decide (k < 1)=false:=decide_eq_false (by omega)
 have H2:=Aside0.mk h2
 clear h2
 rcases Int.lt_or_le 64 k with h3|h3
 ·have cz3 : decide (64 < k)=true:=decide_eq_true h3
  have HZ : Aside0 (mayB Fs k=false):=⟨by
   rw [← Bool.not_eq_true,mayB_iff H0.out]
   omega⟩
  clear h3
  go_wp2
  obtain ⟨w1,hw1⟩ : ∃ z,w.alloc (.cells #[.int .i64 0,.int .i64 0,.int .i64 0,.slice none 0 0,.slice none 0 0] 27)=z:=⟨_,rfl⟩
  rw [hw1]
  have b0:=blk_new w (.cells #[.int .i64 0,.int .i64 0,.int .i64 0,.slice none 0 0,.slice none 0 0] 27)
  have b1:=below_alloc (Below.refl w.heap.size w) (.cells #[.int .i64 0,.int .i64 0,.int .i64 0,.slice none 0 0,.slice none 0 0] 27)
  rw [hw1] at b0 b1
  clear hw1
  refine bodyPost_ret (results_cttt rfl _ _ w.heap.size 27 _ (0,0) _ rfl b0 Try.underlying27 rfl (by kernel_rfl)) rfl ?_
  exact ⟨b1,.inl ⟨HZ.out,rfl⟩⟩
 have cz3 : decide (64 < k)=false:=decide_eq_false (by omega)
 have H3:=Aside0.mk h3
 clear h3
 go_wp2
 clear cz cz1 cz2 cz3
 go_loopw [35] (fun x wr=>∃ j : Nat,j≤Fs.length∧x=.int .i64 j∧Aside0 (Below w.heap.size w wr∧wr.heap[w.heap.size]? = some (.cells #[.int .i64 0,.int .i64 0,.int .i64 0,.slice none 0 0,.slice none 0 0] 27 (0,0)))∧Aside0 (∀ i (h : i < Fs.length),i < j→good (Fs[0]'H0.out) Fs[i]=true)) (fun x _=>Fs.length - (intOf x).toNat)
 case atStart=>exact ⟨0,Nat.zero_le _,rfl,⟨below_alloc (Below.refl _ _) _,blk_new _ _⟩,⟨fun i _ h=>absurd h (Nat.not_lt_zero _)⟩⟩
 case round =>
  obtain ⟨j,hj,rfl,HB,HG⟩:=hrel
  by_cases hlt : j < Fs.length
  ·have hlb : decide ((j : Int) < (Fs.length : Int))=true:=decide_eq_true (by omega)
   obtain ⟨ad,A3,c3,A4,c4,e1,p0,p1,p2,p3,p4,g3,g4⟩:=at_film0 HR.out hlt rfl
   obtain ⟨ad',_,_,_,_,e2,z0,z1,z2,_,_,_,_⟩:=at_film0 HR.out H0.out rfl
   rw [e1] at e2
   injection e2 with e2
   subst e1 e2
   replace p0:=keepc HB.out.1 p0
   replace p1:=keepc HB.out.1 p1
   replace p2:=keepc HB.out.1 p2
   replace p3:=keepc HB.out.1 p3
   replace p4:=keepc HB.out.1 p4
   rw [ad_zero] at z0 z1 z2
   replace z0:=keepc HB.out.1 z0
   replace z1:=keepc HB.out.1 z1
   replace z2:=keepc HB.out.1 z2
   have hf:=HW.out Fs[j] (List.getElem_mem _)
   have hgd : good (Fs[0]'H0.out) Fs[j]=true → ∀ i (h : i < Fs.length),i < j+1→good (Fs[0]'H0.out) Fs[i]=true:=fun hg i h hi=>by
    rcases Nat.lt_or_ge i j with hi2|hi2
    ·exact HG.out i h hi2
    ·obtain rfl : i=j:=by omega
     exact hg
   have hbd : good (Fs[0]'H0.out) Fs[j]=false→mayB Fs k=false:=fun hg=>by
    rw [← Bool.not_eq_true,mayB_iff H0.out]
    rintro ⟨_,_,_,h⟩
    exact absurd (h j hlt) (by rw [hg];exact Bool.false_ne_true)
   have HGB:=Aside0.mk (And.intro hgd hbd)
   obtain ⟨H,eH⟩ : ∃ z,Fs[0]'H0.out=z:=⟨_,rfl⟩
   rw [eH] at HGB z0 z1 z2
   obtain ⟨F,eF⟩ : ∃ z,Fs[j]=z:=⟨_,rfl⟩
   rw [eF] at HGB p0 p1 p2 p3 p4 g3 g4 hf
   have HF:=Aside0.mk hf
   have HEH:=Aside0.mk eH
   clear hgd hbd eF hf eH
   go_upto_region 6 with fail
   have HB1:=Aside0.mk (below_alloc HB.out.1 (.cells #[.int .i64 F.f0,.int .i64 F.f1,.int .i64 F.f2,.slice A3 F.f3.length c3,.slice A4 F.f4.length c4] 27))
   have B1:=Aside0.mk (blk_new wr (.cells #[.int .i64 F.f0,.int .i64 F.f1,.int .i64 F.f2,.slice A3 F.f3.length c3,.slice A4 F.f4.length c4] 27))
   have B0:=Aside0.mk (blk_alloc HB.out.2 (.cells #[.int .i64 F.f0,.int .i64 F.f1,.int .i64 F.f2,.slice A3 F.f3.length c3,.slice A4 F.f4.length c4] 27))
   have HWr:=below_alloc (Below.refl wr.heap.size wr) (.cells #[.int .i64 F.f0,.int .i64 F.f1,.int .i64 F.f2,.slice A3 F.f3.length c3,.slice A4 F.f4.length c4] 27)
   have HG3:=Aside0.mk (And.intro (Kd.C_below (Kd.C_below g3 HB.out.1) HWr) (Kd.C_below (Kd.C_below g4 HB.out.1) HWr))
   have HZ3:=Aside0.mk (And.intro (keepc HWr z0) (And.intro (keepc HWr z1) (keepc HWr z2)))
   clear p0 p1 p2 p3 p4 z0 z1 z2 g3 g4 HWr
   obtain ⟨w1,hw1⟩ : ∃ z,wr.alloc (.cells #[.int .i64 F.f0,.int .i64 F.f1,.int .i64 F.f2,.slice A3 F.f3.length c3,.slice A4 F.f4.length c4] 27)=z:=⟨_,rfl⟩
   rw [hw1] at HB1 B1 B0 HG3 HZ3 ⊢
   clear hw1
   obtain ⟨G,hG⟩ : ∃ z,wr.heap.size=z:=⟨_,rfl⟩
   rw [hG] at B1 ⊢
   clear hG
   rcases hc : chkF F with _|_
   ·have HC:=Aside0.mk hc
    have HZ : Aside0 (mayB Fs k=false):=⟨HGB.out.2 (by unfold good;rw [hc];simp)⟩
    clear hc
    have h0:=H0.out
    refine start_ (n:=30) (S:=fun w'=>w'.cell? ⟨G,0,none⟩=some (.int .i64 F.f0)∧w'.cell? ⟨G,1,none⟩=some (.int .i64 F.f1)∧w'.cell? ⟨G,2,none⟩=some (.int .i64 F.f2)∧w'.cell? ⟨G,3,none⟩=some (.slice A3 F.f3.length c3)∧w'.cell? ⟨G,4,none⟩=some (.slice A4 F.f4.length c4)∧w'.cell? ad=some (.int .i64 H.f0)∧w'.cell? ⟨ad.block,ad.off+1,none⟩=some (.int .i64 H.f1)∧w'.cell? ⟨ad.block,ad.off+2,none⟩=some (.int .i64 H.f2)) (ds:=[]) #[false,false,false,false,false,false,false,false,false,false,false,false,false,false,false,false,false,false,false,false,false,false,false,false,false,false,false,false,false,false] (by kernel_rfl) rfl rfl ⟨(cells5 B1.out).1,(cells5 B1.out).2.1,(cells5 B1.out).2.2.1,(cells5 B1.out).2.2.2.1,(cells5 B1.out).2.2.2.2,HZ3.out.1,HZ3.out.2.1,HZ3.out.2.2⟩ (fun hHeld=>?_)
    refine with_tabW pool_Play.tab6 pool_Play.bits6 (fun HT_ HW_=>?_)
    refine tq (i:=0) (N:=some 39) (v:=?_) (a':=?_) rfl rfl (take_ofW HT_.out HW_.out (by kernel_rfl)) hHeld (Or.inl ⟨by rfl,?_⟩) ?_ ?_
    rotate_left
    ·rintro w' ⟨s0,s1,s2,s3,s4,s5,s6,s7⟩
     go_simp
     with_reducible rfl
    rotate_left
    ·simp only [Act.put,s0,s1,s2,i64_w,i32_w]
     rfl
    refine one_ (i:=1) (N:=some 40) #[true,true,false,false,false,false,false,false,false,false,false,false,false,false,false,false,false,false,false,false,false,false,false,false,false,false,false,false,false,false] rfl rfl (one_of HT_.out (by kernel_rfl)) (by decide) (fun K hK=>?_)
    obtain ⟨wc,hwc⟩ : ∃ z,w1.drew=z:=⟨_,rfl⟩
    have HWc : Aside0 (Below w1.heap.size w1 wc):=⟨by rw [← hwc];exact below_drew1 (Below.refl _ _)⟩
    rw [hwc]
    clear hwc
    refine goes_ Try.func16 (by kernel_rfl) rfl #[.agg #[.int .i64 F.f0,.int .i64 F.f1,.int .i64 F.f2,.slice A3 F.f3.length c3,.slice A4 F.f4.length c4]] (by rfl) rfl rfl (by simp only [List.map_toArray,List.map_cons,List.map_nil];rfl) ?_
    with_reducible refine (fcheckB hn0 F A3 c3 A4 c4 wc (Kd.C_below HG3.out.1 HWc.out) (Kd.C_below HG3.out.2 HWc.out) HF.out HC.out).mono ?_
    rintro e w2 ⟨rfl,hb⟩
    refine ⟨_,rfl,?_⟩
    replace HWc:=Aside0.mk (below_step HWc.out hb)
    clear hb
    refine hK.out _ _ ⟨keepc HWc.out (cells5 B1.out).1,keepc HWc.out (cells5 B1.out).2.1,keepc HWc.out (cells5 B1.out).2.2.1,keepc HWc.out (cells5 B1.out).2.2.2.1,keepc HWc.out (cells5 B1.out).2.2.2.2,keepc HWc.out HZ3.out.1,keepc HWc.out HZ3.out.2.1,keepc HWc.out HZ3.out.2.2⟩ (fun hHeld=>?_)
    clear hK K
    refine norm_ (a':=?_) ?_ ?_
    rotate_left
    ·show Act.put _ (some 40) _=_
     simp only [Act.put,s0,s1,s2,i64_w,i32_w]
     rfl
    refine pq (i:=2) (N:=some 41) (v:=?_) (a':=?_) rfl rfl (any_of HT_.out (by kernel_rfl)) (Or.inl ⟨by rfl,?_⟩) ?_ ?_
    rotate_left
    ·intro w'
     go_simp
     with_reducible rfl
    rotate_left
    ·simp only [Act.put,s0,s1,s2,i64_w,i32_w]
     rfl
    refine pq (i:=3) (N:=some 42) (v:=?_) (a':=?_) rfl rfl (any_of HT_.out (by kernel_rfl)) (Or.inl ⟨by rfl,?_⟩) ?_ ?_
    rotate_left
    ·intro w'
     go_simp
     with_reducible rfl
    rotate_left
    ·simp only [Act.put,s0,s1,s2,i64_w,i32_w]
     rfl
    refine pure_ (i:=4) (N:=some 43) (v:=undef) (a':=?_) #[true,true,true,true,true,false,false,false,false,false,false,false,false,false,false,false,false,false,false,false,false,false,false,false,false,false,false,false,false,false] rfl rfl (any_of HT_.out (by kernel_rfl)) (fun _ _ _ h=>h) (Or.inr ⟨by rfl,rfl⟩) ?_ ?_
    rotate_left
    ·simp only [Act.put,s0,s1,s2,i64_w,i32_w]
     rfl
    refine pure_ (i:=5) (N:=some 44) (v:=undef) (a':=?_) #[true,true,true,true,true,true,false,false,false,false,false,false,false,false,false,false,false,false,false,false,false,false,false,false,false,false,false,false,false,false] rfl rfl (any_of HT_.out (by kernel_rfl)) (fun _ _ _ h=>h) (Or.inr ⟨by rfl,rfl⟩) ?_ ?_
    rotate_left
    ·simp only [Act.put,s0,s1,s2,i64_w,i32_w]
     rfl
    refine pure_ (i:=6) (N:=some 45) (v:=undef) (a':=?_) #[true,true,true,true,true,true,true,false,false,false,false,false,false,false,false,false,false,false,false,false,false,false,false,false,false,false,false,false,false,false] rfl rfl (any_of HT_.out (by kernel_rfl)) (fun _ _ _ h=>h) (Or.inr ⟨by rfl,rfl⟩) ?_ ?_
    rotate_left
    ·simp only [Act.put,s0,s1,s2,i64_w,i32_w]
     rfl
    refine pure_ (i:=7) (N:=some 46) (v:=undef) (a':=?_) #[true,true,true,true,true,true,true,true,false,false,false,false,false,false,false,false,false,false,false,false,false,false,false,false,false,false,false,false,false,false] rfl rfl (any_of HT_.out (by kernel_rfl)) (fun _ _ _ h=>h) (Or.inr ⟨by rfl,rfl⟩) ?_ ?_
    rotate_left
    ·simp only [Act.put,s0,s1,s2,i64_w,i32_w]
     rfl
    refine pure_ (i:=8) (N:=some 47) (v:=undef) (a':=?_) #[true,true,true,true,true,true,true,true,true,false,false,false,false,false,false,false,false,false,false,false,false,false,false,false,false,false,false,false,false,false] rfl rfl (any_of HT_.out (by kernel_rfl)) (fun _ _ _ h=>h) (Or.inr ⟨by rfl,rfl⟩) ?_ ?_
    rotate_left
    ·simp only [Act.put,s0,s1,s2,i64_w,i32_w]
     rfl
    refine pure_ (i:=9) (N:=some 48) (v:=undef) (a':=?_) #[true,true,true,true,true,true,true,true,true,true,false,false,false,false,false,false,false,false,false,false,false,false,false,false,false,false,false,false,false,false] rfl rfl (any_of HT_.out (by kernel_rfl)) (fun _ _ _ h=>h) (Or.inr ⟨by rfl,rfl⟩) ?_ ?_
    rotate_left
    ·simp only [Act.put,s0,s1,s2,i64_w,i32_w]
     rfl
    refine pure_ (i:=10) (N:=some 49) (v:=undef) (a':=?_) #[true,true,true,true,true,true,true,true,true,true,true,false,false,false,false,false,false,false,false,false,false,false,false,false,false,false,false,false,false,false] rfl rfl (any_of HT_.out (by kernel_rfl)) (fun _ _ _ h=>h) (Or.inr ⟨by rfl,rfl⟩) ?_ ?_
    rotate_left
    ·simp only [Act.put,s0,s1,s2,i64_w,i32_w]
     rfl
    refine pq (i:=11) (N:=some 50) (v:=?_) (a':=?_) rfl rfl (any_of HT_.out (by kernel_rfl)) (Or.inl ⟨by rfl,?_⟩) ?_ ?_
    rotate_left
    ·intro w'
     go_simp
     with_reducible rfl
    rotate_left
    ·simp only [Act.put,s0,s1,s2,i64_w,i32_w]
     rfl
    refine pq (i:=12) (N:=some 51) (v:=?_) (a':=?_) rfl rfl (any_of HT_.out (by kernel_rfl)) (Or.inl ⟨by rfl,?_⟩) ?_ ?_
    rotate_left
    ·intro w'
     go_simp
     with_reducible rfl
    rotate_left
    ·simp only [Act.put,s0,s1,s2,i64_w,i32_w]
     rfl
    refine pure_ (i:=13) (N:=some 52) (v:=undef) (a':=?_) #[true,true,true,true,true,true,true,true,true,true,true,true,true,true,false,false,false,false,false,false,false,false,false,false,false,false,false,false,false,false] rfl rfl (any_of HT_.out (by kernel_rfl)) (fun _ _ _ h=>h) (Or.inr ⟨by rfl,rfl⟩) ?_ ?_
    rotate_left
    ·simp only [Act.put,s0,s1,s2,i64_w,i32_w]
     rfl
    refine pure_ (i:=14) (N:=some 53) (v:=undef) (a':=?_) #[true,true,true,true,true,true,true,true,true,true,true,true,true,true,true,false,false,false,false,false,false,false,false,false,false,false,false,false,false,false] rfl rfl (any_of HT_.out (by kernel_rfl)) (fun _ _ _ h=>h) (Or.inr ⟨by rfl,rfl⟩) ?_ ?_
    rotate_left
    ·simp only [Act.put,s0,s1,s2,i64_w,i32_w]
     rfl
    refine pure_ (i:=15) (N:=some 54) (v:=undef) (a':=?_) #[true,true,true,true,true,true,true,true,true,true,true,true,true,true,true,true,false,false,false,false,false,false,false,false,false,false,false,false,false,false] rfl rfl (any_of HT_.out (by kernel_rfl)) (fun _ _ _ h=>h) (Or.inr ⟨by rfl,rfl⟩) ?_ ?_
    rotate_left
    ·simp only [Act.put,s0,s1,s2,i64_w,i32_w]
     rfl
    refine pure_ (i:=16) (N:=some 55) (v:=undef) (a':=?_) #[true,true,true,true,true,true,true,true,true,true,true,true,true,true,true,true,true,false,false,false,false,false,false,false,false,false,false,false,false,false] rfl rfl (any_of HT_.out (by kernel_rfl)) (fun _ _ _ h=>h) (Or.inr ⟨by rfl,rfl⟩) ?_ ?_
    rotate_left
    ·simp only [Act.put,s0,s1,s2,i64_w,i32_w]
     rfl
    refine pure_ (i:=17) (N:=some 56) (v:=undef) (a':=?_) #[true,true,true,true,true,true,true,true,true,true,true,true,true,true,true,true,true,true,false,false,false,false,false,false,false,false,false,false,false,false] rfl rfl (any_of HT_.out (by kernel_rfl)) (fun _ _ _ h=>h) (Or.inr ⟨by rfl,rfl⟩) ?_ ?_
    rotate_left
    ·simp only [Act.put,s0,s1,s2,i64_w,i32_w]
     rfl
    refine pure_ (i:=18) (N:=some 57) (v:=undef) (a':=?_) #[true,true,true,true,true,true,true,true,true,true,true,true,true,true,true,true,true,true,true,false,false,false,false,false,false,false,false,false,false,false] rfl rfl (any_of HT_.out (by kernel_rfl)) (fun _ _ _ h=>h) (Or.inr ⟨by rfl,rfl⟩) ?_ ?_
    rotate_left
    ·simp only [Act.put,s0,s1,s2,i64_w,i32_w]
     rfl
    refine pure_ (i:=19) (N:=some 58) (v:=undef) (a':=?_) #[true,true,true,true,true,true,true,true,true,true,true,true,true,true,true,true,true,true,true,true,false,false,false,false,false,false,false,false,false,false] rfl rfl (any_of HT_.out (by kernel_rfl)) (fun _ _ _ h=>h) (Or.inr ⟨by rfl,rfl⟩) ?_ ?_
    rotate_left
    ·simp only [Act.put,s0,s1,s2,i64_w,i32_w]
     rfl
    refine pq (i:=20) (N:=some 59) (v:=?_) (a':=?_) rfl rfl (any_of HT_.out (by kernel_rfl)) (Or.inl ⟨by rfl,?_⟩) ?_ ?_
    rotate_left
    ·intro w'
     go_simp
     with_reducible rfl
    rotate_left
    ·simp only [Act.put,s0,s1,s2,i64_w,i32_w]
     rfl
    refine pq (i:=21) (N:=some 60) (v:=?_) (a':=?_) rfl rfl (any_of HT_.out (by kernel_rfl)) (Or.inl ⟨by rfl,?_⟩) ?_ ?_
    rotate_left
    ·intro w'
     go_simp
     with_reducible rfl
    rotate_left
    ·simp only [Act.put,s0,s1,s2,i64_w,i32_w]
     rfl
    refine pure_ (i:=22) (N:=some 61) (v:=undef) (a':=?_) #[true,true,true,true,true,true,true,true,true,true,true,true,true,true,true,true,true,true,true,true,true,true,true,false,false,false,false,false,false,false] rfl rfl (any_of HT_.out (by kernel_rfl)) (fun _ _ _ h=>h) (Or.inr ⟨by rfl,rfl⟩) ?_ ?_
    rotate_left
    ·simp only [Act.put,s0,s1,s2,i64_w,i32_w]
     rfl
    refine pure_ (i:=23) (N:=some 62) (v:=undef) (a':=?_) #[true,true,true,true,true,true,true,true,true,true,true,true,true,true,true,true,true,true,true,true,true,true,true,true,false,false,false,false,false,false] rfl rfl (any_of HT_.out (by kernel_rfl)) (fun _ _ _ h=>h) (Or.inr ⟨by rfl,rfl⟩) ?_ ?_
    rotate_left
    ·simp only [Act.put,s0,s1,s2,i64_w,i32_w]
     rfl
    refine pure_ (i:=24) (N:=some 63) (v:=undef) (a':=?_) #[true,true,true,true,true,true,true,true,true,true,true,true,true,true,true,true,true,true,true,true,true,true,true,true,true,false,false,false,false,false] rfl rfl (any_of HT_.out (by kernel_rfl)) (fun _ _ _ h=>h) (Or.inr ⟨by rfl,rfl⟩) ?_ ?_
    rotate_left
    ·simp only [Act.put,s0,s1,s2,i64_w,i32_w]
     rfl
    refine pure_ (i:=25) (N:=some 64) (v:=undef) (a':=?_) #[true,true,true,true,true,true,true,true,true,true,true,true,true,true,true,true,true,true,true,true,true,true,true,true,true,true,false,false,false,false] rfl rfl (any_of HT_.out (by kernel_rfl)) (fun _ _ _ h=>h) (Or.inr ⟨by rfl,rfl⟩) ?_ ?_
    rotate_left
    ·simp only [Act.put,s0,s1,s2,i64_w,i32_w]
     rfl
    refine pure_ (i:=26) (N:=some 65) (v:=undef) (a':=?_) #[true,true,true,true,true,true,true,true,true,true,true,true,true,true,true,true,true,true,true,true,true,true,true,true,true,true,true,false,false,false] rfl rfl (any_of HT_.out (by kernel_rfl)) (fun _ _ _ h=>h) (Or.inr ⟨by rfl,rfl⟩) ?_ ?_
    rotate_left
    ·simp only [Act.put,s0,s1,s2,i64_w,i32_w]
     rfl
    refine pure_ (i:=27) (N:=some 66) (v:=undef) (a':=?_) #[true,true,true,true,true,true,true,true,true,true,true,true,true,true,true,true,true,true,true,true,true,true,true,true,true,true,true,true,false,false] rfl rfl (any_of HT_.out (by kernel_rfl)) (fun _ _ _ h=>h) (Or.inr ⟨by rfl,rfl⟩) ?_ ?_
    rotate_left
    ·simp only [Act.put,s0,s1,s2,i64_w,i32_w]
     rfl
    refine pure_ (i:=28) (N:=some 67) (v:=undef) (a':=?_) #[true,true,true,true,true,true,true,true,true,true,true,true,true,true,true,true,true,true,true,true,true,true,true,true,true,true,true,true,true,false] rfl rfl (any_of HT_.out (by kernel_rfl)) (fun _ _ _ h=>h) (Or.inr ⟨by rfl,rfl⟩) ?_ ?_
    rotate_left
    ·simp only [Act.put,s0,s1,s2,i64_w,i32_w]
     rfl
    refine pq (i:=29) (N:=some 68) (v:=?_) (a':=?_) rfl rfl (any_of HT_.out (by kernel_rfl)) (Or.inl ⟨by rfl,?_⟩) ?_ ?_
    rotate_left
    ·intro w'
     go_simp
     with_reducible rfl
    rotate_left
    ·simp only [Act.put,s0,s1,s2,i64_w,i32_w]
     rfl
    refine done_ (done_of HT_.out (by kernel_rfl)) ?_
    have B02:=Aside0.mk (blk_below B0.out HWc.out)
    have HB2:=Aside0.mk (below_step HB1.out HWc.out)
    have q0:=cells5 B02.out
    have q1:=free5 B02.out
    clear hHeld
    go_wp2
    refine bodyPost_ret (results_cttt rfl _ _ w.heap.size 27 _ (0,0) _ rfl (put5 B02.out (.int .i64 0) (.int .i64 0) (.int .i64 0) (.slice none 0 0) (.slice none 0 0)) Try.underlying27 rfl (by kernel_rfl)) rfl ?_
    exact ⟨low5 (g:=w.heap.size) HB2.out (Nat.le_refl _) (.int .i64 0) (.int .i64 0) (.int .i64 0) (.slice none 0 0) (.slice none 0 0),.inl ⟨HZ.out,rfl⟩⟩
   have HC:=Aside0.mk hc
   clear hc
   rcases Bool.eq_false_or_eq_true (F.f0 != H.f0) with hc0|hc0
   ·have HZ : Aside0 (mayB Fs k=false):=⟨HGB.out.2 (by unfold good;rw [show (F.f0 == H.f0)=false by simpa [bne] using hc0];simp)⟩
    skip
    have h0:=H0.out
    refine start_ (n:=30) (S:=fun w'=>w'.cell? ⟨G,0,none⟩=some (.int .i64 F.f0)∧w'.cell? ⟨G,1,none⟩=some (.int .i64 F.f1)∧w'.cell? ⟨G,2,none⟩=some (.int .i64 F.f2)∧w'.cell? ⟨G,3,none⟩=some (.slice A3 F.f3.length c3)∧w'.cell? ⟨G,4,none⟩=some (.slice A4 F.f4.length c4)∧w'.cell? ad=some (.int .i64 H.f0)∧w'.cell? ⟨ad.block,ad.off+1,none⟩=some (.int .i64 H.f1)∧w'.cell? ⟨ad.block,ad.off+2,none⟩=some (.int .i64 H.f2)) (ds:=[]) #[false,false,false,false,false,false,false,false,false,false,false,false,false,false,false,false,false,false,false,false,false,false,false,false,false,false,false,false,false,false] (by kernel_rfl) rfl rfl ⟨(cells5 B1.out).1,(cells5 B1.out).2.1,(cells5 B1.out).2.2.1,(cells5 B1.out).2.2.2.1,(cells5 B1.out).2.2.2.2,HZ3.out.1,HZ3.out.2.1,HZ3.out.2.2⟩ (fun hHeld=>?_)
    refine with_tabW pool_Play.tab6 pool_Play.bits6 (fun HT_ HW_=>?_)
    refine tq (i:=0) (N:=some 39) (v:=?_) (a':=?_) rfl rfl (take_ofW HT_.out HW_.out (by kernel_rfl)) hHeld (Or.inl ⟨by rfl,?_⟩) ?_ ?_
    rotate_left
    ·rintro w' ⟨s0,s1,s2,s3,s4,s5,s6,s7⟩
     go_simp
     with_reducible rfl
    rotate_left
    ·simp only [Act.put,s0,s1,s2,i64_w,i32_w]
     rfl
    refine one_ (i:=1) (N:=some 40) #[true,true,false,false,false,false,false,false,false,false,false,false,false,false,false,false,false,false,false,false,false,false,false,false,false,false,false,false,false,false] rfl rfl (one_of HT_.out (by kernel_rfl)) (by decide) (fun K hK=>?_)
    obtain ⟨wc,hwc⟩ : ∃ z,w1.drew=z:=⟨_,rfl⟩
    have HWc : Aside0 (Below w1.heap.size w1 wc):=⟨by rw [← hwc];exact below_drew1 (Below.refl _ _)⟩
    rw [hwc]
    clear hwc
    refine goes_ Try.func16 (by kernel_rfl) rfl #[.agg #[.int .i64 F.f0,.int .i64 F.f1,.int .i64 F.f2,.slice A3 F.f3.length c3,.slice A4 F.f4.length c4]] (by rfl) rfl rfl (by simp only [List.map_toArray,List.map_cons,List.map_nil];rfl) ?_
    with_reducible refine (fcheckB hn0 F A3 c3 A4 c4 wc (Kd.C_below HG3.out.1 HWc.out) (Kd.C_below HG3.out.2 HWc.out) HF.out HC.out).mono ?_
    rintro e w2 ⟨rfl,hb⟩
    refine ⟨_,rfl,?_⟩
    replace HWc:=Aside0.mk (below_step HWc.out hb)
    clear hb
    refine hK.out _ _ ⟨keepc HWc.out (cells5 B1.out).1,keepc HWc.out (cells5 B1.out).2.1,keepc HWc.out (cells5 B1.out).2.2.1,keepc HWc.out (cells5 B1.out).2.2.2.1,keepc HWc.out (cells5 B1.out).2.2.2.2,keepc HWc.out HZ3.out.1,keepc HWc.out HZ3.out.2.1,keepc HWc.out HZ3.out.2.2⟩ (fun hHeld=>?_)
    clear hK K
    refine norm_ (a':=?_) ?_ ?_
    rotate_left
    ·show Act.put _ (some 40) _=_
     simp only [Act.put,s0,s1,s2,i64_w,i32_w]
     rfl
    refine pq (i:=2) (N:=some 41) (v:=?_) (a':=?_) rfl rfl (any_of HT_.out (by kernel_rfl)) (Or.inl ⟨by rfl,?_⟩) ?_ ?_
    rotate_left
    ·intro w'
     go_simp
     with_reducible rfl
    rotate_left
    ·simp only [Act.put,s0,s1,s2,i64_w,i32_w]
     rfl
    refine pq (i:=3) (N:=some 42) (v:=?_) (a':=?_) rfl rfl (any_of HT_.out (by kernel_rfl)) (Or.inl ⟨by rfl,?_⟩) ?_ ?_
    rotate_left
    ·intro w'
     go_simp
     with_reducible rfl
    rotate_left
    ·simp only [Act.put,s0,s1,s2,i64_w,i32_w]
     rfl
    refine pq (i:=4) (N:=some 43) (v:=?_) (a':=?_) rfl rfl (any_of HT_.out (by kernel_rfl)) (Or.inl ⟨by rfl,?_⟩) ?_ ?_
    rotate_left
    ·intro w'
     go_simp
     with_reducible rfl
    rotate_left
    ·simp only [Act.put,s0,s1,s2,i64_w,i32_w]
     rfl
    refine pq (i:=6) (N:=some 45) (v:=?_) (a':=?_) rfl rfl (any_of HT_.out (by kernel_rfl)) (Or.inl ⟨by rfl,?_⟩) ?_ ?_
    rotate_left
    ·intro w'
     go_simp
     with_reducible rfl
    rotate_left
    ·simp only [Act.put,s0,s1,s2,i64_w,i32_w]
     rfl
    refine pq (i:=7) (N:=some 46) (v:=?_) (a':=?_) rfl rfl (any_of HT_.out (by kernel_rfl)) (Or.inl ⟨by rfl,?_⟩) ?_ ?_
    rotate_left
    ·intro w'
     go_simp
     with_reducible rfl
    rotate_left
    ·simp only [Act.put,s0,s1,s2,i64_w,i32_w]
     rfl
    refine pq (i:=8) (N:=some 47) (v:=?_) (a':=?_) rfl rfl (any_of HT_.out (by kernel_rfl)) (Or.inl ⟨by rfl,?_⟩) ?_ ?_
    rotate_left
    ·intro w'
     go_simp
     with_reducible rfl
    rotate_left
    ·simp only [Act.put,s0,s1,s2,i64_w,i32_w]
     rfl
    refine tq (i:=5) (N:=some 44) (v:=?_) (a':=?_) rfl rfl (take_ofW HT_.out HW_.out (by kernel_rfl)) hHeld (Or.inl ⟨by rfl,?_⟩) ?_ ?_
    rotate_left
    ·rintro w' ⟨s0,s1,s2,s3,s4,s5,s6,s7⟩
     go_simp
     with_reducible rfl
    rotate_left
    ·simp only [Act.put,s0,s1,s2,i64_w,i32_w]
     rfl
    refine tq (i:=9) (N:=some 48) (v:=?_) (a':=?_) rfl rfl (take_ofW HT_.out HW_.out (by kernel_rfl)) hHeld (Or.inl ⟨by rfl,?_⟩) ?_ ?_
    rotate_left
    ·rintro w' ⟨s0,s1,s2,s3,s4,s5,s6,s7⟩
     go_simp
     with_reducible rfl
    rotate_left
    ·simp only [Act.put,s0,s1,s2,i64_w,i32_w]
     rfl
    refine pq (i:=10) (N:=some 49) (v:=?_) (a':=?_) rfl rfl (any_of HT_.out (by kernel_rfl)) (Or.inl ⟨by rfl,?_⟩) ?_ ?_
    rotate_left
    ·intro w'
     go_simp
     with_reducible rfl
    rotate_left
    ·simp only [Act.put,s0,s1,s2,i64_w,i32_w]
     rfl
    refine pq (i:=11) (N:=some 50) (v:=?_) (a':=?_) rfl rfl (any_of HT_.out (by kernel_rfl)) (Or.inl ⟨by rfl,?_⟩) ?_ ?_
    rotate_left
    ·intro w'
     go_simp
     with_reducible rfl
    rotate_left
    ·simp only [Act.put,s0,s1,s2,i64_w,i32_w]
     rfl
    refine pq (i:=12) (N:=some 51) (v:=?_) (a':=?_) rfl rfl (any_of HT_.out (by kernel_rfl)) (Or.inl ⟨by rfl,?_⟩) ?_ ?_
    rotate_left
    ·intro w'
     go_simp
     with_reducible rfl
    rotate_left
    ·simp only [Act.put,s0,s1,s2,i64_w,i32_w]
     rfl
    refine pure_ (i:=13) (N:=some 52) (v:=undef) (a':=?_) #[true,true,true,true,true,true,true,true,true,true,true,true,true,true,false,false,false,false,false,false,false,false,false,false,false,false,false,false,false,false] rfl rfl (any_of HT_.out (by kernel_rfl)) (fun _ _ _ h=>h) (Or.inr ⟨by rfl,rfl⟩) ?_ ?_
    rotate_left
    ·simp only [Act.put,s0,s1,s2,i64_w,i32_w]
     rfl
    refine pure_ (i:=14) (N:=some 53) (v:=undef) (a':=?_) #[true,true,true,true,true,true,true,true,true,true,true,true,true,true,true,false,false,false,false,false,false,false,false,false,false,false,false,false,false,false] rfl rfl (any_of HT_.out (by kernel_rfl)) (fun _ _ _ h=>h) (Or.inr ⟨by rfl,rfl⟩) ?_ ?_
    rotate_left
    ·simp only [Act.put,s0,s1,s2,i64_w,i32_w]
     rfl
    refine pure_ (i:=15) (N:=some 54) (v:=undef) (a':=?_) #[true,true,true,true,true,true,true,true,true,true,true,true,true,true,true,true,false,false,false,false,false,false,false,false,false,false,false,false,false,false] rfl rfl (any_of HT_.out (by kernel_rfl)) (fun _ _ _ h=>h) (Or.inr ⟨by rfl,rfl⟩) ?_ ?_
    rotate_left
    ·simp only [Act.put,s0,s1,s2,i64_w,i32_w]
     rfl
    refine pure_ (i:=16) (N:=some 55) (v:=undef) (a':=?_) #[true,true,true,true,true,true,true,true,true,true,true,true,true,true,true,true,true,false,false,false,false,false,false,false,false,false,false,false,false,false] rfl rfl (any_of HT_.out (by kernel_rfl)) (fun _ _ _ h=>h) (Or.inr ⟨by rfl,rfl⟩) ?_ ?_
    rotate_left
    ·simp only [Act.put,s0,s1,s2,i64_w,i32_w]
     rfl
    refine pure_ (i:=17) (N:=some 56) (v:=undef) (a':=?_) #[true,true,true,true,true,true,true,true,true,true,true,true,true,true,true,true,true,true,false,false,false,false,false,false,false,false,false,false,false,false] rfl rfl (any_of HT_.out (by kernel_rfl)) (fun _ _ _ h=>h) (Or.inr ⟨by rfl,rfl⟩) ?_ ?_
    rotate_left
    ·simp only [Act.put,s0,s1,s2,i64_w,i32_w]
     rfl
    refine pure_ (i:=18) (N:=some 57) (v:=undef) (a':=?_) #[true,true,true,true,true,true,true,true,true,true,true,true,true,true,true,true,true,true,true,false,false,false,false,false,false,false,false,false,false,false] rfl rfl (any_of HT_.out (by kernel_rfl)) (fun _ _ _ h=>h) (Or.inr ⟨by rfl,rfl⟩) ?_ ?_
    rotate_left
    ·simp only [Act.put,s0,s1,s2,i64_w,i32_w]
     rfl
    refine pure_ (i:=19) (N:=some 58) (v:=undef) (a':=?_) #[true,true,true,true,true,true,true,true,true,true,true,true,true,true,true,true,true,true,true,true,false,false,false,false,false,false,false,false,false,false] rfl rfl (any_of HT_.out (by kernel_rfl)) (fun _ _ _ h=>h) (Or.inr ⟨by rfl,rfl⟩) ?_ ?_
    rotate_left
    ·simp only [Act.put,s0,s1,s2,i64_w,i32_w]
     rfl
    refine pq (i:=20) (N:=some 59) (v:=?_) (a':=?_) rfl rfl (any_of HT_.out (by kernel_rfl)) (Or.inl ⟨by rfl,?_⟩) ?_ ?_
    rotate_left
    ·intro w'
     go_simp
     with_reducible rfl
    rotate_left
    ·simp only [Act.put,s0,s1,s2,i64_w,i32_w]
     rfl
    refine pq (i:=21) (N:=some 60) (v:=?_) (a':=?_) rfl rfl (any_of HT_.out (by kernel_rfl)) (Or.inl ⟨by rfl,?_⟩) ?_ ?_
    rotate_left
    ·intro w'
     go_simp
     with_reducible rfl
    rotate_left
    ·simp only [Act.put,s0,s1,s2,i64_w,i32_w]
     rfl
    refine pure_ (i:=22) (N:=some 61) (v:=undef) (a':=?_) #[true,true,true,true,true,true,true,true,true,true,true,true,true,true,true,true,true,true,true,true,true,true,true,false,false,false,false,false,false,false] rfl rfl (any_of HT_.out (by kernel_rfl)) (fun _ _ _ h=>h) (Or.inr ⟨by rfl,rfl⟩) ?_ ?_
    rotate_left
    ·simp only [Act.put,s0,s1,s2,i64_w,i32_w]
     rfl
    refine pure_ (i:=23) (N:=some 62) (v:=undef) (a':=?_) #[true,true,true,true,true,true,true,true,true,true,true,true,true,true,true,true,true,true,true,true,true,true,true,true,false,false,false,false,false,false] rfl rfl (any_of HT_.out (by kernel_rfl)) (fun _ _ _ h=>h) (Or.inr ⟨by rfl,rfl⟩) ?_ ?_
    rotate_left
    ·simp only [Act.put,s0,s1,s2,i64_w,i32_w]
     rfl
    refine pure_ (i:=24) (N:=some 63) (v:=undef) (a':=?_) #[true,true,true,true,true,true,true,true,true,true,true,true,true,true,true,true,true,true,true,true,true,true,true,true,true,false,false,false,false,false] rfl rfl (any_of HT_.out (by kernel_rfl)) (fun _ _ _ h=>h) (Or.inr ⟨by rfl,rfl⟩) ?_ ?_
    rotate_left
    ·simp only [Act.put,s0,s1,s2,i64_w,i32_w]
     rfl
    refine pure_ (i:=25) (N:=some 64) (v:=undef) (a':=?_) #[true,true,true,true,true,true,true,true,true,true,true,true,true,true,true,true,true,true,true,true,true,true,true,true,true,true,false,false,false,false] rfl rfl (any_of HT_.out (by kernel_rfl)) (fun _ _ _ h=>h) (Or.inr ⟨by rfl,rfl⟩) ?_ ?_
    rotate_left
    ·simp only [Act.put,s0,s1,s2,i64_w,i32_w]
     rfl
    refine pure_ (i:=26) (N:=some 65) (v:=undef) (a':=?_) #[true,true,true,true,true,true,true,true,true,true,true,true,true,true,true,true,true,true,true,true,true,true,true,true,true,true,true,false,false,false] rfl rfl (any_of HT_.out (by kernel_rfl)) (fun _ _ _ h=>h) (Or.inr ⟨by rfl,rfl⟩) ?_ ?_
    rotate_left
    ·simp only [Act.put,s0,s1,s2,i64_w,i32_w]
     rfl
    refine pure_ (i:=27) (N:=some 66) (v:=undef) (a':=?_) #[true,true,true,true,true,true,true,true,true,true,true,true,true,true,true,true,true,true,true,true,true,true,true,true,true,true,true,true,false,false] rfl rfl (any_of HT_.out (by kernel_rfl)) (fun _ _ _ h=>h) (Or.inr ⟨by rfl,rfl⟩) ?_ ?_
    rotate_left
    ·simp only [Act.put,s0,s1,s2,i64_w,i32_w]
     rfl
    refine pure_ (i:=28) (N:=some 67) (v:=undef) (a':=?_) #[true,true,true,true,true,true,true,true,true,true,true,true,true,true,true,true,true,true,true,true,true,true,true,true,true,true,true,true,true,false] rfl rfl (any_of HT_.out (by kernel_rfl)) (fun _ _ _ h=>h) (Or.inr ⟨by rfl,rfl⟩) ?_ ?_
    rotate_left
    ·simp only [Act.put,s0,s1,s2,i64_w,i32_w]
     rfl
    refine pq (i:=29) (N:=some 68) (v:=?_) (a':=?_) rfl rfl (any_of HT_.out (by kernel_rfl)) (Or.inl ⟨by rfl,?_⟩) ?_ ?_
    rotate_left
    ·intro w'
     go_simp
     with_reducible rfl
    rotate_left
    ·simp only [Act.put,s0,s1,s2,i64_w,i32_w]
     rfl
    refine done_ (done_of HT_.out (by kernel_rfl)) ?_
    have B02:=Aside0.mk (blk_below B0.out HWc.out)
    have HB2:=Aside0.mk (below_step HB1.out HWc.out)
    have q0:=cells5 B02.out
    have q1:=free5 B02.out
    clear hHeld
    go_wp2
    refine bodyPost_ret (results_cttt rfl _ _ w.heap.size 27 _ (0,0) _ rfl (put5 B02.out (.int .i64 0) (.int .i64 0) (.int .i64 0) (.slice none 0 0) (.slice none 0 0)) Try.underlying27 rfl (by kernel_rfl)) rfl ?_
    exact ⟨low5 (g:=w.heap.size) HB2.out (Nat.le_refl _) (.int .i64 0) (.int .i64 0) (.int .i64 0) (.slice none 0 0) (.slice none 0 0),.inl ⟨HZ.out,rfl⟩⟩
   rcases Bool.eq_false_or_eq_true (F.f1 != H.f1) with hc1|hc1
   ·have HZ : Aside0 (mayB Fs k=false):=⟨HGB.out.2 (by unfold good;rw [show (F.f1 == H.f1)=false by simpa [bne] using hc1];simp)⟩
    skip
    have h0:=H0.out
    refine start_ (n:=30) (S:=fun w'=>w'.cell? ⟨G,0,none⟩=some (.int .i64 F.f0)∧w'.cell? ⟨G,1,none⟩=some (.int .i64 F.f1)∧w'.cell? ⟨G,2,none⟩=some (.int .i64 F.f2)∧w'.cell? ⟨G,3,none⟩=some (.slice A3 F.f3.length c3)∧w'.cell? ⟨G,4,none⟩=some (.slice A4 F.f4.length c4)∧w'.cell? ad=some (.int .i64 H.f0)∧w'.cell? ⟨ad.block,ad.off+1,none⟩=some (.int .i64 H.f1)∧w'.cell? ⟨ad.block,ad.off+2,none⟩=some (.int .i64 H.f2)) (ds:=[]) #[false,false,false,false,false,false,false,false,false,false,false,false,false,false,false,false,false,false,false,false,false,false,false,false,false,false,false,false,false,false] (by kernel_rfl) rfl rfl ⟨(cells5 B1.out).1,(cells5 B1.out).2.1,(cells5 B1.out).2.2.1,(cells5 B1.out).2.2.2.1,(cells5 B1.out).2.2.2.2,HZ3.out.1,HZ3.out.2.1,HZ3.out.2.2⟩ (fun hHeld=>?_)
    refine with_tabW pool_Play.tab6 pool_Play.bits6 (fun HT_ HW_=>?_)
    refine tq (i:=0) (N:=some 39) (v:=?_) (a':=?_) rfl rfl (take_ofW HT_.out HW_.out (by kernel_rfl)) hHeld (Or.inl ⟨by rfl,?_⟩) ?_ ?_
    rotate_left
    ·rintro w' ⟨s0,s1,s2,s3,s4,s5,s6,s7⟩
     go_simp
     with_reducible rfl
    rotate_left
    ·simp only [Act.put,s0,s1,s2,i64_w,i32_w]
     rfl
    refine one_ (i:=1) (N:=some 40) #[true,true,false,false,false,false,false,false,false,false,false,false,false,false,false,false,false,false,false,false,false,false,false,false,false,false,false,false,false,false] rfl rfl (one_of HT_.out (by kernel_rfl)) (by decide) (fun K hK=>?_)
    obtain ⟨wc,hwc⟩ : ∃ z,w1.drew=z:=⟨_,rfl⟩
    have HWc : Aside0 (Below w1.heap.size w1 wc):=⟨by rw [← hwc];exact below_drew1 (Below.refl _ _)⟩
    rw [hwc]
    clear hwc
    refine goes_ Try.func16 (by kernel_rfl) rfl #[.agg #[.int .i64 F.f0,.int .i64 F.f1,.int .i64 F.f2,.slice A3 F.f3.length c3,.slice A4 F.f4.length c4]] (by rfl) rfl rfl (by simp only [List.map_toArray,List.map_cons,List.map_nil];rfl) ?_
    with_reducible refine (fcheckB hn0 F A3 c3 A4 c4 wc (Kd.C_below HG3.out.1 HWc.out) (Kd.C_below HG3.out.2 HWc.out) HF.out HC.out).mono ?_
    rintro e w2 ⟨rfl,hb⟩
    refine ⟨_,rfl,?_⟩
    replace HWc:=Aside0.mk (below_step HWc.out hb)
    clear hb
    refine hK.out _ _ ⟨keepc HWc.out (cells5 B1.out).1,keepc HWc.out (cells5 B1.out).2.1,keepc HWc.out (cells5 B1.out).2.2.1,keepc HWc.out (cells5 B1.out).2.2.2.1,keepc HWc.out (cells5 B1.out).2.2.2.2,keepc HWc.out HZ3.out.1,keepc HWc.out HZ3.out.2.1,keepc HWc.out HZ3.out.2.2⟩ (fun hHeld=>?_)
    clear hK K
    refine norm_ (a':=?_) ?_ ?_
    rotate_left
    ·show Act.put _ (some 40) _=_
     simp only [Act.put,s0,s1,s2,i64_w,i32_w]
     rfl
    refine pq (i:=2) (N:=some 41) (v:=?_) (a':=?_) rfl rfl (any_of HT_.out (by kernel_rfl)) (Or.inl ⟨by rfl,?_⟩) ?_ ?_
    rotate_left
    ·intro w'
     go_simp
     with_reducible rfl
    rotate_left
    ·simp only [Act.put,s0,s1,s2,i64_w,i32_w]
     rfl
    refine pq (i:=3) (N:=some 42) (v:=?_) (a':=?_) rfl rfl (any_of HT_.out (by kernel_rfl)) (Or.inl ⟨by rfl,?_⟩) ?_ ?_
    rotate_left
    ·intro w'
     go_simp
     with_reducible rfl
    rotate_left
    ·simp only [Act.put,s0,s1,s2,i64_w,i32_w]
     rfl
    refine pq (i:=4) (N:=some 43) (v:=?_) (a':=?_) rfl rfl (any_of HT_.out (by kernel_rfl)) (Or.inl ⟨by rfl,?_⟩) ?_ ?_
    rotate_left
    ·intro w'
     go_simp
     with_reducible rfl
    rotate_left
    ·simp only [Act.put,s0,s1,s2,i64_w,i32_w]
     rfl
    refine pq (i:=6) (N:=some 45) (v:=?_) (a':=?_) rfl rfl (any_of HT_.out (by kernel_rfl)) (Or.inl ⟨by rfl,?_⟩) ?_ ?_
    rotate_left
    ·intro w'
     go_simp
     with_reducible rfl
    rotate_left
    ·simp only [Act.put,s0,s1,s2,i64_w,i32_w]
     rfl
    refine pq (i:=7) (N:=some 46) (v:=?_) (a':=?_) rfl rfl (any_of HT_.out (by kernel_rfl)) (Or.inl ⟨by rfl,?_⟩) ?_ ?_
    rotate_left
    ·intro w'
     go_simp
     with_reducible rfl
    rotate_left
    ·simp only [Act.put,s0,s1,s2,i64_w,i32_w]
     rfl
    refine pq (i:=8) (N:=some 47) (v:=?_) (a':=?_) rfl rfl (any_of HT_.out (by kernel_rfl)) (Or.inl ⟨by rfl,?_⟩) ?_ ?_
    rotate_left
    ·intro w'
     go_simp
     with_reducible rfl
    rotate_left
    ·simp only [Act.put,s0,s1,s2,i64_w,i32_w]
     rfl
    refine tq (i:=5) (N:=some 44) (v:=?_) (a':=?_) rfl rfl (take_ofW HT_.out HW_.out (by kernel_rfl)) hHeld (Or.inl ⟨by rfl,?_⟩) ?_ ?_
    rotate_left
    ·rintro w' ⟨s0,s1,s2,s3,s4,s5,s6,s7⟩
     go_simp
     with_reducible rfl
    rotate_left
    ·simp only [Act.put,s0,s1,s2,i64_w,i32_w]
     rfl
    refine tq (i:=9) (N:=some 48) (v:=?_) (a':=?_) rfl rfl (take_ofW HT_.out HW_.out (by kernel_rfl)) hHeld (Or.inl ⟨by rfl,?_⟩) ?_ ?_
    rotate_left
    ·rintro w' ⟨s0,s1,s2,s3,s4,s5,s6,s7⟩
     go_simp
     with_reducible rfl
    rotate_left
    ·simp only [Act.put,s0,s1,s2,i64_w,i32_w]
     rfl
    refine pq (i:=10) (N:=some 49) (v:=?_) (a':=?_) rfl rfl (any_of HT_.out (by kernel_rfl)) (Or.inl ⟨by rfl,?_⟩) ?_ ?_
    rotate_left
    ·intro w'
     go_simp
     with_reducible rfl
    rotate_left
    ·simp only [Act.put,s0,s1,s2,i64_w,i32_w]
     rfl
    refine pq (i:=11) (N:=some 50) (v:=?_) (a':=?_) rfl rfl (any_of HT_.out (by kernel_rfl)) (Or.inl ⟨by rfl,?_⟩) ?_ ?_
    rotate_left
    ·intro w'
     go_simp
     with_reducible rfl
    rotate_left
    ·simp only [Act.put,s0,s1,s2,i64_w,i32_w]
     rfl
    refine pq (i:=12) (N:=some 51) (v:=?_) (a':=?_) rfl rfl (any_of HT_.out (by kernel_rfl)) (Or.inl ⟨by rfl,?_⟩) ?_ ?_
    rotate_left
    ·intro w'
     go_simp
     with_reducible rfl
    rotate_left
    ·simp only [Act.put,s0,s1,s2,i64_w,i32_w]
     rfl
    refine pq (i:=13) (N:=some 52) (v:=?_) (a':=?_) rfl rfl (any_of HT_.out (by kernel_rfl)) (Or.inl ⟨by rfl,?_⟩) ?_ ?_
    rotate_left
    ·intro w'
     go_simp
     with_reducible rfl
    rotate_left
    ·simp only [Act.put,s0,s1,s2,i64_w,i32_w]
     rfl
    refine pq (i:=15) (N:=some 54) (v:=?_) (a':=?_) rfl rfl (any_of HT_.out (by kernel_rfl)) (Or.inl ⟨by rfl,?_⟩) ?_ ?_
    rotate_left
    ·intro w'
     go_simp
     with_reducible rfl
    rotate_left
    ·simp only [Act.put,s0,s1,s2,i64_w,i32_w]
     rfl
    refine pq (i:=16) (N:=some 55) (v:=?_) (a':=?_) rfl rfl (any_of HT_.out (by kernel_rfl)) (Or.inl ⟨by rfl,?_⟩) ?_ ?_
    rotate_left
    ·intro w'
     go_simp
     with_reducible rfl
    rotate_left
    ·simp only [Act.put,s0,s1,s2,i64_w,i32_w]
     rfl
    refine pq (i:=17) (N:=some 56) (v:=?_) (a':=?_) rfl rfl (any_of HT_.out (by kernel_rfl)) (Or.inl ⟨by rfl,?_⟩) ?_ ?_
    rotate_left
    ·intro w'
     go_simp
     with_reducible rfl
    rotate_left
    ·simp only [Act.put,s0,s1,s2,i64_w,i32_w]
     rfl
    refine tq (i:=14) (N:=some 53) (v:=?_) (a':=?_) rfl rfl (take_ofW HT_.out HW_.out (by kernel_rfl)) hHeld (Or.inl ⟨by rfl,?_⟩) ?_ ?_
    rotate_left
    ·rintro w' ⟨s0,s1,s2,s3,s4,s5,s6,s7⟩
     go_simp
     with_reducible rfl
    rotate_left
    ·simp only [Act.put,s0,s1,s2,i64_w,i32_w]
     rfl
    refine tq (i:=18) (N:=some 57) (v:=?_) (a':=?_) rfl rfl (take_ofW HT_.out HW_.out (by kernel_rfl)) hHeld (Or.inl ⟨by rfl,?_⟩) ?_ ?_
    rotate_left
    ·rintro w' ⟨s0,s1,s2,s3,s4,s5,s6,s7⟩
     go_simp
     with_reducible rfl
    rotate_left
    ·simp only [Act.put,s0,s1,s2,i64_w,i32_w]
     rfl
    refine pq (i:=19) (N:=some 58) (v:=?_) (a':=?_) rfl rfl (any_of HT_.out (by kernel_rfl)) (Or.inl ⟨by rfl,?_⟩) ?_ ?_
    rotate_left
    ·intro w'
     go_simp
     with_reducible rfl
    rotate_left
    ·simp only [Act.put,s0,s1,s2,i64_w,i32_w]
     rfl
    refine pq (i:=20) (N:=some 59) (v:=?_) (a':=?_) rfl rfl (any_of HT_.out (by kernel_rfl)) (Or.inl ⟨by rfl,?_⟩) ?_ ?_
    rotate_left
    ·intro w'
     go_simp
     with_reducible rfl
    rotate_left
    ·simp only [Act.put,s0,s1,s2,i64_w,i32_w]
     rfl
    refine pq (i:=21) (N:=some 60) (v:=?_) (a':=?_) rfl rfl (any_of HT_.out (by kernel_rfl)) (Or.inl ⟨by rfl,?_⟩) ?_ ?_
    rotate_left
    ·intro w'
     go_simp
     with_reducible rfl
    rotate_left
    ·simp only [Act.put,s0,s1,s2,i64_w,i32_w]
     rfl
    refine pure_ (i:=22) (N:=some 61) (v:=undef) (a':=?_) #[true,true,true,true,true,true,true,true,true,true,true,true,true,true,true,true,true,true,true,true,true,true,true,false,false,false,false,false,false,false] rfl rfl (any_of HT_.out (by kernel_rfl)) (fun _ _ _ h=>h) (Or.inr ⟨by rfl,rfl⟩) ?_ ?_
    rotate_left
    ·simp only [Act.put,s0,s1,s2,i64_w,i32_w]
     rfl
    refine pure_ (i:=23) (N:=some 62) (v:=undef) (a':=?_) #[true,true,true,true,true,true,true,true,true,true,true,true,true,true,true,true,true,true,true,true,true,true,true,true,false,false,false,false,false,false] rfl rfl (any_of HT_.out (by kernel_rfl)) (fun _ _ _ h=>h) (Or.inr ⟨by rfl,rfl⟩) ?_ ?_
    rotate_left
    ·simp only [Act.put,s0,s1,s2,i64_w,i32_w]
     rfl
    refine pure_ (i:=24) (N:=some 63) (v:=undef) (a':=?_) #[true,true,true,true,true,true,true,true,true,true,true,true,true,true,true,true,true,true,true,true,true,true,true,true,true,false,false,false,false,false] rfl rfl (any_of HT_.out (by kernel_rfl)) (fun _ _ _ h=>h) (Or.inr ⟨by rfl,rfl⟩) ?_ ?_
    rotate_left
    ·simp only [Act.put,s0,s1,s2,i64_w,i32_w]
     rfl
    refine pure_ (i:=25) (N:=some 64) (v:=undef) (a':=?_) #[true,true,true,true,true,true,true,true,true,true,true,true,true,true,true,true,true,true,true,true,true,true,true,true,true,true,false,false,false,false] rfl rfl (any_of HT_.out (by kernel_rfl)) (fun _ _ _ h=>h) (Or.inr ⟨by rfl,rfl⟩) ?_ ?_
    rotate_left
    ·simp only [Act.put,s0,s1,s2,i64_w,i32_w]
     rfl
    refine pure_ (i:=26) (N:=some 65) (v:=undef) (a':=?_) #[true,true,true,true,true,true,true,true,true,true,true,true,true,true,true,true,true,true,true,true,true,true,true,true,true,true,true,false,false,false] rfl rfl (any_of HT_.out (by kernel_rfl)) (fun _ _ _ h=>h) (Or.inr ⟨by rfl,rfl⟩) ?_ ?_
    rotate_left
    ·simp only [Act.put,s0,s1,s2,i64_w,i32_w]
     rfl
    refine pure_ (i:=27) (N:=some 66) (v:=undef) (a':=?_) #[true,true,true,true,true,true,true,true,true,true,true,true,true,true,true,true,true,true,true,true,true,true,true,true,true,true,true,true,false,false] rfl rfl (any_of HT_.out (by kernel_rfl)) (fun _ _ _ h=>h) (Or.inr ⟨by rfl,rfl⟩) ?_ ?_
    rotate_left
    ·simp only [Act.put,s0,s1,s2,i64_w,i32_w]
     rfl
    refine pure_ (i:=28) (N:=some 67) (v:=undef) (a':=?_) #[true,true,true,true,true,true,true,true,true,true,true,true,true,true,true,true,true,true,true,true,true,true,true,true,true,true,true,true,true,false] rfl rfl (any_of HT_.out (by kernel_rfl)) (fun _ _ _ h=>h) (Or.inr ⟨by rfl,rfl⟩) ?_ ?_
    rotate_left
    ·simp only [Act.put,s0,s1,s2,i64_w,i32_w]
     rfl
    refine pq (i:=29) (N:=some 68) (v:=?_) (a':=?_) rfl rfl (any_of HT_.out (by kernel_rfl)) (Or.inl ⟨by rfl,?_⟩) ?_ ?_
    rotate_left
    ·intro w'
     go_simp
     with_reducible rfl
    rotate_left
    ·simp only [Act.put,s0,s1,s2,i64_w,i32_w]
     rfl
    refine done_ (done_of HT_.out (by kernel_rfl)) ?_
    have B02:=Aside0.mk (blk_below B0.out HWc.out)
    have HB2:=Aside0.mk (below_step HB1.out HWc.out)
    have q0:=cells5 B02.out
    have q1:=free5 B02.out
    clear hHeld
    go_wp2
    refine bodyPost_ret (results_cttt rfl _ _ w.heap.size 27 _ (0,0) _ rfl (put5 B02.out (.int .i64 0) (.int .i64 0) (.int .i64 0) (.slice none 0 0) (.slice none 0 0)) Try.underlying27 rfl (by kernel_rfl)) rfl ?_
    exact ⟨low5 (g:=w.heap.size) HB2.out (Nat.le_refl _) (.int .i64 0) (.int .i64 0) (.int .i64 0) (.slice none 0 0) (.slice none 0 0),.inl ⟨HZ.out,rfl⟩⟩
   rcases Bool.eq_false_or_eq_true (F.f2 != H.f2) with hc2|hc2
   ·have HZ : Aside0 (mayB Fs k=false):=⟨HGB.out.2 (by unfold good;rw [show (F.f2 == H.f2)=false by simpa [bne] using hc2];simp)⟩
    skip
    have h0:=H0.out
    refine start_ (n:=30) (S:=fun w'=>w'.cell? ⟨G,0,none⟩=some (.int .i64 F.f0)∧w'.cell? ⟨G,1,none⟩=some (.int .i64 F.f1)∧w'.cell? ⟨G,2,none⟩=some (.int .i64 F.f2)∧w'.cell? ⟨G,3,none⟩=some (.slice A3 F.f3.length c3)∧w'.cell? ⟨G,4,none⟩=some (.slice A4 F.f4.length c4)∧w'.cell? ad=some (.int .i64 H.f0)∧w'.cell? ⟨ad.block,ad.off+1,none⟩=some (.int .i64 H.f1)∧w'.cell? ⟨ad.block,ad.off+2,none⟩=some (.int .i64 H.f2)) (ds:=[]) #[false,false,false,false,false,false,false,false,false,false,false,false,false,false,false,false,false,false,false,false,false,false,false,false,false,false,false,false,false,false] (by kernel_rfl) rfl rfl ⟨(cells5 B1.out).1,(cells5 B1.out).2.1,(cells5 B1.out).2.2.1,(cells5 B1.out).2.2.2.1,(cells5 B1.out).2.2.2.2,HZ3.out.1,HZ3.out.2.1,HZ3.out.2.2⟩ (fun hHeld=>?_)
    refine with_tabW pool_Play.tab6 pool_Play.bits6 (fun HT_ HW_=>?_)
    refine tq (i:=0) (N:=some 39) (v:=?_) (a':=?_) rfl rfl (take_ofW HT_.out HW_.out (by kernel_rfl)) hHeld (Or.inl ⟨by rfl,?_⟩) ?_ ?_
    rotate_left
    ·rintro w' ⟨s0,s1,s2,s3,s4,s5,s6,s7⟩
     go_simp
     with_reducible rfl
    rotate_left
    ·simp only [Act.put,s0,s1,s2,i64_w,i32_w]
     rfl
    refine one_ (i:=1) (N:=some 40) #[true,true,false,false,false,false,false,false,false,false,false,false,false,false,false,false,false,false,false,false,false,false,false,false,false,false,false,false,false,false] rfl rfl (one_of HT_.out (by kernel_rfl)) (by decide) (fun K hK=>?_)
    obtain ⟨wc,hwc⟩ : ∃ z,w1.drew=z:=⟨_,rfl⟩
    have HWc : Aside0 (Below w1.heap.size w1 wc):=⟨by rw [← hwc];exact below_drew1 (Below.refl _ _)⟩
    rw [hwc]
    clear hwc
    refine goes_ Try.func16 (by kernel_rfl) rfl #[.agg #[.int .i64 F.f0,.int .i64 F.f1,.int .i64 F.f2,.slice A3 F.f3.length c3,.slice A4 F.f4.length c4]] (by rfl) rfl rfl (by simp only [List.map_toArray,List.map_cons,List.map_nil];rfl) ?_
    with_reducible refine (fcheckB hn0 F A3 c3 A4 c4 wc (Kd.C_below HG3.out.1 HWc.out) (Kd.C_below HG3.out.2 HWc.out) HF.out HC.out).mono ?_
    rintro e w2 ⟨rfl,hb⟩
    refine ⟨_,rfl,?_⟩
    replace HWc:=Aside0.mk (below_step HWc.out hb)
    clear hb
    refine hK.out _ _ ⟨keepc HWc.out (cells5 B1.out).1,keepc HWc.out (cells5 B1.out).2.1,keepc HWc.out (cells5 B1.out).2.2.1,keepc HWc.out (cells5 B1.out).2.2.2.1,keepc HWc.out (cells5 B1.out).2.2.2.2,keepc HWc.out HZ3.out.1,keepc HWc.out HZ3.out.2.1,keepc HWc.out HZ3.out.2.2⟩ (fun hHeld=>?_)
    clear hK K
    refine norm_ (a':=?_) ?_ ?_
    rotate_left
    ·show Act.put _ (some 40) _=_
     simp only [Act.put,s0,s1,s2,i64_w,i32_w]
     rfl
    refine pq (i:=2) (N:=some 41) (v:=?_) (a':=?_) rfl rfl (any_of HT_.out (by kernel_rfl)) (Or.inl ⟨by rfl,?_⟩) ?_ ?_
    rotate_left
    ·intro w'
     go_simp
     with_reducible rfl
    rotate_left
    ·simp only [Act.put,s0,s1,s2,i64_w,i32_w]
     rfl
    refine pq (i:=3) (N:=some 42) (v:=?_) (a':=?_) rfl rfl (any_of HT_.out (by kernel_rfl)) (Or.inl ⟨by rfl,?_⟩) ?_ ?_
    rotate_left
    ·intro w'
     go_simp
     with_reducible rfl
    rotate_left
    ·simp only [Act.put,s0,s1,s2,i64_w,i32_w]
     rfl
    refine pq (i:=4) (N:=some 43) (v:=?_) (a':=?_) rfl rfl (any_of HT_.out (by kernel_rfl)) (Or.inl ⟨by rfl,?_⟩) ?_ ?_
    rotate_left
    ·intro w'
     go_simp
     with_reducible rfl
    rotate_left
    ·simp only [Act.put,s0,s1,s2,i64_w,i32_w]
     rfl
    refine pq (i:=6) (N:=some 45) (v:=?_) (a':=?_) rfl rfl (any_of HT_.out (by kernel_rfl)) (Or.inl ⟨by rfl,?_⟩) ?_ ?_
    rotate_left
    ·intro w'
     go_simp
     with_reducible rfl
    rotate_left
    ·simp only [Act.put,s0,s1,s2,i64_w,i32_w]
     rfl
    refine pq (i:=7) (N:=some 46) (v:=?_) (a':=?_) rfl rfl (any_of HT_.out (by kernel_rfl)) (Or.inl ⟨by rfl,?_⟩) ?_ ?_
    rotate_left
    ·intro w'
     go_simp
     with_reducible rfl
    rotate_left
    ·simp only [Act.put,s0,s1,s2,i64_w,i32_w]
     rfl
    refine pq (i:=8) (N:=some 47) (v:=?_) (a':=?_) rfl rfl (any_of HT_.out (by kernel_rfl)) (Or.inl ⟨by rfl,?_⟩) ?_ ?_
    rotate_left
    ·intro w'
     go_simp
     with_reducible rfl
    rotate_left
    ·simp only [Act.put,s0,s1,s2,i64_w,i32_w]
     rfl
    refine tq (i:=5) (N:=some 44) (v:=?_) (a':=?_) rfl rfl (take_ofW HT_.out HW_.out (by kernel_rfl)) hHeld (Or.inl ⟨by rfl,?_⟩) ?_ ?_
    rotate_left
    ·rintro w' ⟨s0,s1,s2,s3,s4,s5,s6,s7⟩
     go_simp
     with_reducible rfl
    rotate_left
    ·simp only [Act.put,s0,s1,s2,i64_w,i32_w]
     rfl
    refine tq (i:=9) (N:=some 48) (v:=?_) (a':=?_) rfl rfl (take_ofW HT_.out HW_.out (by kernel_rfl)) hHeld (Or.inl ⟨by rfl,?_⟩) ?_ ?_
    rotate_left
    ·rintro w' ⟨s0,s1,s2,s3,s4,s5,s6,s7⟩
     go_simp
     with_reducible rfl
    rotate_left
    ·simp only [Act.put,s0,s1,s2,i64_w,i32_w]
     rfl
    refine pq (i:=10) (N:=some 49) (v:=?_) (a':=?_) rfl rfl (any_of HT_.out (by kernel_rfl)) (Or.inl ⟨by rfl,?_⟩) ?_ ?_
    rotate_left
    ·intro w'
     go_simp
     with_reducible rfl
    rotate_left
    ·simp only [Act.put,s0,s1,s2,i64_w,i32_w]
     rfl
    refine pq (i:=11) (N:=some 50) (v:=?_) (a':=?_) rfl rfl (any_of HT_.out (by kernel_rfl)) (Or.inl ⟨by rfl,?_⟩) ?_ ?_
    rotate_left
    ·intro w'
     go_simp
     with_reducible rfl
    rotate_left
    ·simp only [Act.put,s0,s1,s2,i64_w,i32_w]
     rfl
    refine pq (i:=12) (N:=some 51) (v:=?_) (a':=?_) rfl rfl (any_of HT_.out (by kernel_rfl)) (Or.inl ⟨by rfl,?_⟩) ?_ ?_
    rotate_left
    ·intro w'
     go_simp
     with_reducible rfl
    rotate_left
    ·simp only [Act.put,s0,s1,s2,i64_w,i32_w]
     rfl
    refine pq (i:=13) (N:=some 52) (v:=?_) (a':=?_) rfl rfl (any_of HT_.out (by kernel_rfl)) (Or.inl ⟨by rfl,?_⟩) ?_ ?_
    rotate_left
    ·intro w'
     go_simp
     with_reducible rfl
    rotate_left
    ·simp only [Act.put,s0,s1,s2,i64_w,i32_w]
     rfl
    refine pq (i:=15) (N:=some 54) (v:=?_) (a':=?_) rfl rfl (any_of HT_.out (by kernel_rfl)) (Or.inl ⟨by rfl,?_⟩) ?_ ?_
    rotate_left
    ·intro w'
     go_simp
     with_reducible rfl
    rotate_left
    ·simp only [Act.put,s0,s1,s2,i64_w,i32_w]
     rfl
    refine pq (i:=16) (N:=some 55) (v:=?_) (a':=?_) rfl rfl (any_of HT_.out (by kernel_rfl)) (Or.inl ⟨by rfl,?_⟩) ?_ ?_
    rotate_left
    ·intro w'
     go_simp
     with_reducible rfl
    rotate_left
    ·simp only [Act.put,s0,s1,s2,i64_w,i32_w]
     rfl
    refine pq (i:=17) (N:=some 56) (v:=?_) (a':=?_) rfl rfl (any_of HT_.out (by kernel_rfl)) (Or.inl ⟨by rfl,?_⟩) ?_ ?_
    rotate_left
    ·intro w'
     go_simp
     with_reducible rfl
    rotate_left
    ·simp only [Act.put,s0,s1,s2,i64_w,i32_w]
     rfl
    refine tq (i:=14) (N:=some 53) (v:=?_) (a':=?_) rfl rfl (take_ofW HT_.out HW_.out (by kernel_rfl)) hHeld (Or.inl ⟨by rfl,?_⟩) ?_ ?_
    rotate_left
    ·rintro w' ⟨s0,s1,s2,s3,s4,s5,s6,s7⟩
     go_simp
     with_reducible rfl
    rotate_left
    ·simp only [Act.put,s0,s1,s2,i64_w,i32_w]
     rfl
    refine tq (i:=18) (N:=some 57) (v:=?_) (a':=?_) rfl rfl (take_ofW HT_.out HW_.out (by kernel_rfl)) hHeld (Or.inl ⟨by rfl,?_⟩) ?_ ?_
    rotate_left
    ·rintro w' ⟨s0,s1,s2,s3,s4,s5,s6,s7⟩
     go_simp
     with_reducible rfl
    rotate_left
    ·simp only [Act.put,s0,s1,s2,i64_w,i32_w]
     rfl
    refine pq (i:=19) (N:=some 58) (v:=?_) (a':=?_) rfl rfl (any_of HT_.out (by kernel_rfl)) (Or.inl ⟨by rfl,?_⟩) ?_ ?_
    rotate_left
    ·intro w'
     go_simp
     with_reducible rfl
    rotate_left
    ·simp only [Act.put,s0,s1,s2,i64_w,i32_w]
     rfl
    refine pq (i:=20) (N:=some 59) (v:=?_) (a':=?_) rfl rfl (any_of HT_.out (by kernel_rfl)) (Or.inl ⟨by rfl,?_⟩) ?_ ?_
    rotate_left
    ·intro w'
     go_simp
     with_reducible rfl
    rotate_left
    ·simp only [Act.put,s0,s1,s2,i64_w,i32_w]
     rfl
    refine pq (i:=21) (N:=some 60) (v:=?_) (a':=?_) rfl rfl (any_of HT_.out (by kernel_rfl)) (Or.inl ⟨by rfl,?_⟩) ?_ ?_
    rotate_left
    ·intro w'
     go_simp
     with_reducible rfl
    rotate_left
    ·simp only [Act.put,s0,s1,s2,i64_w,i32_w]
     rfl
    refine pq (i:=22) (N:=some 61) (v:=?_) (a':=?_) rfl rfl (any_of HT_.out (by kernel_rfl)) (Or.inl ⟨by rfl,?_⟩) ?_ ?_
    rotate_left
    ·intro w'
     go_simp
     with_reducible rfl
    rotate_left
    ·simp only [Act.put,s0,s1,s2,i64_w,i32_w]
     rfl
    refine pq (i:=24) (N:=some 63) (v:=?_) (a':=?_) rfl rfl (any_of HT_.out (by kernel_rfl)) (Or.inl ⟨by rfl,?_⟩) ?_ ?_
    rotate_left
    ·intro w'
     go_simp
     with_reducible rfl
    rotate_left
    ·simp only [Act.put,s0,s1,s2,i64_w,i32_w]
     rfl
    refine pq (i:=25) (N:=some 64) (v:=?_) (a':=?_) rfl rfl (any_of HT_.out (by kernel_rfl)) (Or.inl ⟨by rfl,?_⟩) ?_ ?_
    rotate_left
    ·intro w'
     go_simp
     with_reducible rfl
    rotate_left
    ·simp only [Act.put,s0,s1,s2,i64_w,i32_w]
     rfl
    refine pq (i:=26) (N:=some 65) (v:=?_) (a':=?_) rfl rfl (any_of HT_.out (by kernel_rfl)) (Or.inl ⟨by rfl,?_⟩) ?_ ?_
    rotate_left
    ·intro w'
     go_simp
     with_reducible rfl
    rotate_left
    ·simp only [Act.put,s0,s1,s2,i64_w,i32_w]
     rfl
    refine tq (i:=23) (N:=some 62) (v:=?_) (a':=?_) rfl rfl (take_ofW HT_.out HW_.out (by kernel_rfl)) hHeld (Or.inl ⟨by rfl,?_⟩) ?_ ?_
    rotate_left
    ·rintro w' ⟨s0,s1,s2,s3,s4,s5,s6,s7⟩
     go_simp
     with_reducible rfl
    rotate_left
    ·simp only [Act.put,s0,s1,s2,i64_w,i32_w]
     rfl
    refine tq (i:=27) (N:=some 66) (v:=?_) (a':=?_) rfl rfl (take_ofW HT_.out HW_.out (by kernel_rfl)) hHeld (Or.inl ⟨by rfl,?_⟩) ?_ ?_
    rotate_left
    ·rintro w' ⟨s0,s1,s2,s3,s4,s5,s6,s7⟩
     go_simp
     with_reducible rfl
    rotate_left
    ·simp only [Act.put,s0,s1,s2,i64_w,i32_w]
     rfl
    refine pq (i:=28) (N:=some 67) (v:=?_) (a':=?_) rfl rfl (any_of HT_.out (by kernel_rfl)) (Or.inl ⟨by rfl,?_⟩) ?_ ?_
    rotate_left
    ·intro w'
     go_simp
     with_reducible rfl
    rotate_left
    ·simp only [Act.put,s0,s1,s2,i64_w,i32_w]
     rfl
    refine pq (i:=29) (N:=some 68) (v:=?_) (a':=?_) rfl rfl (any_of HT_.out (by kernel_rfl)) (Or.inl ⟨by rfl,?_⟩) ?_ ?_
    rotate_left
    ·intro w'
     go_simp
     with_reducible rfl
    rotate_left
    ·simp only [Act.put,s0,s1,s2,i64_w,i32_w]
     rfl
    refine done_ (done_of HT_.out (by kernel_rfl)) ?_
    have B02:=Aside0.mk (blk_below B0.out HWc.out)
    have HB2:=Aside0.mk (below_step HB1.out HWc.out)
    have q0:=cells5 B02.out
    have q1:=free5 B02.out
    clear hHeld
    go_wp2
    refine bodyPost_ret (results_cttt rfl _ _ w.heap.size 27 _ (0,0) _ rfl (put5 B02.out (.int .i64 0) (.int .i64 0) (.int .i64 0) (.slice none 0 0) (.slice none 0 0)) Try.underlying27 rfl (by kernel_rfl)) rfl ?_
    exact ⟨low5 (g:=w.heap.size) HB2.out (Nat.le_refl _) (.int .i64 0) (.int .i64 0) (.int .i64 0) (.slice none 0 0) (.slice none 0 0),.inl ⟨HZ.out,rfl⟩⟩
   have HOK:=Aside0.mk (HGB.out.1 (by
    unfold good
    rw [HC.out,show (F.f0 == H.f0)=true by simpa [bne] using hc0,show (F.f1 == H.f1)=true by simpa [bne] using hc1,show (F.f2 == H.f2)=true by simpa [bne] using hc2]
    rfl))
   have h0:=H0.out
   refine start_ (n:=30) (S:=fun w'=>w'.cell? ⟨G,0,none⟩=some (.int .i64 F.f0)∧w'.cell? ⟨G,1,none⟩=some (.int .i64 F.f1)∧w'.cell? ⟨G,2,none⟩=some (.int .i64 F.f2)∧w'.cell? ⟨G,3,none⟩=some (.slice A3 F.f3.length c3)∧w'.cell? ⟨G,4,none⟩=some (.slice A4 F.f4.length c4)∧w'.cell? ad=some (.int .i64 H.f0)∧w'.cell? ⟨ad.block,ad.off+1,none⟩=some (.int .i64 H.f1)∧w'.cell? ⟨ad.block,ad.off+2,none⟩=some (.int .i64 H.f2)) (ds:=[]) #[false,false,false,false,false,false,false,false,false,false,false,false,false,false,false,false,false,false,false,false,false,false,false,false,false,false,false,false,false,false] (by kernel_rfl) rfl rfl ⟨(cells5 B1.out).1,(cells5 B1.out).2.1,(cells5 B1.out).2.2.1,(cells5 B1.out).2.2.2.1,(cells5 B1.out).2.2.2.2,HZ3.out.1,HZ3.out.2.1,HZ3.out.2.2⟩ (fun hHeld=>?_)
   refine with_tabW pool_Play.tab6 pool_Play.bits6 (fun HT_ HW_=>?_)
   refine tq (i:=0) (N:=some 39) (v:=?_) (a':=?_) rfl rfl (take_ofW HT_.out HW_.out (by kernel_rfl)) hHeld (Or.inl ⟨by rfl,?_⟩) ?_ ?_
   rotate_left
   ·rintro w' ⟨s0,s1,s2,s3,s4,s5,s6,s7⟩
    go_simp
    with_reducible rfl
   rotate_left
   ·simp only [Act.put,s0,s1,s2,i64_w,i32_w]
    rfl
   refine one_ (i:=1) (N:=some 40) #[true,true,false,false,false,false,false,false,false,false,false,false,false,false,false,false,false,false,false,false,false,false,false,false,false,false,false,false,false,false] rfl rfl (one_of HT_.out (by kernel_rfl)) (by decide) (fun K hK=>?_)
   obtain ⟨wc,hwc⟩ : ∃ z,w1.drew=z:=⟨_,rfl⟩
   have HWc : Aside0 (Below w1.heap.size w1 wc):=⟨by rw [← hwc];exact below_drew1 (Below.refl _ _)⟩
   rw [hwc]
   clear hwc
   refine goes_ Try.func16 (by kernel_rfl) rfl #[.agg #[.int .i64 F.f0,.int .i64 F.f1,.int .i64 F.f2,.slice A3 F.f3.length c3,.slice A4 F.f4.length c4]] (by rfl) rfl rfl (by simp only [List.map_toArray,List.map_cons,List.map_nil];rfl) ?_
   with_reducible refine (fcheckB hn0 F A3 c3 A4 c4 wc (Kd.C_below HG3.out.1 HWc.out) (Kd.C_below HG3.out.2 HWc.out) HF.out HC.out).mono ?_
   rintro e w2 ⟨rfl,hb⟩
   refine ⟨_,rfl,?_⟩
   replace HWc:=Aside0.mk (below_step HWc.out hb)
   clear hb
   refine hK.out _ _ ⟨keepc HWc.out (cells5 B1.out).1,keepc HWc.out (cells5 B1.out).2.1,keepc HWc.out (cells5 B1.out).2.2.1,keepc HWc.out (cells5 B1.out).2.2.2.1,keepc HWc.out (cells5 B1.out).2.2.2.2,keepc HWc.out HZ3.out.1,keepc HWc.out HZ3.out.2.1,keepc HWc.out HZ3.out.2.2⟩ (fun hHeld=>?_)
   clear hK K
   refine norm_ (a':=?_) ?_ ?_
   rotate_left
   ·show Act.put _ (some 40) _=_
    simp only [Act.put,s0,s1,s2,i64_w,i32_w]
    rfl
   refine pq (i:=2) (N:=some 41) (v:=?_) (a':=?_) rfl rfl (any_of HT_.out (by kernel_rfl)) (Or.inl ⟨by rfl,?_⟩) ?_ ?_
   rotate_left
   ·intro w'
    go_simp
    with_reducible rfl
   rotate_left
   ·simp only [Act.put,s0,s1,s2,i64_w,i32_w]
    rfl
   refine pq (i:=3) (N:=some 42) (v:=?_) (a':=?_) rfl rfl (any_of HT_.out (by kernel_rfl)) (Or.inl ⟨by rfl,?_⟩) ?_ ?_
   rotate_left
   ·intro w'
    go_simp
    with_reducible rfl
   rotate_left
   ·simp only [Act.put,s0,s1,s2,i64_w,i32_w]
    rfl
   refine pq (i:=4) (N:=some 43) (v:=?_) (a':=?_) rfl rfl (any_of HT_.out (by kernel_rfl)) (Or.inl ⟨by rfl,?_⟩) ?_ ?_
   rotate_left
   ·intro w'
    go_simp
    with_reducible rfl
   rotate_left
   ·simp only [Act.put,s0,s1,s2,i64_w,i32_w]
    rfl
   refine pq (i:=6) (N:=some 45) (v:=?_) (a':=?_) rfl rfl (any_of HT_.out (by kernel_rfl)) (Or.inl ⟨by rfl,?_⟩) ?_ ?_
   rotate_left
   ·intro w'
    go_simp
    with_reducible rfl
   rotate_left
   ·simp only [Act.put,s0,s1,s2,i64_w,i32_w]
    rfl
   refine pq (i:=7) (N:=some 46) (v:=?_) (a':=?_) rfl rfl (any_of HT_.out (by kernel_rfl)) (Or.inl ⟨by rfl,?_⟩) ?_ ?_
   rotate_left
   ·intro w'
    go_simp
    with_reducible rfl
   rotate_left
   ·simp only [Act.put,s0,s1,s2,i64_w,i32_w]
    rfl
   refine pq (i:=8) (N:=some 47) (v:=?_) (a':=?_) rfl rfl (any_of HT_.out (by kernel_rfl)) (Or.inl ⟨by rfl,?_⟩) ?_ ?_
   rotate_left
   ·intro w'
    go_simp
    with_reducible rfl
   rotate_left
   ·simp only [Act.put,s0,s1,s2,i64_w,i32_w]
    rfl
   refine tq (i:=5) (N:=some 44) (v:=?_) (a':=?_) rfl rfl (take_ofW HT_.out HW_.out (by kernel_rfl)) hHeld (Or.inl ⟨by rfl,?_⟩) ?_ ?_
   rotate_left
   ·rintro w' ⟨s0,s1,s2,s3,s4,s5,s6,s7⟩
    go_simp
    with_reducible rfl
   rotate_left
   ·simp only [Act.put,s0,s1,s2,i64_w,i32_w]
    rfl
   refine tq (i:=9) (N:=some 48) (v:=?_) (a':=?_) rfl rfl (take_ofW HT_.out HW_.out (by kernel_rfl)) hHeld (Or.inl ⟨by rfl,?_⟩) ?_ ?_
   rotate_left
   ·rintro w' ⟨s0,s1,s2,s3,s4,s5,s6,s7⟩
    go_simp
    with_reducible rfl
   rotate_left
   ·simp only [Act.put,s0,s1,s2,i64_w,i32_w]
    rfl
   refine pq (i:=10) (N:=some 49) (v:=?_) (a':=?_) rfl rfl (any_of HT_.out (by kernel_rfl)) (Or.inl ⟨by rfl,?_⟩) ?_ ?_
   rotate_left
   ·intro w'
    go_simp
    with_reducible rfl
   rotate_left
   ·simp only [Act.put,s0,s1,s2,i64_w,i32_w]
    rfl
   refine pq (i:=11) (N:=some 50) (v:=?_) (a':=?_) rfl rfl (any_of HT_.out (by kernel_rfl)) (Or.inl ⟨by rfl,?_⟩) ?_ ?_
   rotate_left
   ·intro w'
    go_simp
    with_reducible rfl
   rotate_left
   ·simp only [Act.put,s0,s1,s2,i64_w,i32_w]
    rfl
   refine pq (i:=12) (N:=some 51) (v:=?_) (a':=?_) rfl rfl (any_of HT_.out (by kernel_rfl)) (Or.inl ⟨by rfl,?_⟩) ?_ ?_
   rotate_left
   ·intro w'
    go_simp
    with_reducible rfl
   rotate_left
   ·simp only [Act.put,s0,s1,s2,i64_w,i32_w]
    rfl
   refine pq (i:=13) (N:=some 52) (v:=?_) (a':=?_) rfl rfl (any_of HT_.out (by kernel_rfl)) (Or.inl ⟨by rfl,?_⟩) ?_ ?_
   rotate_left
   ·intro w'
    go_simp
    with_reducible rfl
   rotate_left
   ·simp only [Act.put,s0,s1,s2,i64_w,i32_w]
    rfl
   refine pq (i:=15) (N:=some 54) (v:=?_) (a':=?_) rfl rfl (any_of HT_.out (by kernel_rfl)) (Or.inl ⟨by rfl,?_⟩) ?_ ?_
   rotate_left
   ·intro w'
    go_simp
    with_reducible rfl
   rotate_left
   ·simp only [Act.put,s0,s1,s2,i64_w,i32_w]
    rfl
   refine pq (i:=16) (N:=some 55) (v:=?_) (a':=?_) rfl rfl (any_of HT_.out (by kernel_rfl)) (Or.inl ⟨by rfl,?_⟩) ?_ ?_
   rotate_left
   ·intro w'
    go_simp
    with_reducible rfl
   rotate_left
   ·simp only [Act.put,s0,s1,s2,i64_w,i32_w]
    rfl
   refine pq (i:=17) (N:=some 56) (v:=?_) (a':=?_) rfl rfl (any_of HT_.out (by kernel_rfl)) (Or.inl ⟨by rfl,?_⟩) ?_ ?_
   rotate_left
   ·intro w'
    go_simp
    with_reducible rfl
   rotate_left
   ·simp only [Act.put,s0,s1,s2,i64_w,i32_w]
    rfl
   refine tq (i:=14) (N:=some 53) (v:=?_) (a':=?_) rfl rfl (take_ofW HT_.out HW_.out (by kernel_rfl)) hHeld (Or.inl ⟨by rfl,?_⟩) ?_ ?_
   rotate_left
   ·rintro w' ⟨s0,s1,s2,s3,s4,s5,s6,s7⟩
    go_simp
    with_reducible rfl
   rotate_left
   ·simp only [Act.put,s0,s1,s2,i64_w,i32_w]
    rfl
   refine tq (i:=18) (N:=some 57) (v:=?_) (a':=?_) rfl rfl (take_ofW HT_.out HW_.out (by kernel_rfl)) hHeld (Or.inl ⟨by rfl,?_⟩) ?_ ?_
   rotate_left
   ·rintro w' ⟨s0,s1,s2,s3,s4,s5,s6,s7⟩
    go_simp
    with_reducible rfl
   rotate_left
   ·simp only [Act.put,s0,s1,s2,i64_w,i32_w]
    rfl
   refine pq (i:=19) (N:=some 58) (v:=?_) (a':=?_) rfl rfl (any_of HT_.out (by kernel_rfl)) (Or.inl ⟨by rfl,?_⟩) ?_ ?_
   rotate_left
   ·intro w'
    go_simp
    with_reducible rfl
   rotate_left
   ·simp only [Act.put,s0,s1,s2,i64_w,i32_w]
    rfl
   refine pq (i:=20) (N:=some 59) (v:=?_) (a':=?_) rfl rfl (any_of HT_.out (by kernel_rfl)) (Or.inl ⟨by rfl,?_⟩) ?_ ?_
   rotate_left
   ·intro w'
    go_simp
    with_reducible rfl
   rotate_left
   ·simp only [Act.put,s0,s1,s2,i64_w,i32_w]
    rfl
   refine pq (i:=21) (N:=some 60) (v:=?_) (a':=?_) rfl rfl (any_of HT_.out (by kernel_rfl)) (Or.inl ⟨by rfl,?_⟩) ?_ ?_
   rotate_left
   ·intro w'
    go_simp
    with_reducible rfl
   rotate_left
   ·simp only [Act.put,s0,s1,s2,i64_w,i32_w]
    rfl
   refine pq (i:=22) (N:=some 61) (v:=?_) (a':=?_) rfl rfl (any_of HT_.out (by kernel_rfl)) (Or.inl ⟨by rfl,?_⟩) ?_ ?_
   rotate_left
   ·intro w'
    go_simp
    with_reducible rfl
   rotate_left
   ·simp only [Act.put,s0,s1,s2,i64_w,i32_w]
    rfl
   refine pq (i:=24) (N:=some 63) (v:=?_) (a':=?_) rfl rfl (any_of HT_.out (by kernel_rfl)) (Or.inl ⟨by rfl,?_⟩) ?_ ?_
   rotate_left
   ·intro w'
    go_simp
    with_reducible rfl
   rotate_left
   ·simp only [Act.put,s0,s1,s2,i64_w,i32_w]
    rfl
   refine pq (i:=25) (N:=some 64) (v:=?_) (a':=?_) rfl rfl (any_of HT_.out (by kernel_rfl)) (Or.inl ⟨by rfl,?_⟩) ?_ ?_
   rotate_left
   ·intro w'
    go_simp
    with_reducible rfl
   rotate_left
   ·simp only [Act.put,s0,s1,s2,i64_w,i32_w]
    rfl
   refine pq (i:=26) (N:=some 65) (v:=?_) (a':=?_) rfl rfl (any_of HT_.out (by kernel_rfl)) (Or.inl ⟨by rfl,?_⟩) ?_ ?_
   rotate_left
   ·intro w'
    go_simp
    with_reducible rfl
   rotate_left
   ·simp only [Act.put,s0,s1,s2,i64_w,i32_w]
    rfl
   refine tq (i:=23) (N:=some 62) (v:=?_) (a':=?_) rfl rfl (take_ofW HT_.out HW_.out (by kernel_rfl)) hHeld (Or.inl ⟨by rfl,?_⟩) ?_ ?_
   rotate_left
   ·rintro w' ⟨s0,s1,s2,s3,s4,s5,s6,s7⟩
    go_simp
    with_reducible rfl
   rotate_left
   ·simp only [Act.put,s0,s1,s2,i64_w,i32_w]
    rfl
   refine tq (i:=27) (N:=some 66) (v:=?_) (a':=?_) rfl rfl (take_ofW HT_.out HW_.out (by kernel_rfl)) hHeld (Or.inl ⟨by rfl,?_⟩) ?_ ?_
   rotate_left
   ·rintro w' ⟨s0,s1,s2,s3,s4,s5,s6,s7⟩
    go_simp
    with_reducible rfl
   rotate_left
   ·simp only [Act.put,s0,s1,s2,i64_w,i32_w]
    rfl
   refine pq (i:=28) (N:=some 67) (v:=?_) (a':=?_) rfl rfl (any_of HT_.out (by kernel_rfl)) (Or.inl ⟨by rfl,?_⟩) ?_ ?_
   rotate_left
   ·intro w'
    go_simp
    with_reducible rfl
   rotate_left
   ·simp only [Act.put,s0,s1,s2,i64_w,i32_w]
    rfl
   refine pq (i:=29) (N:=some 68) (v:=?_) (a':=?_) rfl rfl (any_of HT_.out (by kernel_rfl)) (Or.inl ⟨by rfl,?_⟩) ?_ ?_
   rotate_left
   ·intro w'
    go_simp
    with_reducible rfl
   rotate_left
   ·simp only [Act.put,s0,s1,s2,i64_w,i32_w]
    rfl
   refine done_ (done_of HT_.out (by kernel_rfl)) ?_
   have B02:=Aside0.mk (blk_below B0.out HWc.out)
   have HB2:=Aside0.mk (below_step HB1.out HWc.out)
   clear hHeld
   go_wp2
   go_roundw
   case rel=>exact ⟨j+1,hlt,by go_num,⟨HB2.out,B02.out⟩,⟨HEH.out ▸ HOK.out⟩⟩
   case measure=>simp [intOf];omega
  ·obtain rfl : j=Fs.length:=by omega
   have hlb : decide ((Fs.length : Int) < (Fs.length : Int))=false:=by simp
   have HM : Aside0 (mayB Fs k=true):=⟨(mayB_iff H0.out).mpr ⟨H1.out,H2.out,H3.out,fun i h=>HG.out i h h⟩⟩
   obtain ⟨W,h,b,hs,hf⟩ : ∃ W h b,szs W h b=true ∧ ∀ F∈Fs,F.f0=W∧F.f1=h∧F.f2=b:=by
    have h1:=HG.out 0 H0.out H0.out
    refine ⟨_,_,_,(fits_of (F:=Fs[0]'H0.out) ?_).1,fun F hF=>?_⟩
    ·unfold good at h1
     simp only [Bool.and_eq_true] at h1
     exact h1.1.1.1
    ·obtain ⟨i,hi,rfl⟩:=List.mem_iff_getElem.mp hF
     have h2:=HG.out i hi hi
     unfold good at h2
     simp only [Bool.and_eq_true,beq_iff_eq] at h2
     exact ⟨h2.1.1.2,h2.1.2,h2.2⟩
   have hck : ∀ F∈Fs,chkF F=true:=fun F hF=>by
    obtain ⟨i,hi,rfl⟩:=List.mem_iff_getElem.mp hF
    have h2:=HG.out i hi hi
    unfold good at h2
    simp only [Bool.and_eq_true] at h2
    exact h2.1.1.1
   obtain ⟨qs,eqs⟩ : ∃ qs,Fs.map qF=qs:=⟨_,rfl⟩
   have hlen : qs.length=Fs.length:=by rw [← eqs,List.length_map]
   have hFs : Fs=qs.map (mkF W h b):=by
    rw [← eqs,List.map_map]
    refine (List.map_id' Fs).symm.trans (List.map_congr_left fun F hF=>?_)
    obtain ⟨e1,e2,e3⟩:=hf F hF
    show F=mkF W h b (qF F)
    rw [← e1,← e2,← e3,mkF_qF (hck F hF)]
   have hq : ∀ q∈qs,q.fits W h b:=fun q hq=>by
    rw [← eqs] at hq
    obtain ⟨F,hF,rfl⟩:=List.mem_map.mp hq
    obtain ⟨e1,e2,e3⟩:=hf F hF
    rw [← e1,← e2,← e3]
    exact (fits_of (hck F hF)).2
   obtain ⟨M,hM⟩ : ∃ M : Nat,(M : Int)=W * h * b:=⟨(W * h * b).toNat,by have:=szs_pos hs;omega⟩
   obtain ⟨k',rfl⟩ : ∃ k' : Nat,k=k':=⟨k.toNat,by have:=H2.out;omega⟩
   have HQ:=Aside0.mk (show (∀ q∈qs,q.fits W h b)∧Fs=qs.map (mkF W h b)∧tot qs < 9000000∧qs.length=Fs.length∧Fs.map qF=qs∧(∀ F∈Fs,F.f0=W∧F.f1=h∧F.f2=b) from ⟨hq,hFs,eqs ▸ hsz,hlen,eqs,hf⟩)
   have hkk : 1≤k'∧k'≤64:=⟨by have:=H2.out;omega,by have:=H3.out;omega⟩
   clear hq hFs hlen eqs hf hck hsz HG H2 H3
   have hmk:=make51 hkk.2
   go_upto_region 10 with fail
   clear hmk
   obtain ⟨ad,_,_,_,_,e1,z0,z1,z2,_,_,_,_⟩:=at_film0 HR.out H0.out rfl
   subst e1
   obtain ⟨e1,e2,e3⟩:=HQ.out.2.2.2.2.2 _ (List.getElem_mem (n:=0) H0.out)
   rw [e1,ad_zero] at z0
   rw [e2,ad_zero] at z1
   rw [e3,ad_zero] at z2
   have hbq : Below wr.heap.size wr (wr.alloc (.cells (wcs (List.replicate k' (0,0))).toArray 51)):=below_alloc (Below.refl wr.heap.size wr) _
   have hbp : Below wr.heap.size wr ((wr.alloc (.cells (wcs (List.replicate k' (0,0))).toArray 51)).alloc (.cells #[.int .i64 0,.int .i64 0,.int .i64 0,.slice none 0 0,.slice none 0 0,.slice (some ad) Fs.length c0,.int .i64 0,.bool false,.slice (some ⟨wr.heap.size,0,none⟩) k' k',.slice none 0 0] 45)):=below_alloc hbq _
   have hBQ:=blk_alloc (blk_new wr (.cells (wcs (List.replicate k' (0,0))).toArray 51)) (.cells #[.int .i64 0,.int .i64 0,.int .i64 0,.slice none 0 0,.slice none 0 0,.slice (some ad) Fs.length c0,.int .i64 0,.bool false,.slice (some ⟨wr.heap.size,0,none⟩) k' k',.slice none 0 0] 45)
   have hBP:=blk_new (wr.alloc (.cells (wcs (List.replicate k' (0,0))).toArray 51)) (.cells #[.int .i64 0,.int .i64 0,.int .i64 0,.slice none 0 0,.slice none 0 0,.slice (some ad) Fs.length c0,.int .i64 0,.bool false,.slice (some ⟨wr.heap.size,0,none⟩) k' k',.slice none 0 0] 45)
   rw [show (wr.alloc (.cells (wcs (List.replicate k' (0,0))).toArray 51)).heap.size=wr.heap.size+1 by simp] at hBP
   obtain ⟨P,eP⟩ : ∃ P,wr.heap.size+1=P:=⟨_,rfl⟩
   obtain ⟨Q,eQ⟩ : ∃ Q,wr.heap.size=Q:=⟨_,rfl⟩
   have HE:=Aside0.mk (show wr.heap.size≤P∧wr.heap.size≤Q∧w.heap.size < Q from ⟨by omega,by omega,by rw [← eQ];exact blk_lt HB.out.2⟩)
   obtain ⟨wp,hwp⟩ : ∃ z,(wr.alloc (.cells (wcs (List.replicate k' (0,0))).toArray 51)).alloc (.cells #[.int .i64 0,.int .i64 0,.int .i64 0,.slice none 0 0,.slice none 0 0,.slice (some ad) Fs.length c0,.int .i64 0,.bool false,.slice (some ⟨wr.heap.size,0,none⟩) k' k',.slice none 0 0] 45)=z:=⟨_,rfl⟩
   rw [hwp] at hBQ hBP hbp ⊢
   rw [eP] at hBP ⊢
   have HBP : Aside0 (Below wr.heap.size wr wp):=⟨hbp⟩
   rw [eQ] at hBP hBQ ⊢
   have BP:=Aside0.mk hBP
   have BQ:=Aside0.mk hBQ
   have HZS:=Aside0.mk (And.intro (keepc hbp (keepc HB.out.1 z0)) (And.intro (keepc hbp (keepc HB.out.1 z1)) (keepc hbp (keepc HB.out.1 z2))))
   have HKK:=Aside0.mk hkk
   clear z0 z1 z2 hbq hbp hBP hBQ eP eQ hwp e1 e2 e3 hkk hlt hj
   have h0:=H0.out
   refine start_ (n:=20) (S:=fun w'=>w'.cell? ad=some (.int .i64 W)∧w'.cell? ⟨ad.block,ad.off+1,none⟩=some (.int .i64 h)∧w'.cell? ⟨ad.block,ad.off+2,none⟩=some (.int .i64 b)) (ds:=[19]) #[false,false,false,false,false,false,false,false,false,false,false,false,false,false,false,false,false,false,false,false] (by kernel_rfl) rfl rfl ⟨HZS.out.1,HZS.out.2.1,HZS.out.2.2⟩ (fun hHeld=>?_)
   refine with_tabW pool_Play.tab10 pool_Play.bits10 (fun HT_ HW_=>?_)
   refine pq (i:=0) (N:=some 77) (v:=?_) (a':=?_) rfl rfl (any_of HT_.out (by kernel_rfl)) (Or.inl ⟨by rfl,?_⟩) ?_ ?_
   rotate_left
   ·intro w'
    go_simp
    with_reducible rfl
   rotate_left
   ·simp only [Act.put,s0,s1,s2,i64_w,i32_w]
    rfl
   refine pq (i:=1) (N:=some 78) (v:=?_) (a':=?_) rfl rfl (any_of HT_.out (by kernel_rfl)) (Or.inl ⟨by rfl,?_⟩) ?_ ?_
   rotate_left
   ·intro w'
    go_simp
    with_reducible rfl
   rotate_left
   ·simp only [Act.put,s0,s1,s2,i64_w,i32_w]
    rfl
   refine pq (i:=2) (N:=some 79) (v:=?_) (a':=?_) rfl rfl (any_of HT_.out (by kernel_rfl)) (Or.inl ⟨by rfl,?_⟩) ?_ ?_
   rotate_left
   ·intro w'
    go_simp
    with_reducible rfl
   rotate_left
   ·simp only [Act.put,s0,s1,s2,i64_w,i32_w]
    rfl
   refine pq (i:=3) (N:=some 80) (v:=?_) (a':=?_) rfl rfl (any_of HT_.out (by kernel_rfl)) (Or.inl ⟨by rfl,?_⟩) ?_ ?_
   rotate_left
   ·intro w'
    go_simp
    with_reducible rfl
   rotate_left
   ·simp only [Act.put,s0,s1,s2,i64_w,i32_w]
    rfl
   refine pq (i:=5) (N:=some 82) (v:=?_) (a':=?_) rfl rfl (any_of HT_.out (by kernel_rfl)) (Or.inl ⟨by rfl,?_⟩) ?_ ?_
   rotate_left
   ·intro w'
    go_simp
    with_reducible rfl
   rotate_left
   ·simp only [Act.put,s0,s1,s2,i64_w,i32_w]
    rfl
   refine pq (i:=6) (N:=some 83) (v:=?_) (a':=?_) rfl rfl (any_of HT_.out (by kernel_rfl)) (Or.inl ⟨by rfl,?_⟩) ?_ ?_
   rotate_left
   ·intro w'
    go_simp
    with_reducible rfl
   rotate_left
   ·simp only [Act.put,s0,s1,s2,i64_w,i32_w]
    rfl
   refine pq (i:=7) (N:=some 84) (v:=?_) (a':=?_) rfl rfl (any_of HT_.out (by kernel_rfl)) (Or.inl ⟨by rfl,?_⟩) ?_ ?_
   rotate_left
   ·intro w'
    go_simp
    with_reducible rfl
   rotate_left
   ·simp only [Act.put,s0,s1,s2,i64_w,i32_w]
    rfl
   refine pq (i:=9) (N:=some 86) (v:=?_) (a':=?_) rfl rfl (any_of HT_.out (by kernel_rfl)) (Or.inl ⟨by rfl,?_⟩) ?_ ?_
   rotate_left
   ·intro w'
    go_simp
    with_reducible rfl
   rotate_left
   ·simp only [Act.put,s0,s1,s2,i64_w,i32_w]
    rfl
   refine pq (i:=10) (N:=some 87) (v:=?_) (a':=?_) rfl rfl (any_of HT_.out (by kernel_rfl)) (Or.inl ⟨by rfl,?_⟩) ?_ ?_
   rotate_left
   ·intro w'
    go_simp
    with_reducible rfl
   rotate_left
   ·simp only [Act.put,s0,s1,s2,i64_w,i32_w]
    rfl
   refine pq (i:=11) (N:=some 88) (v:=?_) (a':=?_) rfl rfl (any_of HT_.out (by kernel_rfl)) (Or.inl ⟨by rfl,?_⟩) ?_ ?_
   rotate_left
   ·intro w'
    go_simp
    with_reducible rfl
   rotate_left
   ·simp only [Act.put,s0,s1,s2,i64_w,i32_w]
    rfl
   refine tq (i:=4) (N:=some 81) (v:=?_) (a':=?_) rfl rfl (take_ofW HT_.out HW_.out (by kernel_rfl)) hHeld (Or.inl ⟨by rfl,?_⟩) ?_ ?_
   rotate_left
   ·rintro w' ⟨s0,s1,s2⟩
    go_simp
    with_reducible rfl
   rotate_left
   ·simp only [Act.put,s0,s1,s2,i64_w,i32_w]
    rfl
   refine tq (i:=8) (N:=some 85) (v:=?_) (a':=?_) rfl rfl (take_ofW HT_.out HW_.out (by kernel_rfl)) hHeld (Or.inl ⟨by rfl,?_⟩) ?_ ?_
   rotate_left
   ·rintro w' ⟨s0,s1,s2⟩
    go_simp
    with_reducible rfl
   rotate_left
   ·simp only [Act.put,s0,s1,s2,i64_w,i32_w]
    rfl
   refine tq (i:=12) (N:=some 89) (v:=?_) (a':=?_) rfl rfl (take_ofW HT_.out HW_.out (by kernel_rfl)) hHeld (Or.inl ⟨by rfl,?_⟩) ?_ ?_
   rotate_left
   ·rintro w' ⟨s0,s1,s2⟩
    go_simp
    with_reducible rfl
   rotate_left
   ·simp only [Act.put,s0,s1,s2,i64_w,i32_w]
    rfl
   refine one_ (i:=13) (N:=some 90) #[true,true,true,true,true,true,true,true,true,true,true,true,true,true,false,false,false,false,false,false] rfl rfl (one_of HT_.out (by kernel_rfl)) (by decide) (fun K hK=>?_)
   obtain ⟨wc,hwc⟩ : ∃ z,wp.drew=z:=⟨_,rfl⟩
   have HWc : Aside0 (Below wp.heap.size wp wc):=⟨by rw [← hwc];exact below_drew1 (Below.refl _ _)⟩
   rw [hwc]
   clear hwc
   refine goes_ Try.func17 (by kernel_rfl) rfl #[.int .i64 W,.int .i64 h,.int .i64 b] (by rfl) rfl rfl (by simp only [List.map_toArray,List.map_cons,List.map_nil];rfl) ?_
   with_reducible refine (new_sem hs hM wc).mono ?_
   rintro e w1 ⟨ae,ce,ae2,ce2,rfl,lce,lce2,hrw,hb⟩
   refine ⟨_,rfl,?_⟩
   have HRW:=Aside0.mk (hrw.lower (Nat.le_trans HBP.out.size HWc.out.size))
   have HLC:=Aside0.mk (And.intro lce lce2)
   replace HWc:=Aside0.mk (below_step HWc.out hb)
   clear hb hrw lce lce2
   refine hK.out _ _ ⟨keepc HWc.out HZS.out.1,keepc HWc.out HZS.out.2.1,keepc HWc.out HZS.out.2.2⟩ (fun hHeld=>?_)
   clear hK K
   refine norm_ (a':=?_) ?_ ?_
   rotate_left
   ·show Act.put _ (some 90) _=_
    simp only [Act.put,s0,s1,s2,i64_w,i32_w]
    rfl
   refine pq (i:=14) (N:=some 76) (v:=?_) (a':=?_) rfl rfl (any_of HT_.out (by kernel_rfl)) (Or.inl ⟨by rfl,?_⟩) ?_ ?_
   rotate_left
   ·intro w'
    go_simp
    with_reducible rfl
   rotate_left
   ·simp only [Act.put,s0,s1,s2,i64_w,i32_w]
    rfl
   refine pq (i:=15) (N:=some 91) (v:=?_) (a':=?_) rfl rfl (any_of HT_.out (by kernel_rfl)) (Or.inl ⟨by rfl,?_⟩) ?_ ?_
   rotate_left
   ·intro w'
    go_simp
    with_reducible rfl
   rotate_left
   ·simp only [Act.put,s0,s1,s2,i64_w,i32_w]
    rfl
   refine pq (i:=16) (N:=some 92) (v:=?_) (a':=?_) rfl rfl (any_of HT_.out (by kernel_rfl)) (Or.inl ⟨by rfl,?_⟩) ?_ ?_
   rotate_left
   ·intro w'
    go_simp
    with_reducible rfl
   rotate_left
   ·simp only [Act.put,s0,s1,s2,i64_w,i32_w]
    rfl
   refine pq (i:=17) (N:=some 93) (v:=?_) (a':=?_) rfl rfl (any_of HT_.out (by kernel_rfl)) (Or.inl ⟨by rfl,?_⟩) ?_ ?_
   rotate_left
   ·intro w'
    go_simp
    with_reducible rfl
   rotate_left
   ·simp only [Act.put,s0,s1,s2,i64_w,i32_w]
    rfl
   refine pq (i:=18) (N:=some 94) (v:=?_) (a':=?_) rfl rfl (any_of HT_.out (by kernel_rfl)) (Or.inl ⟨by rfl,?_⟩) ?_ ?_
   rotate_left
   ·intro w'
    go_simp
    with_reducible rfl
   rotate_left
   ·simp only [Act.put,s0,s1,s2,i64_w,i32_w]
    rfl
   refine last_ (i:=19) (N:=none) #[true,true,true,true,true,true,true,true,true,true,true,true,true,true,true,true,true,true,true,true] rfl rfl (one_of HT_.out (by kernel_rfl)) (by decide) (fun K hK=>?_)
   have q0:=cells10 (blk_below BP.out HWc.out)
   have q1:=free10 (blk_below BP.out HWc.out)
   refine skip_ (w1:=?_) (by rfl) rfl ?_ ?_
   rotate_left
   ·go_simp
    rfl
   clear q0 q1
   refine hK.out _ _ ?_
   clear hK K
   refine done_ (done_of HT_.out (by kernel_rfl)) ?_
   have HSt : Aside0 (PlaySt wr (((((w1.setCell ⟨P,0,none⟩ (.int .i64 W)).setCell ⟨P,1,none⟩ (.int .i64 h)).setCell ⟨P,2,none⟩ (.int .i64 b)).setCell ⟨P,3,none⟩ (.slice (some ae) M ce)).setCell ⟨P,4,none⟩ (.slice (some ae2) M ce2)) P ⟨Q,0,none⟩ W h b M (some ad) Fs.length c0 k' (PS.after Fs.length k' picks 0) (filmOf (zeroQ M) qs (PS.after Fs.length k' picks 0).done)):=⟨by
    have hp1:=blk_below BP.out HWc.out
    have hq1:=blk_below BQ.out HWc.out
    have hne : Q≠P:=fun e=>by
     rw [e,hp1] at hq1
     injection hq1 with h1
     injection h1 with _ h2 _
     exact absurd h2 (by decide)
    exact ⟨low5 (g:=P) (below_step HBP.out HWc.out) HE.out.1 _ _ _ _ _,HE.out.1,HE.out.2.1,⟨ae,ce,ae2,ce2,.slice none 0 0,put10 hp1 _ _ _ _ _,HLC.out.1,HLC.out.2,HRW.out.tk (tk_set5 hp1 (by decide) _ _ _ _ _ inferInstance),own_nil _ _ _ _⟩,⟨rfl,far5 hq1 hne _ _ _ _ _⟩⟩⟩
   clear HRW HLC HWc BP BQ HBP HZS hHeld
   obtain ⟨w3,hw3⟩ : ∃ z,((((w1.setCell ⟨P,0,none⟩ (.int .i64 W)).setCell ⟨P,1,none⟩ (.int .i64 h)).setCell ⟨P,2,none⟩ (.int .i64 b)).setCell ⟨P,3,none⟩ (.slice (some ae) M ce)).setCell ⟨P,4,none⟩ (.slice (some ae2) M ce2)=z:=⟨_,rfl⟩
   rw [hw3] at HSt ⊢
   clear hw3
   go_wp2
   go_loopw [13] (fun x ws=>∃ t : Nat,t≤4 * Fs.length∧x=.int .i64 t∧Aside0 (PlaySt wr ws P ⟨Q,0,none⟩ W h b M (some ad) Fs.length c0 k' (PS.after Fs.length k' picks t) (filmOf (zeroQ M) qs (PS.after Fs.length k' picks t).done))) (fun x _=>4 * Fs.length - (intOf x).toNat)
   case atStart=>exact ⟨0,Nat.zero_le _,rfl,HSt⟩
   case round =>
    obtain ⟨t,ht,rfl,HS⟩:=hrel
    clear HSt
    obtain ⟨hok,hrest⟩:=after_ok Fs.length k' picks t HKK.out.1 ht
    obtain ⟨s,es⟩ : ∃ s,PS.after Fs.length k' picks t=s:=⟨_,rfl⟩
    rw [es] at HS hok hrest
    obtain ⟨ax,cx,ax2,cx2,dv,hp,hl1,hl2,hrx,hdx⟩:=HS.out.ex
    have hen : (s.en Fs.length).length≤64:=by
     have h1 : (s.en Fs.length).length≤(List.range s.ws.length).length:=List.length_filter_le _ _
     rw [List.length_range,hok.len] at h1
     have:=HKK.out.2
     omega
    have HC:=Aside0.mk (And.intro hp (And.intro hok.len HS.out.wk))
    have HOK:=Aside0.mk (And.intro hok (And.intro hrest es))
    obtain ⟨en,een⟩ : ∃ en,s.en Fs.length=en:=⟨_,rfl⟩
    obtain ⟨l,el⟩ : ∃ l,en.length=l:=⟨_,rfl⟩
    have HEN:=Aside0.mk (And.intro een el)
    rw [een,el] at hen
    by_cases hl0 : l=0
    ·have hnil : s.en Fs.length=[]:=by rw [een];exact List.length_eq_zero_iff.mp (el.trans hl0)
     obtain ⟨r0,r1,_⟩:=rest_of_stuck hok HKK.out.1 hnil
     have HT : Aside0 (t=4 * Fs.length∧s.done.Perm (List.range Fs.length)):=⟨by omega,r1⟩
     have cl : ((l : Int) == 0)=true:=beq_iff_eq.mpr (by omega)
     obtain ⟨Ad,cd,edv⟩:=own_slice hdx
     rw [List.length_map] at edv
     subst edv
     have HX:=Aside0.mk (And.intro hl1 (And.intro hl2 (And.intro hrx hdx)))
     clear hp hok hrest es een el hl0 hnil r0 r1 ht hl1 hl2 hrx hdx
     go_upto_region 15 with (first
     |(go_at_call 18;(with_reducible refine (enabled2 HC.out.1 HC.out.2.1 HKK.out.2 HC.out.2.2 HEN.out.1 HEN.out.2).mono ?_);rintro e w1 ⟨Ae,cE,rfl,hi,hb⟩;have HB1:=Aside0.mk hb;clear hi hb))
     have HNP:=Aside0.mk (show P≠w.heap.size by have h1:=HE.out.1;have h2:=blk_lt HB.out.2;omega)
     have BX:=Aside0.mk (blk_below (blk_below HB.out.2 HS.out.lo) HB1.out)
     refine start_ (n:=13) (S:=fun w'=>w'.cell? ⟨P,0,none⟩=some (.int .i64 W)∧w'.cell? ⟨P,1,none⟩=some (.int .i64 h)∧w'.cell? ⟨P,2,none⟩=some (.int .i64 b)∧w'.cell? ⟨P,3,none⟩=some (.slice (some ax) M cx)∧w'.cell? ⟨P,4,none⟩=some (.slice (some ax2) M cx2)∧w'.cell? ⟨P,9,none⟩=some (.slice Ad s.done.length cd)) (ds:=[]) #[false,false,false,false,false,false,false,false,false,false,false,false,false] (by kernel_rfl) rfl rfl ⟨(cells10 (blk_below HC.out.1 HB1.out)).1,(cells10 (blk_below HC.out.1 HB1.out)).2.1,(cells10 (blk_below HC.out.1 HB1.out)).2.2.1,(cells10 (blk_below HC.out.1 HB1.out)).2.2.2.1,(cells10 (blk_below HC.out.1 HB1.out)).2.2.2.2.1,(cells10 (blk_below HC.out.1 HB1.out)).2.2.2.2.2.2.2.2.2⟩ (fun hHeld=>?_)
     refine with_tabW pool_Play.tab15 pool_Play.bits15 (fun HT_ HW_=>?_)
     refine pq (i:=0) (N:=some 102) (v:=?_) (a':=?_) rfl rfl (any_of HT_.out (by kernel_rfl)) (Or.inl ⟨by rfl,?_⟩) ?_ ?_
     rotate_left
     ·intro w'
      go_simp
      with_reducible rfl
     rotate_left
     ·simp only [Act.put,s0,s1,s2,i64_w,i32_w]
      rfl
     refine pq (i:=1) (N:=some 103) (v:=?_) (a':=?_) rfl rfl (any_of HT_.out (by kernel_rfl)) (Or.inl ⟨by rfl,?_⟩) ?_ ?_
     rotate_left
     ·intro w'
      go_simp
      with_reducible rfl
     rotate_left
     ·simp only [Act.put,s0,s1,s2,i64_w,i32_w]
      rfl
     refine pq (i:=2) (N:=some 104) (v:=?_) (a':=?_) rfl rfl (any_of HT_.out (by kernel_rfl)) (Or.inl ⟨by rfl,?_⟩) ?_ ?_
     rotate_left
     ·intro w'
      go_simp
      with_reducible rfl
     rotate_left
     ·simp only [Act.put,s0,s1,s2,i64_w,i32_w]
      rfl
     refine pq (i:=4) (N:=some 106) (v:=?_) (a':=?_) rfl rfl (any_of HT_.out (by kernel_rfl)) (Or.inl ⟨by rfl,?_⟩) ?_ ?_
     rotate_left
     ·intro w'
      go_simp
      with_reducible rfl
     rotate_left
     ·simp only [Act.put,s0,s1,s2,i64_w,i32_w]
      rfl
     refine pq (i:=5) (N:=some 107) (v:=?_) (a':=?_) rfl rfl (any_of HT_.out (by kernel_rfl)) (Or.inl ⟨by rfl,?_⟩) ?_ ?_
     rotate_left
     ·intro w'
      go_simp
      with_reducible rfl
     rotate_left
     ·simp only [Act.put,s0,s1,s2,i64_w,i32_w]
      rfl
     refine pq (i:=6) (N:=some 108) (v:=?_) (a':=?_) rfl rfl (any_of HT_.out (by kernel_rfl)) (Or.inl ⟨by rfl,?_⟩) ?_ ?_
     rotate_left
     ·intro w'
      go_simp
      with_reducible rfl
     rotate_left
     ·simp only [Act.put,s0,s1,s2,i64_w,i32_w]
      rfl
     refine pq (i:=8) (N:=some 110) (v:=?_) (a':=?_) rfl rfl (any_of HT_.out (by kernel_rfl)) (Or.inl ⟨by rfl,?_⟩) ?_ ?_
     rotate_left
     ·intro w'
      go_simp
      with_reducible rfl
     rotate_left
     ·simp only [Act.put,s0,s1,s2,i64_w,i32_w]
      rfl
     refine tq (i:=3) (N:=some 105) (v:=?_) (a':=?_) rfl rfl (take_ofW HT_.out HW_.out (by kernel_rfl)) hHeld (Or.inl ⟨by rfl,?_⟩) ?_ ?_
     rotate_left
     ·rintro w' ⟨s0,s1,s2,s3,s4,s5⟩
      go_simp
      with_reducible rfl
     rotate_left
     ·simp only [Act.put,s0,s1,s2,i64_w,i32_w]
      rfl
     refine tq (i:=7) (N:=some 109) (v:=?_) (a':=?_) rfl rfl (take_ofW HT_.out HW_.out (by kernel_rfl)) hHeld (Or.inl ⟨by rfl,?_⟩) ?_ ?_
     rotate_left
     ·rintro w' ⟨s0,s1,s2,s3,s4,s5⟩
      go_simp
      with_reducible rfl
     rotate_left
     ·simp only [Act.put,s0,s1,s2,i64_w,i32_w]
      rfl
     refine one_ (i:=9) (N:=none) #[true,true,true,true,true,true,true,true,true,true,false,false,false] rfl rfl (one_of HT_.out (by kernel_rfl)) (by decide) (fun K hK=>?_)
     obtain ⟨wc,hwc⟩ : ∃ z,w1.drew=z:=⟨_,rfl⟩
     have HWc : Aside0 (Below w1.heap.size w1 wc):=⟨by rw [← hwc];exact below_drew1 (Below.refl _ _)⟩
     rw [hwc]
     clear hwc
     have q0:=cells5 (blk_below BX.out HWc.out)
     have q1:=free5 (blk_below BX.out HWc.out)
     refine skip_ (w1:=?_) (by rfl) rfl ?_ ?_
     rotate_left
     ·go_simp
      rfl
     clear q0 q1
     refine hK.out _ _ ⟨(cells10 (far5 (blk_below (blk_below HC.out.1 HB1.out) HWc.out) HNP.out _ _ _ _ _)).1,(cells10 (far5 (blk_below (blk_below HC.out.1 HB1.out) HWc.out) HNP.out _ _ _ _ _)).2.1,(cells10 (far5 (blk_below (blk_below HC.out.1 HB1.out) HWc.out) HNP.out _ _ _ _ _)).2.2.1,(cells10 (far5 (blk_below (blk_below HC.out.1 HB1.out) HWc.out) HNP.out _ _ _ _ _)).2.2.2.1,(cells10 (far5 (blk_below (blk_below HC.out.1 HB1.out) HWc.out) HNP.out _ _ _ _ _)).2.2.2.2.1,(cells10 (far5 (blk_below (blk_below HC.out.1 HB1.out) HWc.out) HNP.out _ _ _ _ _)).2.2.2.2.2.2.2.2.2⟩ (fun hHeld=>?_)
     clear hK K
     refine pq (i:=10) (N:=some 7) (v:=?_) (a':=?_) rfl rfl (any_of HT_.out (by kernel_rfl)) (Or.inl ⟨by rfl,?_⟩) ?_ ?_
     rotate_left
     ·intro w'
      go_simp
      with_reducible rfl
     rotate_left
     ·simp only [Act.put,s0,s1,s2,i64_w,i32_w]
      rfl
     refine pq (i:=11) (N:=some 8) (v:=?_) (a':=?_) rfl rfl (any_of HT_.out (by kernel_rfl)) (Or.inl ⟨by rfl,?_⟩) ?_ ?_
     rotate_left
     ·intro w'
      go_simp
      with_reducible rfl
     rotate_left
     ·simp only [Act.put,s0,s1,s2,i64_w,i32_w]
      rfl
     refine pq (i:=12) (N:=some 9) (v:=?_) (a':=?_) rfl rfl (any_of HT_.out (by kernel_rfl)) (Or.inl ⟨by rfl,?_⟩) ?_ ?_
     rotate_left
     ·intro w'
      go_simp
      with_reducible rfl
     rotate_left
     ·simp only [Act.put,s0,s1,s2,i64_w,i32_w]
      rfl
     refine done_ (done_of HT_.out (by kernel_rfl)) ?_
     clear hHeld
     go_wp2
     refine bodyPost_ret (results_cttt rfl _ _ w.heap.size 27 _ (0,0) _ rfl (put5 (blk_below BX.out HWc.out) (.int .i64 W) (.int .i64 h) (.int .i64 b) (.slice (some ax) M cx) (.slice (some ax2) M cx2)) Try.underlying27 rfl (by kernel_rfl)) rfl ?_
     have hbw : Below w.heap.size w wc:=below_step HB.out.1 (below_step (below_step HS.out.lo HB1.out) HWc.out)
     have k5 : Tk [3,63,82] wc (set5 wc w.heap.size (.int .i64 W) (.int .i64 h) (.int .i64 b) (.slice (some ax) M cx) (.slice (some ax2) M cx2)):=tk_set5 (blk_below BX.out HWc.out) (by decide) _ _ _ _ _ inferInstance
     have hne : qs≠[]:=fun e=>by
      have h1:=HQ.out.2.2.2.1
      rw [e] at h1
      have h2:=H0.out
      rw [← h1] at h2
      exact absurd h2 (by decide)
     refine ⟨low5 (g:=w.heap.size) hbw (Nat.le_refl _) (.int .i64 W) (.int .i64 h) (.int .i64 b) (.slice (some ax) M cx) (.slice (some ax2) M cx2),.inr ⟨HM.out,W,h,b,M,hs,hM,HQ.out.2.2.2.2.2,ax,cx,ax2,cx2,.slice Ad s.done.length cd,by rw [← HT.out.1];rfl,HX.out.1,HX.out.2.1,?_,?_⟩⟩
     ·rw [HQ.out.2.2.2.2.1,← filmOf_all HQ.out.2.2.2.1.symm hne HT.out.2 (fun q hq=>zero_add hM (HQ.out.1 q hq))]
      exact (((HX.out.2.2.1.below HB1.out).below HWc.out).tk (k5.less (by simp))).lower HB.out.1.size
     ·rw [Int.toNat_natCast,← HT.out.1,HOK.out.2.2]
      exact own_weaken (IRow.tk (pw_own_below (pw_own_below HX.out.2.2.2 HB1.out) HWc.out) (k5.less (by simp))) HB.out.1.size
    ·have hnil : s.en Fs.length≠[]:=fun e=>hl0 (by rw [← el,← een,e];rfl)
     obtain ⟨_,r1⟩:=next_ok (picks:=picks) (t:=t) hok hnil
     have hl1 : 0 < l:=by omega
     have hgo:=pick_en (picks:=picks) (t:=t) hnil
     unfold PS.pick at hgo
     rw [een,el] at hgo
     obtain ⟨a,ea⟩ : ∃ a,pickAt picks t l=a:=⟨_,rfl⟩
     have hal : a < l:=by rw [← ea];exact pickAt_lt hl1
     obtain ⟨i,ei⟩ : ∃ i,en.getD a 0=i:=⟨_,rfl⟩
     rw [ea,ei] at hgo
     have hik : i < k':=by have:=hok.len;omega
     have HT : Aside0 (t+1≤4 * Fs.length∧PS.after Fs.length k' picks (t+1)=s.step i∧i < s.ws.length∧en.getD a 0=i∧a < en.length):=⟨by omega,by show (PS.after Fs.length k' picks t).next Fs.length picks t=s.step i;rw [es];unfold PS.next PS.pick;rw [een,el,ea,ei],hgo.1,ei,by omega⟩
     have cl : ((l : Int) == 0)=false:=beq_eq_false_iff_ne.mpr (by omega)
     have hc8:=(cells10 hp).2.2.2.2.2.2.2.2.1
     by_cases hp : t < picks.length
     ·have cp1 : decide ((t : Int) < (picks.length : Int))=true:=decide_eq_true (by omega)
      have hpa : (picks.getD t 0 % (l : Int)).toNat=a:=by rw [← ea];unfold pickAt;rw [if_pos hp]
      have hpv:=pick_val (picks.getD t 0) hl1 hen
      rw [hpa] at hpv
      obtain ⟨p,ep⟩ : ∃ p,picks.getD t 0=p:=⟨_,rfl⟩
      rw [ep] at hpv
      have HEP:=Aside0.mk ep
      have clb : ((l : Int) != 0)=true:=bne_iff_ne.mpr (by omega)
      clear hok hrest es een el hl0 hnil r1 ht hgo ea ei hpa ep
      go_upto_region 19 with (first
      |(go_at_call 18;(with_reducible refine (enabled2 HC.out.1 HC.out.2.1 HKK.out.2 HC.out.2.2 HEN.out.1 HEN.out.2).mono ?_);rintro e w1 ⟨Ae,cE,rfl,hi,hb⟩;have HB1:=Aside0.mk hb;obtain ⟨g,eg,hga⟩:=IRow.at hi HT.out.2.2.2.2;rw [HT.out.2.2.2.1] at hga;subst eg;obtain ⟨pd,epd,hpd⟩:=Kd.at_int (Kd.C_below (Kd.C_below (Kd.C_below HP.out HB.out.1) HS.out.lo) hb) (t : Int) (by omega) (by omega);subst epd;rw [Int.toNat_natCast,show rd picks (t : Int)=picks.getD t 0 by unfold rd;rw [Int.toNat_natCast],HEP.out] at hpd;replace hc8:=keepc hb hc8;clear hi hb))
      refine start_ (n:=11) (S:=fun w'=>w'.cell? ⟨P,8,none⟩=some (.slice (some ⟨Q,0,none⟩) k' k')∧w'.cell? ⟨g,a,none⟩=some (.int .i64 i)) (ds:=[10]) #[false,false,false,false,false,false,false,false,false,false,false] (by kernel_rfl) rfl rfl ⟨hc8,hga⟩ (fun hHeld=>?_)
      refine with_tabW pool_Play.tab19 pool_Play.bits19 (fun HT_ HW_=>?_)
      refine pq (i:=0) (N:=some 128) (v:=?_) (a':=?_) rfl rfl (any_of HT_.out (by kernel_rfl)) (Or.inl ⟨by rfl,?_⟩) ?_ ?_
      rotate_left
      ·intro w'
       go_simp
       with_reducible rfl
      rotate_left
      ·simp only [Act.put,s0,s1,s2,i64_w,i32_w]
       rfl
      refine pq (i:=1) (N:=some 129) (v:=?_) (a':=?_) rfl rfl (any_of HT_.out (by kernel_rfl)) (Or.inl ⟨by rfl,?_⟩) ?_ ?_
      rotate_left
      ·intro w'
       go_simp
       with_reducible rfl
      rotate_left
      ·simp only [Act.put,s0,s1,s2,i64_w,i32_w]
       rfl
      refine pq (i:=2) (N:=some 130) (v:=?_) (a':=?_) rfl rfl (any_of HT_.out (by kernel_rfl)) (Or.inl ⟨by rfl,?_⟩) ?_ ?_
      rotate_left
      ·intro w'
       go_simp
       with_reducible rfl
      rotate_left
      ·simp only [Act.put,s0,s1,s2,i64_w,i32_w]
       rfl
      refine pq (i:=3) (N:=some 131) (v:=?_) (a':=?_) rfl rfl (any_of HT_.out (by kernel_rfl)) (Or.inl ⟨by rfl,?_⟩) ?_ ?_
      rotate_left
      ·intro w'
       go_simp
       with_reducible rfl
      rotate_left
      ·simp only [Act.put,s0,s1,s2,i64_w,i32_w]
       rfl
      refine pq (i:=5) (N:=some 133) (v:=?_) (a':=?_) rfl rfl (any_of HT_.out (by kernel_rfl)) (Or.inl ⟨by rfl,?_⟩) ?_ ?_
      rotate_left
      ·intro w'
       go_simp
       with_reducible rfl
      rotate_left
      ·simp only [Act.put,s0,s1,s2,i64_w,i32_w]
       rfl
      refine pq (i:=6) (N:=some 134) (v:=?_) (a':=?_) rfl rfl (any_of HT_.out (by kernel_rfl)) (Or.inl ⟨by rfl,?_⟩) ?_ ?_
      rotate_left
      ·intro w'
       go_simp
       with_reducible rfl
      rotate_left
      ·simp only [Act.put,s0,s1,s2,i64_w,i32_w]
       rfl
      refine pq (i:=7) (N:=some 135) (v:=?_) (a':=?_) rfl rfl (any_of HT_.out (by kernel_rfl)) (Or.inl ⟨by rfl,?_⟩) ?_ ?_
      rotate_left
      ·intro w'
       go_simp
       with_reducible rfl
      rotate_left
      ·simp only [Act.put,s0,s1,s2,i64_w,i32_w]
       rfl
      refine tq (i:=4) (N:=some 132) (v:=?_) (a':=?_) rfl rfl (take_ofW HT_.out HW_.out (by kernel_rfl)) hHeld (Or.inl ⟨by rfl,?_⟩) ?_ ?_
      rotate_left
      ·rintro w' ⟨s0,s1⟩
       go_simp
       with_reducible rfl
      rotate_left
      ·simp only [Act.put,s0,s1,s2,i64_w,i32_w]
       rfl
      refine tq (i:=8) (N:=some 136) (v:=?_) (a':=?_) rfl rfl (take_ofW HT_.out HW_.out (by kernel_rfl)) hHeld (Or.inl ⟨by rfl,?_⟩) ?_ ?_
      rotate_left
      ·rintro w' ⟨s0,s1⟩
       go_simp
       with_reducible rfl
      rotate_left
      ·simp only [Act.put,s0,s1,s2,i64_w,i32_w]
       rfl
      refine pq (i:=9) (N:=some 137) (v:=?_) (a':=?_) rfl rfl (any_of HT_.out (by kernel_rfl)) (Or.inl ⟨by rfl,?_⟩) ?_ ?_
      rotate_left
      ·intro w'
       go_simp
       with_reducible rfl
      rotate_left
      ·simp only [Act.put,s0,s1,s2,i64_w,i32_w]
       rfl
      refine last_ (i:=10) (N:=some 138) #[true,true,true,true,true,true,true,true,true,true,true] rfl rfl (one_of HT_.out (by kernel_rfl)) (by decide) (fun K hK=>?_)
      obtain ⟨wc,hwc⟩ : ∃ z,w1.drew=z:=⟨_,rfl⟩
      have HWc : Aside0 (Below wr.heap.size wr wc):=⟨by rw [← hwc];exact below_drew1 HB1.out⟩
      rw [hwc]
      clear hwc
      refine goes_ Try.func19 (by kernel_rfl) rfl #[.pointer (some ⟨P,0,none⟩),.pointer (some ⟨Q,i * 2,none⟩)] (by rfl) rfl rfl (by simp only [List.map_toArray,List.map_cons,List.map_nil];rfl) ?_
      with_reducible refine (stepZ (HS.out.below HWc.out) HOK.out.1 HT.out.2.2.1 hs hM (HQ.out.2.1 ▸ Kd.C_below HR.out HB.out.1) HQ.out.2.2.2.1.symm HQ.out.1 (zero_fits hM) (zero_sz M) HQ.out.2.2.1 H1.out).mono ?_
      rintro e w2 ⟨rfl,hps⟩
      refine ⟨_,rfl,?_⟩
      have HPS:=Aside0.mk hps
      clear hps
      refine hK.out _ _ ?_
      clear hK K
      refine norm_ (a':=?_) ?_ ?_
      rotate_left
      ·show Act.put _ (some 138) _=_
       simp only [Act.put,s0,s1,s2,i64_w,i32_w]
       rfl
      refine done_ (done_of HT_.out (by kernel_rfl)) ?_
      clear hHeld
      go_wp2
      have g1:=HT.out.1
      have g2:=H1.out
      have g3 : wrap64 ((t : Int)+1)=((t+1 : Nat) : Int):=by unfold wrap64;omega
      clear g2
      go_roundw
      case rel=>exact ⟨t+1,HT.out.1,by rw [g3],⟨by rw [HT.out.2.1];exact HPS.out⟩⟩
      case measure=>rw [g3];clear g3;simp only [intOf,Int.toNat_natCast];omega
     ·have cp1 : decide ((t : Int) < (picks.length : Int))=false:=decide_eq_false (by omega)
      have ha0 : a=0:=by rw [← ea];unfold pickAt;rw [if_neg hp]
      subst ha0
      clear hok hrest es een el hl0 hnil r1 ht hgo ea ei
      go_upto_region 19 with (first
      |(go_at_call 18;(with_reducible refine (enabled2 HC.out.1 HC.out.2.1 HKK.out.2 HC.out.2.2 HEN.out.1 HEN.out.2).mono ?_);rintro e w1 ⟨Ae,cE,rfl,hi,hb⟩;have HB1:=Aside0.mk hb;obtain ⟨g,eg,hga⟩:=IRow.at hi HT.out.2.2.2.2;rw [HT.out.2.2.2.1] at hga;subst eg;replace hc8:=keepc hb hc8;clear hi hb))
      refine start_ (n:=11) (S:=fun w'=>w'.cell? ⟨P,8,none⟩=some (.slice (some ⟨Q,0,none⟩) k' k')∧w'.cell? ⟨g,0,none⟩=some (.int .i64 i)) (ds:=[10]) #[false,false,false,false,false,false,false,false,false,false,false] (by kernel_rfl) rfl rfl ⟨hc8,hga⟩ (fun hHeld=>?_)
      refine with_tabW pool_Play.tab19 pool_Play.bits19 (fun HT_ HW_=>?_)
      refine pq (i:=0) (N:=some 128) (v:=?_) (a':=?_) rfl rfl (any_of HT_.out (by kernel_rfl)) (Or.inl ⟨by rfl,?_⟩) ?_ ?_
      rotate_left
      ·intro w'
       go_simp
       with_reducible rfl
      rotate_left
      ·simp only [Act.put,s0,s1,s2,i64_w,i32_w]
       rfl
      refine pq (i:=1) (N:=some 129) (v:=?_) (a':=?_) rfl rfl (any_of HT_.out (by kernel_rfl)) (Or.inl ⟨by rfl,?_⟩) ?_ ?_
      rotate_left
      ·intro w'
       go_simp
       with_reducible rfl
      rotate_left
      ·simp only [Act.put,s0,s1,s2,i64_w,i32_w]
       rfl
      refine pq (i:=2) (N:=some 130) (v:=?_) (a':=?_) rfl rfl (any_of HT_.out (by kernel_rfl)) (Or.inl ⟨by rfl,?_⟩) ?_ ?_
      rotate_left
      ·intro w'
       go_simp
       with_reducible rfl
      rotate_left
      ·simp only [Act.put,s0,s1,s2,i64_w,i32_w]
       rfl
      refine pq (i:=3) (N:=some 131) (v:=?_) (a':=?_) rfl rfl (any_of HT_.out (by kernel_rfl)) (Or.inl ⟨by rfl,?_⟩) ?_ ?_
      rotate_left
      ·intro w'
       go_simp
       with_reducible rfl
      rotate_left
      ·simp only [Act.put,s0,s1,s2,i64_w,i32_w]
       rfl
      refine pq (i:=5) (N:=some 133) (v:=?_) (a':=?_) rfl rfl (any_of HT_.out (by kernel_rfl)) (Or.inl ⟨by rfl,?_⟩) ?_ ?_
      rotate_left
      ·intro w'
       go_simp
       with_reducible rfl
      rotate_left
      ·simp only [Act.put,s0,s1,s2,i64_w,i32_w]
       rfl
      refine pq (i:=6) (N:=some 134) (v:=?_) (a':=?_) rfl rfl (any_of HT_.out (by kernel_rfl)) (Or.inl ⟨by rfl,?_⟩) ?_ ?_
      rotate_left
      ·intro w'
       go_simp
       with_reducible rfl
      rotate_left
      ·simp only [Act.put,s0,s1,s2,i64_w,i32_w]
       rfl
      refine pq (i:=7) (N:=some 135) (v:=?_) (a':=?_) rfl rfl (any_of HT_.out (by kernel_rfl)) (Or.inl ⟨by rfl,?_⟩) ?_ ?_
      rotate_left
      ·intro w'
       go_simp
       with_reducible rfl
      rotate_left
      ·simp only [Act.put,s0,s1,s2,i64_w,i32_w]
       rfl
      refine tq (i:=4) (N:=some 132) (v:=?_) (a':=?_) rfl rfl (take_ofW HT_.out HW_.out (by kernel_rfl)) hHeld (Or.inl ⟨by rfl,?_⟩) ?_ ?_
      rotate_left
      ·rintro w' ⟨s0,s1⟩
       go_simp
       with_reducible rfl
      rotate_left
      ·simp only [Act.put,s0,s1,s2,i64_w,i32_w]
       rfl
      refine tq (i:=8) (N:=some 136) (v:=?_) (a':=?_) rfl rfl (take_ofW HT_.out HW_.out (by kernel_rfl)) hHeld (Or.inl ⟨by rfl,?_⟩) ?_ ?_
      rotate_left
      ·rintro w' ⟨s0,s1⟩
       go_simp
       with_reducible rfl
      rotate_left
      ·simp only [Act.put,s0,s1,s2,i64_w,i32_w]
       rfl
      refine pq (i:=9) (N:=some 137) (v:=?_) (a':=?_) rfl rfl (any_of HT_.out (by kernel_rfl)) (Or.inl ⟨by rfl,?_⟩) ?_ ?_
      rotate_left
      ·intro w'
       go_simp
       with_reducible rfl
      rotate_left
      ·simp only [Act.put,s0,s1,s2,i64_w,i32_w]
       rfl
      refine last_ (i:=10) (N:=some 138) #[true,true,true,true,true,true,true,true,true,true,true] rfl rfl (one_of HT_.out (by kernel_rfl)) (by decide) (fun K hK=>?_)
      obtain ⟨wc,hwc⟩ : ∃ z,w1.drew=z:=⟨_,rfl⟩
      have HWc : Aside0 (Below wr.heap.size wr wc):=⟨by rw [← hwc];exact below_drew1 HB1.out⟩
      rw [hwc]
      clear hwc
      refine goes_ Try.func19 (by kernel_rfl) rfl #[.pointer (some ⟨P,0,none⟩),.pointer (some ⟨Q,i * 2,none⟩)] (by rfl) rfl rfl (by simp only [List.map_toArray,List.map_cons,List.map_nil];rfl) ?_
      with_reducible refine (stepZ (HS.out.below HWc.out) HOK.out.1 HT.out.2.2.1 hs hM (HQ.out.2.1 ▸ Kd.C_below HR.out HB.out.1) HQ.out.2.2.2.1.symm HQ.out.1 (zero_fits hM) (zero_sz M) HQ.out.2.2.1 H1.out).mono ?_
      rintro e w2 ⟨rfl,hps⟩
      refine ⟨_,rfl,?_⟩
      have HPS:=Aside0.mk hps
      clear hps
      refine hK.out _ _ ?_
      clear hK K
      refine norm_ (a':=?_) ?_ ?_
      rotate_left
      ·show Act.put _ (some 138) _=_
       simp only [Act.put,s0,s1,s2,i64_w,i32_w]
       rfl
      refine done_ (done_of HT_.out (by kernel_rfl)) ?_
      clear hHeld
      go_wp2
      have g1:=HT.out.1
      have g2:=H1.out
      have g3 : wrap64 ((t : Int)+1)=((t+1 : Nat) : Int):=by unfold wrap64;omega
      clear g2
      go_roundw
      case rel=>exact ⟨t+1,HT.out.1,by rw [g3],⟨by rw [HT.out.2.1];exact HPS.out⟩⟩
      case measure=>rw [g3];clear g3;simp only [intOf,Int.toNat_natCast];omega
end Go.Proofs.Ytjiaobcoeegioaa.Pq
end
section
namespace Go.Proofs.Ytjiaobcoeegioaa.Pq
open Go.RowKit Go.Proofs.YtjiaobcoeegioaaW.PrintWords Go.Proofs.YtjiaobcoeegioaaW.PrintLast Go.Proofs.YtjiaobcoeegioaaW.PrintMore Go.Proofs.Ytjiaobcoeegioaa.N
set_option linter.unusedVariables false
set_option linter.unusedSimpArgs false
namespace X
def film_Add.T5 : Bool × List (List Nat × List Nat):=(true,[([],[]),([0],[0]),([],[]),([],[]),([3],[3]),([],[]),([],[]),([6],[6]),([],[]),([7,8],[7,8]),([9],[9]),([],[]),([10,11],[10,11]),([12],[12]),([],[]),([14],[14]),([],[]),([15,16],[15,16]),([17],[17]),([],[]),([18,19],[18,19]),([20,13],[20]),([1,2,0,1,2,6,7,8,9,10,11,12,13,18,21],[1,2]),([22,13,21,0,1,2,6,7,8,9,10,11,12,13,18,21],[13,22]),([4,5,0,1,2,3,4,5,6,7,8,9,10,11,12,13,14,15,16,17,18,19,20,21,22,23],[4,5]),([24,21,23,0,1,2,3,4,5,6,7,8,9,10,11,12,13,14,15,16,17,18,19,20,21,22,23],[21,24])])
def film_Add.B5 : List Nat:=[0,1,0,0,8,0,0,64,0,448,960,0,4032,8128,0,16384,0,114688,245760,0,1032192,2097088,4194247,8388551,16777215,33554431]
theorem film_Add.tab5 : rtab .any (opsOf Try.f28 5)=film_Add.T5:=by kernel_rfl
theorem film_Add.bits5 : waitsOk film_Add.T5.2 film_Add.B5=true:=by kernel_rfl
end X
open X
theorem four (w : World) (a b c d : Obj) : Below w.heap.size w ((((w.alloc a).alloc b).alloc c).alloc d)∧((((w.alloc a).alloc b).alloc c).alloc d).heap[w.heap.size]? = some a∧((((w.alloc a).alloc b).alloc c).alloc d).heap[w.heap.size+1]? = some b∧((((w.alloc a).alloc b).alloc c).alloc d).heap[w.heap.size+1+1]? = some c∧((((w.alloc a).alloc b).alloc c).alloc d).heap[w.heap.size+1+1+1]? = some d:=by
 have s1 : (w.alloc a).heap.size=w.heap.size+1:=by simp
 have s2 : ((w.alloc a).alloc b).heap.size=w.heap.size+1+1:=by simp
 have s3 : (((w.alloc a).alloc b).alloc c).heap.size=w.heap.size+1+1+1:=by simp
 refine ⟨below_alloc (below_alloc (below_alloc (below_alloc (Below.refl _ _) _) _) _) _,blk_alloc (blk_alloc (blk_alloc (blk_new _ _) _) _) _,?_,?_,?_⟩
 ·rw [← s1];exact blk_alloc (blk_alloc (blk_new _ _) _) _
 ·rw [← s2];exact blk_alloc (blk_new _ _) _
 ·rw [← s3];exact blk_new _ _
set_option maxHeartbeats 4000000 in
set_option maxRecDepth 100000 in
theorem add_sem {q : QF} {W h b : Int} {M : Nat} (hs : szs W h b=true) (hM : (M : Int)=W * h * b) (hf : q.fits W h b) (hq : q.sz < 10000000) {p r : Rat} (hp : sz1 p < 10000000) (hr : sz1 r < 10000000) {px bin : Int} {i : Nat} (hp0 : 0≤px) (hp1 : px < W * h) (hb0 : 0≤bin) (hb1 : bin < b) (hi : px * b+bin=i) (hiM : i < M) {A3 A4 U1 U2 V1 V2 : Option Addr} {c3 c4 u1 u2 v1 v2 : Nat} {u v : S63} (eu : mkR p=u) (ev : mkR r=v) (w : World) (h3 : Kd.C k63 w A3 M (q.a.map mkR)) (h4 : Kd.C k63 w A4 M (q.b.map mkR)) (hu : XK w u [.bool u.f0,.slice U1 u.f1.length u1,.slice U2 u.f2.length u2]) (hv : XK w v [.bool v.f0,.slice V1 v.f1.length v1,.slice V2 v.f2.length v2]) :
  Calls Try.prog 28 #[.agg #[.int .i64 W,.int .i64 h,.int .i64 b,.slice A3 M c3,.slice A4 M c4],.int .i64 px,.int .i64 bin,.agg #[.bool u.f0,.slice U1 u.f1.length u1,.slice U2 u.f2.length u2],.agg #[.bool v.f0,.slice V1 v.f1.length v1,.slice V2 v.f2.length v2]] w fun e w'=>∃ ad c ad2 c2,e=.returned (.tuple #[.agg #[.int .i64 W,.int .i64 h,.int .i64 b,.slice (some ad) M c,.slice (some ad2) M c2],.bool true])∧M≤c∧M≤c2∧Rows w' w.heap.size ⟨q.a.set i (q.a.getD i 0+p),q.b.set i (q.b.getD i 0+r)⟩ ad c ad2 c2∧Below w.heap.size w w':=by
 have H34:=Aside0.mk (And.intro h3 h4)
 have HUV:=Aside0.mk (And.intro hu hv)
 have HF:=Aside0.mk (And.intro hf hq)
 have HPR:=Aside0.mk (And.intro hp (And.intro hr (And.intro eu ev)))
 have hpr:=szs_prod hs
 have cw : wrap64 (W * h)=W * h:=by have h1:=hpr.1;have h2:=hpr.2.1;clear hpr;unfold wrap64;omega
 have hpb : 0≤px * b∧px * b≤i:=⟨Int.mul_nonneg hp0 (by omega),by omega⟩
 have hi2 : (i : Int)≤2048:=by have:=hpr.2.2.2;omega
 have cw2 : wrap64 (px * b)=px * b:=by clear hpr cw hM;unfold wrap64;omega
 have cw3 : wrap64 (px * b+bin)=(i : Int):=by rw [hi];clear hpr cw cw2 hM hi;unfold wrap64;omega
 have d1 : decide (px < 0)=false:=decide_eq_false (by omega)
 have d2 : decide (W * h≤px)=false:=decide_eq_false (by omega)
 have d3 : decide (bin < 0)=false:=decide_eq_false (by omega)
 have d4 : decide (b≤bin)=false:=decide_eq_false (by omega)
 have HM:=Aside0.mk hM
 clear h3 h4 hu hv hf hq hpr hpb hi2 hp hr hp0 hp1 hb0 hb1 hi eu ev hM
 go_enter Try.func28,Try.ntmps28
 go_upto_region 1 with fail
 obtain ⟨hB,b5,b8,b9,b10⟩:=four w (.cells #[.int .i64 W,.int .i64 h,.int .i64 b,.slice A3 M c3,.slice A4 M c4] 27) (.cells #[.bool u.f0,.slice U1 u.f1.length u1,.slice U2 u.f2.length u2] 63) (.cells #[.bool v.f0,.slice V1 v.f1.length v1,.slice V2 v.f2.length v2] 63) (.cells #[.int .i64 0,.int .i64 0,.int .i64 0,.slice none 0 0,.slice none 0 0] 27)
 obtain ⟨w4,hw4⟩ : ∃ z,(((w.alloc (.cells #[.int .i64 W,.int .i64 h,.int .i64 b,.slice A3 M c3,.slice A4 M c4] 27)).alloc (.cells #[.bool u.f0,.slice U1 u.f1.length u1,.slice U2 u.f2.length u2] 63)).alloc (.cells #[.bool v.f0,.slice V1 v.f1.length v1,.slice V2 v.f2.length v2] 63)).alloc (.cells #[.int .i64 0,.int .i64 0,.int .i64 0,.slice none 0 0,.slice none 0 0] 27)=z:=⟨_,rfl⟩
 rw [hw4] at hB b5 b8 b9 b10 ⊢
 have H4:=Aside0.mk (And.intro (Kd.C_below H34.out.1 hB) (And.intro (Kd.C_below H34.out.2 hB) (And.intro (HUV.out.1.below hB) (HUV.out.2.below hB))))
 obtain ⟨g10,e10⟩ : ∃ g,w.heap.size+1+1+1=g:=⟨_,rfl⟩
 obtain ⟨g9,e9⟩ : ∃ g,w.heap.size+1+1=g:=⟨_,rfl⟩
 obtain ⟨g8,e8⟩ : ∃ g,w.heap.size+1=g:=⟨_,rfl⟩
 have hl10:=blk_lt b10
 have HG:=Aside0.mk (show g8=w.heap.size+1∧g9=w.heap.size+2∧g10=w.heap.size+3∧w.heap.size+4≤w4.heap.size from ⟨by omega,by omega,by omega,by omega⟩)
 rw [e10] at b10 ⊢
 rw [e9] at b9 ⊢
 rw [e8] at b8 ⊢
 have HB4:=Aside0.mk (And.intro hB (And.intro b5 (And.intro b8 (And.intro b9 b10))))
 have q0:=cells5 b5
 clear hw4 hB b5 b8 b9 b10 e10 e9 e8 hl10 H34 HUV
 go_upto_region 5 with (first
 |(go_at_call 16;(with_reducible refine (checkM hs HM.out HF.out.1 HF.out.2 H4.out.1 H4.out.2.1).mono ?_);rintro e w1 ⟨rfl,hb⟩;have HB1:=Aside0.mk hb;clear q0;have q0:=cells5 (blk_below HB4.out.2.1 hb);clear hb)
 |(go_at_call 26;(with_reducible refine (copiedM hs HM.out HF.out.1 HF.out.2 (Kd.C_below H4.out.1 HB1.out) (Kd.C_below H4.out.2.1 HB1.out)).mono ?_);rintro e w2 ⟨ad,c,ad2,c2,rfl,lc,lc2,hrows,hb⟩;have HB2:=Aside0.mk (below_step HB1.out hb);have HRW:=Aside0.mk (hrows.lower (Nat.le_trans HG.out.2.2.2 HB1.out.size));have HLC:=Aside0.mk (And.intro lc lc2);clear q0;have q0:=cells5 (blk_below HB4.out.2.1 HB2.out);have q1:=free5 (blk_below HB4.out.2.1 HB2.out);clear hb hrows lc lc2))
 rw [cw3]
 clear q0 q1 cw cw2 cw3 d1 d2 d3 d4
 have hbw : Below w.heap.size w w2:=below_step HB4.out.1 HB2.out
 have k5 : Tk [3,63,82] w2 (((((w2.setCell ⟨w.heap.size,0,none⟩ (.int .i64 W)).setCell ⟨w.heap.size,1,none⟩ (.int .i64 h)).setCell ⟨w.heap.size,2,none⟩ (.int .i64 b)).setCell ⟨w.heap.size,3,none⟩ (.slice (some ad) M c)).setCell ⟨w.heap.size,4,none⟩ (.slice (some ad2) M c2)):=tk_set5 (blk_below HB4.out.2.1 HB2.out) (by decide) _ _ _ _ _ inferInstance
 have n8 : g8≠w.heap.size:=by have:=HG.out.1;omega
 have n9 : g9≠w.heap.size:=by have:=HG.out.2.1;omega
 have n10 : g10≠w.heap.size:=by have:=HG.out.2.2.1;omega
 have HB : Aside0 (Below w.heap.size w (((((w2.setCell ⟨w.heap.size,0,none⟩ (.int .i64 W)).setCell ⟨w.heap.size,1,none⟩ (.int .i64 h)).setCell ⟨w.heap.size,2,none⟩ (.int .i64 b)).setCell ⟨w.heap.size,3,none⟩ (.slice (some ad) M c)).setCell ⟨w.heap.size,4,none⟩ (.slice (some ad2) M c2))∧(((((w2.setCell ⟨w.heap.size,0,none⟩ (.int .i64 W)).setCell ⟨w.heap.size,1,none⟩ (.int .i64 h)).setCell ⟨w.heap.size,2,none⟩ (.int .i64 b)).setCell ⟨w.heap.size,3,none⟩ (.slice (some ad) M c)).setCell ⟨w.heap.size,4,none⟩ (.slice (some ad2) M c2)).heap[w.heap.size]? = some (.cells #[.int .i64 W,.int .i64 h,.int .i64 b,.slice (some ad) M c,.slice (some ad2) M c2] 27 (0,0))∧(((((w2.setCell ⟨w.heap.size,0,none⟩ (.int .i64 W)).setCell ⟨w.heap.size,1,none⟩ (.int .i64 h)).setCell ⟨w.heap.size,2,none⟩ (.int .i64 b)).setCell ⟨w.heap.size,3,none⟩ (.slice (some ad) M c)).setCell ⟨w.heap.size,4,none⟩ (.slice (some ad2) M c2)).heap[g10]? = some (.cells #[.int .i64 0,.int .i64 0,.int .i64 0,.slice none 0 0,.slice none 0 0] 27 (0,0))):=⟨low5 (g:=w.heap.size) hbw (Nat.le_refl _) _ _ _ _ _,put5 (blk_below HB4.out.2.1 HB2.out) _ _ _ _ _,far5 (blk_below HB4.out.2.2.2.2 HB2.out) n10 _ _ _ _ _⟩
 have B8 : (((((w2.setCell ⟨w.heap.size,0,none⟩ (.int .i64 W)).setCell ⟨w.heap.size,1,none⟩ (.int .i64 h)).setCell ⟨w.heap.size,2,none⟩ (.int .i64 b)).setCell ⟨w.heap.size,3,none⟩ (.slice (some ad) M c)).setCell ⟨w.heap.size,4,none⟩ (.slice (some ad2) M c2)).heap[g8]? = some (.cells #[.bool u.f0,.slice U1 u.f1.length u1,.slice U2 u.f2.length u2] 63 (0,0)):=far5 (blk_below HB4.out.2.2.1 HB2.out) n8 _ _ _ _ _
 have B9 : (((((w2.setCell ⟨w.heap.size,0,none⟩ (.int .i64 W)).setCell ⟨w.heap.size,1,none⟩ (.int .i64 h)).setCell ⟨w.heap.size,2,none⟩ (.int .i64 b)).setCell ⟨w.heap.size,3,none⟩ (.slice (some ad) M c)).setCell ⟨w.heap.size,4,none⟩ (.slice (some ad2) M c2)).heap[g9]? = some (.cells #[.bool v.f0,.slice V1 v.f1.length v1,.slice V2 v.f2.length v2] 63 (0,0)):=far5 (blk_below HB4.out.2.2.2.1 HB2.out) n9 _ _ _ _ _
 have HO : Aside0 (ORow (((((w2.setCell ⟨w.heap.size,0,none⟩ (.int .i64 W)).setCell ⟨w.heap.size,1,none⟩ (.int .i64 h)).setCell ⟨w.heap.size,2,none⟩ (.int .i64 b)).setCell ⟨w.heap.size,3,none⟩ (.slice (some ad) M c)).setCell ⟨w.heap.size,4,none⟩ (.slice (some ad2) M c2)) (w.heap.size+4) ad c (q.a.map mkR)∧ORow (((((w2.setCell ⟨w.heap.size,0,none⟩ (.int .i64 W)).setCell ⟨w.heap.size,1,none⟩ (.int .i64 h)).setCell ⟨w.heap.size,2,none⟩ (.int .i64 b)).setCell ⟨w.heap.size,3,none⟩ (.slice (some ad) M c)).setCell ⟨w.heap.size,4,none⟩ (.slice (some ad2) M c2)) (w.heap.size+4) ad2 c2 (q.b.map mkR)∧ad.block≠ad2.block):=⟨(HRW.out.tk (k5.less (by simp))).a,(HRW.out.tk (k5.less (by simp))).b,HRW.out.ne⟩
 have KU : Aside0 (k63.K (((((w2.setCell ⟨w.heap.size,0,none⟩ (.int .i64 W)).setCell ⟨w.heap.size,1,none⟩ (.int .i64 h)).setCell ⟨w.heap.size,2,none⟩ (.int .i64 b)).setCell ⟨w.heap.size,3,none⟩ (.slice (some ad) M c)).setCell ⟨w.heap.size,4,none⟩ (.slice (some ad2) M c2)) u [.bool u.f0,.slice U1 u.f1.length u1,.slice U2 u.f2.length u2]):=⟨(H4.out.2.2.1.below HB2.out).out _ (k5.less (by simp))⟩
 have KV : Aside0 (k63.K (((((w2.setCell ⟨w.heap.size,0,none⟩ (.int .i64 W)).setCell ⟨w.heap.size,1,none⟩ (.int .i64 h)).setCell ⟨w.heap.size,2,none⟩ (.int .i64 b)).setCell ⟨w.heap.size,3,none⟩ (.slice (some ad) M c)).setCell ⟨w.heap.size,4,none⟩ (.slice (some ad2) M c2)) v [.bool v.f0,.slice V1 v.f1.length v1,.slice V2 v.f2.length v2]):=⟨(H4.out.2.2.2.below HB2.out).out _ (k5.less (by simp))⟩
 obtain ⟨wr,hwr⟩ : ∃ z,((((w2.setCell ⟨w.heap.size,0,none⟩ (.int .i64 W)).setCell ⟨w.heap.size,1,none⟩ (.int .i64 h)).setCell ⟨w.heap.size,2,none⟩ (.int .i64 b)).setCell ⟨w.heap.size,3,none⟩ (.slice (some ad) M c)).setCell ⟨w.heap.size,4,none⟩ (.slice (some ad2) M c2)=z:=⟨_,rfl⟩
 rw [hwr] at HB B8 B9 HO KU KV ⊢
 clear hwr k5 hbw HRW HB1 HB2 H4
 obtain ⟨la,lb⟩:=q_len HM.out HF.out.1
 rw [List.length_map] at la lb
 obtain ⟨K1,k1,K2,k2,a0,a1,a2,hx⟩:=ORow.num HO.out.1 (i:=i) (by omega)
 obtain ⟨N1,n1,N2,n2,z7,z8,z9,hy⟩:=ORow.num HO.out.2.1 (i:=i) (by omega)
 have e2 : (ad2.add (i * 3)).block≠(ad.add (i * 3)).block:=by
  rw [add_block,add_block]
  exact fun e=>HO.out.2.2 e.symm
 have e1 : w.heap.size≠(ad.add (i * 3)).block:=blk_ne HO.out.1 HB.out.2.1 (by decide) _
 have e8 : g8≠(ad.add (i * 3)).block:=by rw [add_block];have h1:=HO.out.1.from_;have h2:=HG.out.1;omega
 have e9 : g9≠(ad.add (i * 3)).block:=by rw [add_block];have h1:=HO.out.1.from_;have h2:=HG.out.2.1;omega
 have sx : SumTo (mkR (q.a[i]'(by omega))) u (mkR (q.a[i]'(by omega)+p)):=by
  rw [← HPR.out.2.2.1]
  exact sumR (by have h1:=szL_mem (List.getElem_mem (l:=q.a) (n:=i) (by omega));have h2 : szL q.a≤q.sz:=Nat.le_max_left _ _;have h3:=HF.out.2;omega) HPR.out.1
 have sy : SumTo (mkR (q.b[i]'(by omega))) v (mkR (q.b[i]'(by omega)+r)):=by
  rw [← HPR.out.2.2.2]
  exact sumR (by have h1:=szL_mem (List.getElem_mem (l:=q.b) (n:=i) (by omega));have h2 : szL q.b≤q.sz:=Nat.le_max_right _ _;have h3:=HF.out.2;omega) HPR.out.2.1
 have na2 : i < (q.a.map mkR).length:=by rw [List.length_map];omega
 have nb2 : i < (q.b.map mkR).length:=by rw [List.length_map];omega
 obtain ⟨x,ex⟩ : ∃ x,mkR (q.a[i]'(by omega))=x:=⟨_,rfl⟩
 obtain ⟨y,ey⟩ : ∃ x,mkR (q.b[i]'(by omega))=x:=⟨_,rfl⟩
 have eX0 : q.a.getD i 0=q.a[i]'(by omega):=by rw [List.getD_eq_getElem?_getD,List.getElem?_eq_getElem (by omega)];rfl
 have eY0 : q.b.getD i 0=q.b[i]'(by omega):=by rw [List.getD_eq_getElem?_getD,List.getElem?_eq_getElem (by omega)];rfl
 rw [ex] at a0 a1 a2 hx sx
 rw [ey] at z7 z8 z9 hy sy
 rw [← eX0] at sx
 rw [← eY0] at sy
 obtain ⟨X,eX⟩ : ∃ x,mkR (q.a.getD i 0+p)=x:=⟨_,rfl⟩
 obtain ⟨Y,eY⟩ : ∃ x,mkR (q.b.getD i 0+r)=x:=⟨_,rfl⟩
 rw [eX] at sx
 rw [eY] at sy
 have FX:=Aside0.mk (And.intro a0 (And.intro a1 a2))
 have KX:=Aside0.mk hx
 have KY:=Aside0.mk hy
 have SX:=Aside0.mk sx
 have SY:=Aside0.mk sy
 have TA:=Aside0.mk (And.intro na2 eX)
 have TB:=Aside0.mk (And.intro nb2 eY)
 have NE:=Aside0.mk (And.intro e1 (And.intro e2 (And.intro e8 e9)))
 have ZZ:=Aside0.mk (show wr.cell? ⟨w.heap.size,3,none⟩=some (.slice (some ad) M c)∧wr.cell? ⟨w.heap.size,4,none⟩=some (.slice (some ad2) M c2)∧wr.cell? ⟨g8,0,none⟩=some (.bool u.f0)∧wr.cell? ⟨g8,1,none⟩=some (.slice U1 u.f1.length u1)∧wr.cell? ⟨g8,2,none⟩=some (.slice U2 u.f2.length u2)∧wr.cell? (ad2.add (i * 3))=some (.bool y.f0)∧wr.cell? ⟨(ad2.add (i * 3)).block,(ad2.add (i * 3)).off+1,none⟩=some (.slice N1 y.f1.length n1)∧wr.cell? ⟨(ad2.add (i * 3)).block,(ad2.add (i * 3)).off+2,none⟩=some (.slice N2 y.f2.length n2)∧wr.cell? ⟨g9,0,none⟩=some (.bool v.f0)∧wr.cell? ⟨g9,1,none⟩=some (.slice V1 v.f1.length v1)∧wr.cell? ⟨g9,2,none⟩=some (.slice V2 v.f2.length v2) from ⟨(cells5 HB.out.2.1).2.2.2.1,(cells5 HB.out.2.1).2.2.2.2,blk_cell B8 0,blk_cell B8 1,blk_cell B8 2,z7,z8,z9,blk_cell B9 0,blk_cell B9 1,blk_cell B9 2⟩)
 clear a0 a1 a2 hx hy sx sy na2 nb2 e1 e2 e8 e9 z7 z8 z9 ex ey eX eY eX0 eY0 la lb B8 B9 n8 n9 n10
 have HW : Aside0 (Below wr.heap.size wr wr.drew):=⟨below_drew1 (Below.refl _ _)⟩
 refine start_ (n:=26) (S:=fun w'=>w'.cell? ⟨w.heap.size,3,none⟩=some (.slice (some ad) M c)∧w'.cell? ⟨w.heap.size,4,none⟩=some (.slice (some ad2) M c2)∧w'.cell? ⟨g8,0,none⟩=some (.bool u.f0)∧w'.cell? ⟨g8,1,none⟩=some (.slice U1 u.f1.length u1)∧w'.cell? ⟨g8,2,none⟩=some (.slice U2 u.f2.length u2)∧w'.cell? (ad2.add (i * 3))=some (.bool y.f0)∧w'.cell? ⟨(ad2.add (i * 3)).block,(ad2.add (i * 3)).off+1,none⟩=some (.slice N1 y.f1.length n1)∧w'.cell? ⟨(ad2.add (i * 3)).block,(ad2.add (i * 3)).off+2,none⟩=some (.slice N2 y.f2.length n2)∧w'.cell? ⟨g9,0,none⟩=some (.bool v.f0)∧w'.cell? ⟨g9,1,none⟩=some (.slice V1 v.f1.length v1)∧w'.cell? ⟨g9,2,none⟩=some (.slice V2 v.f2.length v2)) (ds:=[25]) #[false,false,false,false,false,false,false,false,false,false,false,false,false,false,false,false,false,false,false,false,false,false,false,false,false,false] (by kernel_rfl) rfl rfl ⟨ZZ.out.1,ZZ.out.2.1,ZZ.out.2.2.1,ZZ.out.2.2.2.1,ZZ.out.2.2.2.2.1,ZZ.out.2.2.2.2.2.1,ZZ.out.2.2.2.2.2.2.1,ZZ.out.2.2.2.2.2.2.2.1,ZZ.out.2.2.2.2.2.2.2.2.1,ZZ.out.2.2.2.2.2.2.2.2.2.1,ZZ.out.2.2.2.2.2.2.2.2.2.2⟩ (fun hHeld=>?_)
 refine with_tabW film_Add.tab5 film_Add.bits5 (fun HT_ HW_=>?_)
 refine pq (i:=0) (N:=some 48) (v:=?_) (a':=?_) rfl rfl (any_of HT_.out (by kernel_rfl)) (Or.inl ⟨by rfl,?_⟩) ?_ ?_
 rotate_left
 ·intro w'
  go_simp
  with_reducible rfl
 rotate_left
 ·simp only [Act.put,s0,s1,s2,i64_w,i32_w]
  rfl
 refine pq (i:=2) (N:=some 50) (v:=?_) (a':=?_) rfl rfl (any_of HT_.out (by kernel_rfl)) (Or.inl ⟨by rfl,?_⟩) ?_ ?_
 rotate_left
 ·intro w'
  go_simp
  with_reducible rfl
 rotate_left
 ·simp only [Act.put,s0,s1,s2,i64_w,i32_w]
  rfl
 refine pq (i:=3) (N:=some 51) (v:=?_) (a':=?_) rfl rfl (any_of HT_.out (by kernel_rfl)) (Or.inl ⟨by rfl,?_⟩) ?_ ?_
 rotate_left
 ·intro w'
  go_simp
  with_reducible rfl
 rotate_left
 ·simp only [Act.put,s0,s1,s2,i64_w,i32_w]
  rfl
 refine pq (i:=5) (N:=some 53) (v:=?_) (a':=?_) rfl rfl (any_of HT_.out (by kernel_rfl)) (Or.inl ⟨by rfl,?_⟩) ?_ ?_
 rotate_left
 ·intro w'
  go_simp
  with_reducible rfl
 rotate_left
 ·simp only [Act.put,s0,s1,s2,i64_w,i32_w]
  rfl
 refine pq (i:=6) (N:=some 54) (v:=?_) (a':=?_) rfl rfl (any_of HT_.out (by kernel_rfl)) (Or.inl ⟨by rfl,?_⟩) ?_ ?_
 rotate_left
 ·intro w'
  go_simp
  with_reducible rfl
 rotate_left
 ·simp only [Act.put,s0,s1,s2,i64_w,i32_w]
  rfl
 refine pq (i:=8) (N:=some 56) (v:=?_) (a':=?_) rfl rfl (any_of HT_.out (by kernel_rfl)) (Or.inl ⟨by rfl,?_⟩) ?_ ?_
 rotate_left
 ·intro w'
  go_simp
  with_reducible rfl
 rotate_left
 ·simp only [Act.put,s0,s1,s2,i64_w,i32_w]
  rfl
 refine pq (i:=14) (N:=some 62) (v:=?_) (a':=?_) rfl rfl (any_of HT_.out (by kernel_rfl)) (Or.inl ⟨by rfl,?_⟩) ?_ ?_
 rotate_left
 ·intro w'
  go_simp
  with_reducible rfl
 rotate_left
 ·simp only [Act.put,s0,s1,s2,i64_w,i32_w]
  rfl
 refine pq (i:=16) (N:=some 64) (v:=?_) (a':=?_) rfl rfl (any_of HT_.out (by kernel_rfl)) (Or.inl ⟨by rfl,?_⟩) ?_ ?_
 rotate_left
 ·intro w'
  go_simp
  with_reducible rfl
 rotate_left
 ·simp only [Act.put,s0,s1,s2,i64_w,i32_w]
  rfl
 refine tq (i:=1) (N:=some 49) (v:=?_) (a':=?_) rfl rfl (take_ofW HT_.out HW_.out (by kernel_rfl)) hHeld (Or.inl ⟨by rfl,?_⟩) ?_ ?_
 rotate_left
 ·rintro w' ⟨s0,s1,s2,s3,s4,s5,s6,s7,s8,s9,s10⟩
  go_simp
  with_reducible rfl
 rotate_left
 ·simp only [Act.put,s0,s1,s2,i64_w,i32_w]
  rfl
 refine tq (i:=4) (N:=some 52) (v:=?_) (a':=?_) rfl rfl (take_ofW HT_.out HW_.out (by kernel_rfl)) hHeld (Or.inl ⟨by rfl,?_⟩) ?_ ?_
 rotate_left
 ·rintro w' ⟨s0,s1,s2,s3,s4,s5,s6,s7,s8,s9,s10⟩
  go_simp
  with_reducible rfl
 rotate_left
 ·simp only [Act.put,s0,s1,s2,i64_w,i32_w]
  rfl
 refine tq (i:=7) (N:=some 55) (v:=?_) (a':=?_) rfl rfl (take_ofW HT_.out HW_.out (by kernel_rfl)) hHeld (Or.inl ⟨by rfl,?_⟩) ?_ ?_
 rotate_left
 ·rintro w' ⟨s0,s1,s2,s3,s4,s5,s6,s7,s8,s9,s10⟩
  go_simp
  with_reducible rfl
 rotate_left
 ·simp only [Act.put,s0,s1,s2,i64_w,i32_w]
  rfl
 refine pq (i:=9) (N:=some 57) (v:=?_) (a':=?_) rfl rfl (any_of HT_.out (by kernel_rfl)) (Or.inl ⟨by rfl,?_⟩) ?_ ?_
 rotate_left
 ·intro w'
  go_simp
  with_reducible rfl
 rotate_left
 ·simp only [Act.put,s0,s1,s2,i64_w,i32_w]
  rfl
 refine tq (i:=11) (N:=some 59) (v:=?_) (a':=?_) rfl rfl (take_ofW HT_.out HW_.out (by kernel_rfl)) hHeld (Or.inl ⟨by rfl,?_⟩) ?_ ?_
 rotate_left
 ·rintro w' ⟨s0,s1,s2,s3,s4,s5,s6,s7,s8,s9,s10⟩
  go_simp
  with_reducible rfl
 rotate_left
 ·simp only [Act.put,s0,s1,s2,i64_w,i32_w]
  rfl
 refine tq (i:=15) (N:=some 63) (v:=?_) (a':=?_) rfl rfl (take_ofW HT_.out HW_.out (by kernel_rfl)) hHeld (Or.inl ⟨by rfl,?_⟩) ?_ ?_
 rotate_left
 ·rintro w' ⟨s0,s1,s2,s3,s4,s5,s6,s7,s8,s9,s10⟩
  go_simp
  with_reducible rfl
 rotate_left
 ·simp only [Act.put,s0,s1,s2,i64_w,i32_w]
  rfl
 refine pq (i:=17) (N:=some 65) (v:=?_) (a':=?_) rfl rfl (any_of HT_.out (by kernel_rfl)) (Or.inl ⟨by rfl,?_⟩) ?_ ?_
 rotate_left
 ·intro w'
  go_simp
  with_reducible rfl
 rotate_left
 ·simp only [Act.put,s0,s1,s2,i64_w,i32_w]
  rfl
 refine tq (i:=18) (N:=some 66) (v:=?_) (a':=?_) rfl rfl (take_ofW HT_.out HW_.out (by kernel_rfl)) hHeld (Or.inl ⟨by rfl,?_⟩) ?_ ?_
 rotate_left
 ·rintro w' ⟨s0,s1,s2,s3,s4,s5,s6,s7,s8,s9,s10⟩
  go_simp
  with_reducible rfl
 rotate_left
 ·simp only [Act.put,s0,s1,s2,i64_w,i32_w]
  rfl
 refine tq (i:=19) (N:=some 67) (v:=?_) (a':=?_) rfl rfl (take_ofW HT_.out HW_.out (by kernel_rfl)) hHeld (Or.inl ⟨by rfl,?_⟩) ?_ ?_
 rotate_left
 ·rintro w' ⟨s0,s1,s2,s3,s4,s5,s6,s7,s8,s9,s10⟩
  go_simp
  with_reducible rfl
 rotate_left
 ·simp only [Act.put,s0,s1,s2,i64_w,i32_w]
  rfl
 refine join_ (σ:=Nat × Nat × Option Addr × Nat × Option Addr × Nat) 5 #[true,true,true,true,true,true,true,true,true,true,true,true,true,true,true,true,true,true,true,true,true,false,false,false,false,false] (fun s_=>[(58,.agg #[.bool x.f0,.slice K1 x.f1.length k1,.slice K2 x.f2.length k2]),(60,.slice (some ⟨s_.1,0,none⟩) 2 2),(61,.agg #[.bool X.f0,.slice s_.2.2.1 X.f1.length s_.2.2.2.1,.slice s_.2.2.2.2.1 X.f2.length s_.2.2.2.2.2]),(68,.slice (some ⟨s_.2.1,0,none⟩) 2 2)]) (fun s_ w'=>(w'.cell? ⟨w.heap.size,3,none⟩=some (.slice (some ad) M c)∧w'.cell? ⟨w.heap.size,4,none⟩=some (.slice (some ad2) M c2)∧w'.cell? ⟨g8,0,none⟩=some (.bool u.f0)∧w'.cell? ⟨g8,1,none⟩=some (.slice U1 u.f1.length u1)∧w'.cell? ⟨g8,2,none⟩=some (.slice U2 u.f2.length u2)∧w'.cell? (ad2.add (i * 3))=some (.bool y.f0)∧w'.cell? ⟨(ad2.add (i * 3)).block,(ad2.add (i * 3)).off+1,none⟩=some (.slice N1 y.f1.length n1)∧w'.cell? ⟨(ad2.add (i * 3)).block,(ad2.add (i * 3)).off+2,none⟩=some (.slice N2 y.f2.length n2)∧w'.cell? ⟨g9,0,none⟩=some (.bool v.f0)∧w'.cell? ⟨g9,1,none⟩=some (.slice V1 v.f1.length v1)∧w'.cell? ⟨g9,2,none⟩=some (.slice V2 v.f2.length v2))∧Below wr.heap.size wr w'∧XK w' X [.bool X.f0,.slice s_.2.2.1 X.f1.length s_.2.2.2.1,.slice s_.2.2.2.2.1 X.f2.length s_.2.2.2.2.2]∧Kd.C k63 w' (some ⟨s_.2.1,0,none⟩) 2 [y,v]) ?_ ?_
 rotate_left
 ·intro hCont
  refine two_ (i:=10) (j:=20) (Ni:=some 58) (Nj:=some 68) #[true,true,true,true,true,true,true,true,true,true,true,true,false,false,true,true,true,true,true,true,false,false,false,false,false,false] #[true,true,true,true,true,true,true,true,true,true,false,true,false,false,true,true,true,true,true,true,true,false,false,false,false,false] rfl rfl rfl rfl (two_of HT_.out (by kernel_rfl)) (by decide) (by decide) (fun K hK=>?_) (fun K hK=>?_)
  ·skip
   try (obtain ⟨wc,hwc⟩ : ∃ z,wr.drew=z:=⟨_,rfl⟩;rw [hwc] at HW ⊢;clear hwc)
   have q0:=keepc HW.out FX.out.1
   have q1:=keepc HW.out FX.out.2.1
   have q2:=keepc HW.out FX.out.2.2
   refine value_ (w1:=?_) (v:=?_) (by rfl) rfl ?_ ?_
   rotate_left 2
   ·go_simp
    constructor
    ·rfl
    ·rfl
   clear q0 q1 q2
   refine hK.out _ _ ⟨keepc HW.out ZZ.out.1,keepc HW.out ZZ.out.2.1,keepc HW.out ZZ.out.2.2.1,keepc HW.out ZZ.out.2.2.2.1,keepc HW.out ZZ.out.2.2.2.2.1,keepc HW.out ZZ.out.2.2.2.2.2.1,keepc HW.out ZZ.out.2.2.2.2.2.2.1,keepc HW.out ZZ.out.2.2.2.2.2.2.2.1,keepc HW.out ZZ.out.2.2.2.2.2.2.2.2.1,keepc HW.out ZZ.out.2.2.2.2.2.2.2.2.2.1,keepc HW.out ZZ.out.2.2.2.2.2.2.2.2.2.2⟩ (fun hHeld=>?_)
   clear hK K
   refine norm_ (a':=?_) ?_ ?_
   rotate_left
   ·show Act.put _ (some 58) _=_
    simp only [Act.put,s0,s1,s2,i64_w,i32_w]
    rfl
   refine two_ (i:=12) (j:=20) (Ni:=some 60) (Nj:=some 68) #[true,true,true,true,true,true,true,true,true,true,true,true,true,false,true,true,true,true,true,true,false,false,false,false,false,false] #[true,true,true,true,true,true,true,true,true,true,true,true,false,false,true,true,true,true,true,true,true,false,false,false,false,false] rfl rfl rfl rfl (two_of HT_.out (by kernel_rfl)) (by decide) (by decide) (fun K hK=>?_) (fun K hK=>?_)
   ·skip
    try (obtain ⟨wc,hwc⟩ : ∃ z,wr.drew=z:=⟨_,rfl⟩;rw [hwc] at HW ⊢;clear hwc)
    refine value_ (w1:=?_) (v:=?_) (by rfl) rfl ?_ ?_
    rotate_left 2
    ·go_simp
     constructor
     ·rfl
     ·rfl
    obtain ⟨ga,hga⟩ : ∃ g,wc.heap.size=g:=⟨_,rfl⟩
    have H16 : Aside0 (Kd.C k63 (wc.alloc (.cells #[.bool x.f0,.slice K1 x.f1.length k1,.slice K2 x.f2.length k2,.bool u.f0,.slice U1 u.f1.length u1,.slice U2 u.f2.length u2] 63)) (some ⟨ga,0,none⟩) 2 [x,u]):=⟨by rw [← hga];exact pair_lit (k63.K_below HW.out KX.out) (k63.K_below HW.out KU.out)⟩
    rw [hga]
    clear hga
    have HA_ : Below wc.heap.size wc (wc.alloc (.cells #[.bool x.f0,.slice K1 x.f1.length k1,.slice K2 x.f2.length k2,.bool u.f0,.slice U1 u.f1.length u1,.slice U2 u.f2.length u2] 63)):=below_alloc (Below.refl _ _) _
    replace HW:=Aside0.mk (below_step HW.out HA_)
    try replace H28:=Aside0.mk (Kd.C_below H28.out HA_)
    obtain ⟨wc,hwd⟩ : ∃ wd,wc.alloc (.cells #[.bool x.f0,.slice K1 x.f1.length k1,.slice K2 x.f2.length k2,.bool u.f0,.slice U1 u.f1.length u1,.slice U2 u.f2.length u2] 63)=wd:=⟨_,rfl⟩
    rw [hwd] at HW H16 ⊢
    try rw [hwd] at H28
    clear HA_ hwd
    refine hK.out _ _ ⟨keepc HW.out ZZ.out.1,keepc HW.out ZZ.out.2.1,keepc HW.out ZZ.out.2.2.1,keepc HW.out ZZ.out.2.2.2.1,keepc HW.out ZZ.out.2.2.2.2.1,keepc HW.out ZZ.out.2.2.2.2.2.1,keepc HW.out ZZ.out.2.2.2.2.2.2.1,keepc HW.out ZZ.out.2.2.2.2.2.2.2.1,keepc HW.out ZZ.out.2.2.2.2.2.2.2.2.1,keepc HW.out ZZ.out.2.2.2.2.2.2.2.2.2.1,keepc HW.out ZZ.out.2.2.2.2.2.2.2.2.2.2⟩ (fun hHeld=>?_)
    clear hK K
    refine norm_ (a':=?_) ?_ ?_
    rotate_left
    ·show Act.put _ (some 60) _=_
     simp only [Act.put,s0,s1,s2,i64_w,i32_w]
     rfl
    refine two_ (i:=13) (j:=20) (Ni:=some 61) (Nj:=some 68) #[true,true,true,true,true,true,true,true,true,true,true,true,true,true,true,true,true,true,true,true,false,false,false,false,false,false] #[true,true,true,true,true,true,true,true,true,true,true,true,true,false,true,true,true,true,true,true,true,false,false,false,false,false] rfl rfl rfl rfl (two_of HT_.out (by kernel_rfl)) (by decide) (by decide) (fun K hK=>?_) (fun K hK=>?_)
    ·skip
     try (obtain ⟨wc,hwc⟩ : ∃ z,wr.drew=z:=⟨_,rfl⟩;rw [hwc] at HW ⊢;clear hwc)
     refine goes_ Try.func27 (by kernel_rfl) rfl #[.slice (some ⟨ga,0,none⟩) 2 2] (by rfl) rfl rfl (by simp only [List.map_toArray,List.map_cons,List.map_nil];rfl) ?_
     with_reducible refine (SX.out.go H16.out).mono ?_
     rintro e wc ⟨P1,p1,P2,p2,rfl,hxk,hb⟩
     refine ⟨_,rfl,?_⟩
     have H17:=Aside0.mk hxk
     replace HW:=Aside0.mk (below_step HW.out hb)
     try replace H28:=Aside0.mk (Kd.C_below H28.out hb)
     clear hxk hb
     refine hK.out _ _ ⟨keepc HW.out ZZ.out.1,keepc HW.out ZZ.out.2.1,keepc HW.out ZZ.out.2.2.1,keepc HW.out ZZ.out.2.2.2.1,keepc HW.out ZZ.out.2.2.2.2.1,keepc HW.out ZZ.out.2.2.2.2.2.1,keepc HW.out ZZ.out.2.2.2.2.2.2.1,keepc HW.out ZZ.out.2.2.2.2.2.2.2.1,keepc HW.out ZZ.out.2.2.2.2.2.2.2.2.1,keepc HW.out ZZ.out.2.2.2.2.2.2.2.2.2.1,keepc HW.out ZZ.out.2.2.2.2.2.2.2.2.2.2⟩ (fun hHeld=>?_)
     clear hK K
     refine norm_ (a':=?_) ?_ ?_
     rotate_left
     ·show Act.put _ (some 61) _=_
      simp only [Act.put,s0,s1,s2,i64_w,i32_w]
      rfl
     refine one_ (i:=20) (N:=some 68) #[true,true,true,true,true,true,true,true,true,true,true,true,true,true,true,true,true,true,true,true,true,false,false,false,false,false] rfl rfl (one_of HT_.out (by kernel_rfl)) (by decide) (fun K hK=>?_)
     try (obtain ⟨wc,hwc⟩ : ∃ z,wr.drew=z:=⟨_,rfl⟩;rw [hwc] at HW ⊢;clear hwc)
     refine value_ (w1:=?_) (v:=?_) (by rfl) rfl ?_ ?_
     rotate_left 2
     ·go_simp
      constructor
      ·rfl
      ·rfl
     obtain ⟨gb,hga⟩ : ∃ g,wc.heap.size=g:=⟨_,rfl⟩
     have H28 : Aside0 (Kd.C k63 (wc.alloc (.cells #[.bool y.f0,.slice N1 y.f1.length n1,.slice N2 y.f2.length n2,.bool v.f0,.slice V1 v.f1.length v1,.slice V2 v.f2.length v2] 63)) (some ⟨gb,0,none⟩) 2 [y,v]):=⟨by rw [← hga];exact pair_lit (k63.K_below HW.out KY.out) (k63.K_below HW.out KV.out)⟩
     rw [hga]
     clear hga
     have HA_ : Below wc.heap.size wc (wc.alloc (.cells #[.bool y.f0,.slice N1 y.f1.length n1,.slice N2 y.f2.length n2,.bool v.f0,.slice V1 v.f1.length v1,.slice V2 v.f2.length v2] 63)):=below_alloc (Below.refl _ _) _
     replace HW:=Aside0.mk (below_step HW.out HA_)
     try replace H16:=Aside0.mk (Kd.C_below H16.out HA_)
     try replace H17:=Aside0.mk (H17.out.below HA_)
     obtain ⟨wc,hwd⟩ : ∃ wd,wc.alloc (.cells #[.bool y.f0,.slice N1 y.f1.length n1,.slice N2 y.f2.length n2,.bool v.f0,.slice V1 v.f1.length v1,.slice V2 v.f2.length v2] 63)=wd:=⟨_,rfl⟩
     rw [hwd] at HW H28 ⊢
     try rw [hwd] at H16
     try rw [hwd] at H17
     clear HA_ hwd
     refine hK.out _ _ ⟨keepc HW.out ZZ.out.1,keepc HW.out ZZ.out.2.1,keepc HW.out ZZ.out.2.2.1,keepc HW.out ZZ.out.2.2.2.1,keepc HW.out ZZ.out.2.2.2.2.1,keepc HW.out ZZ.out.2.2.2.2.2.1,keepc HW.out ZZ.out.2.2.2.2.2.2.1,keepc HW.out ZZ.out.2.2.2.2.2.2.2.1,keepc HW.out ZZ.out.2.2.2.2.2.2.2.2.1,keepc HW.out ZZ.out.2.2.2.2.2.2.2.2.2.1,keepc HW.out ZZ.out.2.2.2.2.2.2.2.2.2.2⟩ (fun hHeld=>?_)
     clear hK K
     refine norm_ (a':=?_) ?_ ?_
     rotate_left
     ·show Act.put _ (some 68) _=_
      simp only [Act.put,s0,s1,s2,i64_w,i32_w]
      rfl
     exact norm_ (by simp only [putAll,Act.put,s0,s1,s2]) (hCont (ga,gb,P1,p1,P2,p2) _ ⟨hHeld,HW.out,H17.out,H28.out⟩)
    ·skip
     try (obtain ⟨wc,hwc⟩ : ∃ z,wr.drew=z:=⟨_,rfl⟩;rw [hwc] at HW ⊢;clear hwc)
     refine value_ (w1:=?_) (v:=?_) (by rfl) rfl ?_ ?_
     rotate_left 2
     ·go_simp
      constructor
      ·rfl
      ·rfl
     obtain ⟨gb,hga⟩ : ∃ g,wc.heap.size=g:=⟨_,rfl⟩
     have H28 : Aside0 (Kd.C k63 (wc.alloc (.cells #[.bool y.f0,.slice N1 y.f1.length n1,.slice N2 y.f2.length n2,.bool v.f0,.slice V1 v.f1.length v1,.slice V2 v.f2.length v2] 63)) (some ⟨gb,0,none⟩) 2 [y,v]):=⟨by rw [← hga];exact pair_lit (k63.K_below HW.out KY.out) (k63.K_below HW.out KV.out)⟩
     rw [hga]
     clear hga
     have HA_ : Below wc.heap.size wc (wc.alloc (.cells #[.bool y.f0,.slice N1 y.f1.length n1,.slice N2 y.f2.length n2,.bool v.f0,.slice V1 v.f1.length v1,.slice V2 v.f2.length v2] 63)):=below_alloc (Below.refl _ _) _
     replace HW:=Aside0.mk (below_step HW.out HA_)
     try replace H16:=Aside0.mk (Kd.C_below H16.out HA_)
     try replace H17:=Aside0.mk (H17.out.below HA_)
     obtain ⟨wc,hwd⟩ : ∃ wd,wc.alloc (.cells #[.bool y.f0,.slice N1 y.f1.length n1,.slice N2 y.f2.length n2,.bool v.f0,.slice V1 v.f1.length v1,.slice V2 v.f2.length v2] 63)=wd:=⟨_,rfl⟩
     rw [hwd] at HW H28 ⊢
     try rw [hwd] at H16
     try rw [hwd] at H17
     clear HA_ hwd
     refine hK.out _ _ ⟨keepc HW.out ZZ.out.1,keepc HW.out ZZ.out.2.1,keepc HW.out ZZ.out.2.2.1,keepc HW.out ZZ.out.2.2.2.1,keepc HW.out ZZ.out.2.2.2.2.1,keepc HW.out ZZ.out.2.2.2.2.2.1,keepc HW.out ZZ.out.2.2.2.2.2.2.1,keepc HW.out ZZ.out.2.2.2.2.2.2.2.1,keepc HW.out ZZ.out.2.2.2.2.2.2.2.2.1,keepc HW.out ZZ.out.2.2.2.2.2.2.2.2.2.1,keepc HW.out ZZ.out.2.2.2.2.2.2.2.2.2.2⟩ (fun hHeld=>?_)
     clear hK K
     refine norm_ (a':=?_) ?_ ?_
     rotate_left
     ·show Act.put _ (some 68) _=_
      simp only [Act.put,s0,s1,s2,i64_w,i32_w]
      rfl
     refine one_ (i:=13) (N:=some 61) #[true,true,true,true,true,true,true,true,true,true,true,true,true,true,true,true,true,true,true,true,true,false,false,false,false,false] rfl rfl (one_of HT_.out (by kernel_rfl)) (by decide) (fun K hK=>?_)
     try (obtain ⟨wc,hwc⟩ : ∃ z,wr.drew=z:=⟨_,rfl⟩;rw [hwc] at HW ⊢;clear hwc)
     refine goes_ Try.func27 (by kernel_rfl) rfl #[.slice (some ⟨ga,0,none⟩) 2 2] (by rfl) rfl rfl (by simp only [List.map_toArray,List.map_cons,List.map_nil];rfl) ?_
     with_reducible refine (SX.out.go H16.out).mono ?_
     rintro e wc ⟨P1,p1,P2,p2,rfl,hxk,hb⟩
     refine ⟨_,rfl,?_⟩
     have H17:=Aside0.mk hxk
     replace HW:=Aside0.mk (below_step HW.out hb)
     try replace H28:=Aside0.mk (Kd.C_below H28.out hb)
     clear hxk hb
     refine hK.out _ _ ⟨keepc HW.out ZZ.out.1,keepc HW.out ZZ.out.2.1,keepc HW.out ZZ.out.2.2.1,keepc HW.out ZZ.out.2.2.2.1,keepc HW.out ZZ.out.2.2.2.2.1,keepc HW.out ZZ.out.2.2.2.2.2.1,keepc HW.out ZZ.out.2.2.2.2.2.2.1,keepc HW.out ZZ.out.2.2.2.2.2.2.2.1,keepc HW.out ZZ.out.2.2.2.2.2.2.2.2.1,keepc HW.out ZZ.out.2.2.2.2.2.2.2.2.2.1,keepc HW.out ZZ.out.2.2.2.2.2.2.2.2.2.2⟩ (fun hHeld=>?_)
     clear hK K
     refine norm_ (a':=?_) ?_ ?_
     rotate_left
     ·show Act.put _ (some 61) _=_
      simp only [Act.put,s0,s1,s2,i64_w,i32_w]
      rfl
     exact norm_ (by simp only [putAll,Act.put,s0,s1,s2]) (hCont (ga,gb,P1,p1,P2,p2) _ ⟨hHeld,HW.out,H17.out,H28.out⟩)
   ·skip
    try (obtain ⟨wc,hwc⟩ : ∃ z,wr.drew=z:=⟨_,rfl⟩;rw [hwc] at HW ⊢;clear hwc)
    refine value_ (w1:=?_) (v:=?_) (by rfl) rfl ?_ ?_
    rotate_left 2
    ·go_simp
     constructor
     ·rfl
     ·rfl
    obtain ⟨gb,hga⟩ : ∃ g,wc.heap.size=g:=⟨_,rfl⟩
    have H28 : Aside0 (Kd.C k63 (wc.alloc (.cells #[.bool y.f0,.slice N1 y.f1.length n1,.slice N2 y.f2.length n2,.bool v.f0,.slice V1 v.f1.length v1,.slice V2 v.f2.length v2] 63)) (some ⟨gb,0,none⟩) 2 [y,v]):=⟨by rw [← hga];exact pair_lit (k63.K_below HW.out KY.out) (k63.K_below HW.out KV.out)⟩
    rw [hga]
    clear hga
    have HA_ : Below wc.heap.size wc (wc.alloc (.cells #[.bool y.f0,.slice N1 y.f1.length n1,.slice N2 y.f2.length n2,.bool v.f0,.slice V1 v.f1.length v1,.slice V2 v.f2.length v2] 63)):=below_alloc (Below.refl _ _) _
    replace HW:=Aside0.mk (below_step HW.out HA_)
    try replace H16:=Aside0.mk (Kd.C_below H16.out HA_)
    try replace H17:=Aside0.mk (H17.out.below HA_)
    obtain ⟨wc,hwd⟩ : ∃ wd,wc.alloc (.cells #[.bool y.f0,.slice N1 y.f1.length n1,.slice N2 y.f2.length n2,.bool v.f0,.slice V1 v.f1.length v1,.slice V2 v.f2.length v2] 63)=wd:=⟨_,rfl⟩
    rw [hwd] at HW H28 ⊢
    try rw [hwd] at H16
    try rw [hwd] at H17
    clear HA_ hwd
    refine hK.out _ _ ⟨keepc HW.out ZZ.out.1,keepc HW.out ZZ.out.2.1,keepc HW.out ZZ.out.2.2.1,keepc HW.out ZZ.out.2.2.2.1,keepc HW.out ZZ.out.2.2.2.2.1,keepc HW.out ZZ.out.2.2.2.2.2.1,keepc HW.out ZZ.out.2.2.2.2.2.2.1,keepc HW.out ZZ.out.2.2.2.2.2.2.2.1,keepc HW.out ZZ.out.2.2.2.2.2.2.2.2.1,keepc HW.out ZZ.out.2.2.2.2.2.2.2.2.2.1,keepc HW.out ZZ.out.2.2.2.2.2.2.2.2.2.2⟩ (fun hHeld=>?_)
    clear hK K
    refine norm_ (a':=?_) ?_ ?_
    rotate_left
    ·show Act.put _ (some 68) _=_
     simp only [Act.put,s0,s1,s2,i64_w,i32_w]
     rfl
    refine one_ (i:=12) (N:=some 60) #[true,true,true,true,true,true,true,true,true,true,true,true,true,false,true,true,true,true,true,true,true,false,false,false,false,false] rfl rfl (one_of HT_.out (by kernel_rfl)) (by decide) (fun K hK=>?_)
    try (obtain ⟨wc,hwc⟩ : ∃ z,wr.drew=z:=⟨_,rfl⟩;rw [hwc] at HW ⊢;clear hwc)
    refine value_ (w1:=?_) (v:=?_) (by rfl) rfl ?_ ?_
    rotate_left 2
    ·go_simp
     constructor
     ·rfl
     ·rfl
    obtain ⟨ga,hga⟩ : ∃ g,wc.heap.size=g:=⟨_,rfl⟩
    have H16 : Aside0 (Kd.C k63 (wc.alloc (.cells #[.bool x.f0,.slice K1 x.f1.length k1,.slice K2 x.f2.length k2,.bool u.f0,.slice U1 u.f1.length u1,.slice U2 u.f2.length u2] 63)) (some ⟨ga,0,none⟩) 2 [x,u]):=⟨by rw [← hga];exact pair_lit (k63.K_below HW.out KX.out) (k63.K_below HW.out KU.out)⟩
    rw [hga]
    clear hga
    have HA_ : Below wc.heap.size wc (wc.alloc (.cells #[.bool x.f0,.slice K1 x.f1.length k1,.slice K2 x.f2.length k2,.bool u.f0,.slice U1 u.f1.length u1,.slice U2 u.f2.length u2] 63)):=below_alloc (Below.refl _ _) _
    replace HW:=Aside0.mk (below_step HW.out HA_)
    try replace H28:=Aside0.mk (Kd.C_below H28.out HA_)
    obtain ⟨wc,hwd⟩ : ∃ wd,wc.alloc (.cells #[.bool x.f0,.slice K1 x.f1.length k1,.slice K2 x.f2.length k2,.bool u.f0,.slice U1 u.f1.length u1,.slice U2 u.f2.length u2] 63)=wd:=⟨_,rfl⟩
    rw [hwd] at HW H16 ⊢
    try rw [hwd] at H28
    clear HA_ hwd
    refine hK.out _ _ ⟨keepc HW.out ZZ.out.1,keepc HW.out ZZ.out.2.1,keepc HW.out ZZ.out.2.2.1,keepc HW.out ZZ.out.2.2.2.1,keepc HW.out ZZ.out.2.2.2.2.1,keepc HW.out ZZ.out.2.2.2.2.2.1,keepc HW.out ZZ.out.2.2.2.2.2.2.1,keepc HW.out ZZ.out.2.2.2.2.2.2.2.1,keepc HW.out ZZ.out.2.2.2.2.2.2.2.2.1,keepc HW.out ZZ.out.2.2.2.2.2.2.2.2.2.1,keepc HW.out ZZ.out.2.2.2.2.2.2.2.2.2.2⟩ (fun hHeld=>?_)
    clear hK K
    refine norm_ (a':=?_) ?_ ?_
    rotate_left
    ·show Act.put _ (some 60) _=_
     simp only [Act.put,s0,s1,s2,i64_w,i32_w]
     rfl
    refine one_ (i:=13) (N:=some 61) #[true,true,true,true,true,true,true,true,true,true,true,true,true,true,true,true,true,true,true,true,true,false,false,false,false,false] rfl rfl (one_of HT_.out (by kernel_rfl)) (by decide) (fun K hK=>?_)
    try (obtain ⟨wc,hwc⟩ : ∃ z,wr.drew=z:=⟨_,rfl⟩;rw [hwc] at HW ⊢;clear hwc)
    refine goes_ Try.func27 (by kernel_rfl) rfl #[.slice (some ⟨ga,0,none⟩) 2 2] (by rfl) rfl rfl (by simp only [List.map_toArray,List.map_cons,List.map_nil];rfl) ?_
    with_reducible refine (SX.out.go H16.out).mono ?_
    rintro e wc ⟨P1,p1,P2,p2,rfl,hxk,hb⟩
    refine ⟨_,rfl,?_⟩
    have H17:=Aside0.mk hxk
    replace HW:=Aside0.mk (below_step HW.out hb)
    try replace H28:=Aside0.mk (Kd.C_below H28.out hb)
    clear hxk hb
    refine hK.out _ _ ⟨keepc HW.out ZZ.out.1,keepc HW.out ZZ.out.2.1,keepc HW.out ZZ.out.2.2.1,keepc HW.out ZZ.out.2.2.2.1,keepc HW.out ZZ.out.2.2.2.2.1,keepc HW.out ZZ.out.2.2.2.2.2.1,keepc HW.out ZZ.out.2.2.2.2.2.2.1,keepc HW.out ZZ.out.2.2.2.2.2.2.2.1,keepc HW.out ZZ.out.2.2.2.2.2.2.2.2.1,keepc HW.out ZZ.out.2.2.2.2.2.2.2.2.2.1,keepc HW.out ZZ.out.2.2.2.2.2.2.2.2.2.2⟩ (fun hHeld=>?_)
    clear hK K
    refine norm_ (a':=?_) ?_ ?_
    rotate_left
    ·show Act.put _ (some 61) _=_
     simp only [Act.put,s0,s1,s2,i64_w,i32_w]
     rfl
    exact norm_ (by simp only [putAll,Act.put,s0,s1,s2]) (hCont (ga,gb,P1,p1,P2,p2) _ ⟨hHeld,HW.out,H17.out,H28.out⟩)
  ·skip
   try (obtain ⟨wc,hwc⟩ : ∃ z,wr.drew=z:=⟨_,rfl⟩;rw [hwc] at HW ⊢;clear hwc)
   refine value_ (w1:=?_) (v:=?_) (by rfl) rfl ?_ ?_
   rotate_left 2
   ·go_simp
    constructor
    ·rfl
    ·rfl
   obtain ⟨gb,hga⟩ : ∃ g,wc.heap.size=g:=⟨_,rfl⟩
   have H28 : Aside0 (Kd.C k63 (wc.alloc (.cells #[.bool y.f0,.slice N1 y.f1.length n1,.slice N2 y.f2.length n2,.bool v.f0,.slice V1 v.f1.length v1,.slice V2 v.f2.length v2] 63)) (some ⟨gb,0,none⟩) 2 [y,v]):=⟨by rw [← hga];exact pair_lit (k63.K_below HW.out KY.out) (k63.K_below HW.out KV.out)⟩
   rw [hga]
   clear hga
   have HA_ : Below wc.heap.size wc (wc.alloc (.cells #[.bool y.f0,.slice N1 y.f1.length n1,.slice N2 y.f2.length n2,.bool v.f0,.slice V1 v.f1.length v1,.slice V2 v.f2.length v2] 63)):=below_alloc (Below.refl _ _) _
   replace HW:=Aside0.mk (below_step HW.out HA_)
   try replace H16:=Aside0.mk (Kd.C_below H16.out HA_)
   try replace H17:=Aside0.mk (H17.out.below HA_)
   obtain ⟨wc,hwd⟩ : ∃ wd,wc.alloc (.cells #[.bool y.f0,.slice N1 y.f1.length n1,.slice N2 y.f2.length n2,.bool v.f0,.slice V1 v.f1.length v1,.slice V2 v.f2.length v2] 63)=wd:=⟨_,rfl⟩
   rw [hwd] at HW H28 ⊢
   try rw [hwd] at H16
   try rw [hwd] at H17
   clear HA_ hwd
   refine hK.out _ _ ⟨keepc HW.out ZZ.out.1,keepc HW.out ZZ.out.2.1,keepc HW.out ZZ.out.2.2.1,keepc HW.out ZZ.out.2.2.2.1,keepc HW.out ZZ.out.2.2.2.2.1,keepc HW.out ZZ.out.2.2.2.2.2.1,keepc HW.out ZZ.out.2.2.2.2.2.2.1,keepc HW.out ZZ.out.2.2.2.2.2.2.2.1,keepc HW.out ZZ.out.2.2.2.2.2.2.2.2.1,keepc HW.out ZZ.out.2.2.2.2.2.2.2.2.2.1,keepc HW.out ZZ.out.2.2.2.2.2.2.2.2.2.2⟩ (fun hHeld=>?_)
   clear hK K
   refine norm_ (a':=?_) ?_ ?_
   rotate_left
   ·show Act.put _ (some 68) _=_
    simp only [Act.put,s0,s1,s2,i64_w,i32_w]
    rfl
   refine one_ (i:=10) (N:=some 58) #[true,true,true,true,true,true,true,true,true,true,true,true,false,false,true,true,true,true,true,true,true,false,false,false,false,false] rfl rfl (one_of HT_.out (by kernel_rfl)) (by decide) (fun K hK=>?_)
   try (obtain ⟨wc,hwc⟩ : ∃ z,wr.drew=z:=⟨_,rfl⟩;rw [hwc] at HW ⊢;clear hwc)
   have q0:=keepc HW.out FX.out.1
   have q1:=keepc HW.out FX.out.2.1
   have q2:=keepc HW.out FX.out.2.2
   refine value_ (w1:=?_) (v:=?_) (by rfl) rfl ?_ ?_
   rotate_left 2
   ·go_simp
    constructor
    ·rfl
    ·rfl
   clear q0 q1 q2
   refine hK.out _ _ ⟨keepc HW.out ZZ.out.1,keepc HW.out ZZ.out.2.1,keepc HW.out ZZ.out.2.2.1,keepc HW.out ZZ.out.2.2.2.1,keepc HW.out ZZ.out.2.2.2.2.1,keepc HW.out ZZ.out.2.2.2.2.2.1,keepc HW.out ZZ.out.2.2.2.2.2.2.1,keepc HW.out ZZ.out.2.2.2.2.2.2.2.1,keepc HW.out ZZ.out.2.2.2.2.2.2.2.2.1,keepc HW.out ZZ.out.2.2.2.2.2.2.2.2.2.1,keepc HW.out ZZ.out.2.2.2.2.2.2.2.2.2.2⟩ (fun hHeld=>?_)
   clear hK K
   refine norm_ (a':=?_) ?_ ?_
   rotate_left
   ·show Act.put _ (some 58) _=_
    simp only [Act.put,s0,s1,s2,i64_w,i32_w]
    rfl
   refine one_ (i:=12) (N:=some 60) #[true,true,true,true,true,true,true,true,true,true,true,true,true,false,true,true,true,true,true,true,true,false,false,false,false,false] rfl rfl (one_of HT_.out (by kernel_rfl)) (by decide) (fun K hK=>?_)
   try (obtain ⟨wc,hwc⟩ : ∃ z,wr.drew=z:=⟨_,rfl⟩;rw [hwc] at HW ⊢;clear hwc)
   refine value_ (w1:=?_) (v:=?_) (by rfl) rfl ?_ ?_
   rotate_left 2
   ·go_simp
    constructor
    ·rfl
    ·rfl
   obtain ⟨ga,hga⟩ : ∃ g,wc.heap.size=g:=⟨_,rfl⟩
   have H16 : Aside0 (Kd.C k63 (wc.alloc (.cells #[.bool x.f0,.slice K1 x.f1.length k1,.slice K2 x.f2.length k2,.bool u.f0,.slice U1 u.f1.length u1,.slice U2 u.f2.length u2] 63)) (some ⟨ga,0,none⟩) 2 [x,u]):=⟨by rw [← hga];exact pair_lit (k63.K_below HW.out KX.out) (k63.K_below HW.out KU.out)⟩
   rw [hga]
   clear hga
   have HA_ : Below wc.heap.size wc (wc.alloc (.cells #[.bool x.f0,.slice K1 x.f1.length k1,.slice K2 x.f2.length k2,.bool u.f0,.slice U1 u.f1.length u1,.slice U2 u.f2.length u2] 63)):=below_alloc (Below.refl _ _) _
   replace HW:=Aside0.mk (below_step HW.out HA_)
   try replace H28:=Aside0.mk (Kd.C_below H28.out HA_)
   obtain ⟨wc,hwd⟩ : ∃ wd,wc.alloc (.cells #[.bool x.f0,.slice K1 x.f1.length k1,.slice K2 x.f2.length k2,.bool u.f0,.slice U1 u.f1.length u1,.slice U2 u.f2.length u2] 63)=wd:=⟨_,rfl⟩
   rw [hwd] at HW H16 ⊢
   try rw [hwd] at H28
   clear HA_ hwd
   refine hK.out _ _ ⟨keepc HW.out ZZ.out.1,keepc HW.out ZZ.out.2.1,keepc HW.out ZZ.out.2.2.1,keepc HW.out ZZ.out.2.2.2.1,keepc HW.out ZZ.out.2.2.2.2.1,keepc HW.out ZZ.out.2.2.2.2.2.1,keepc HW.out ZZ.out.2.2.2.2.2.2.1,keepc HW.out ZZ.out.2.2.2.2.2.2.2.1,keepc HW.out ZZ.out.2.2.2.2.2.2.2.2.1,keepc HW.out ZZ.out.2.2.2.2.2.2.2.2.2.1,keepc HW.out ZZ.out.2.2.2.2.2.2.2.2.2.2⟩ (fun hHeld=>?_)
   clear hK K
   refine norm_ (a':=?_) ?_ ?_
   rotate_left
   ·show Act.put _ (some 60) _=_
    simp only [Act.put,s0,s1,s2,i64_w,i32_w]
    rfl
   refine one_ (i:=13) (N:=some 61) #[true,true,true,true,true,true,true,true,true,true,true,true,true,true,true,true,true,true,true,true,true,false,false,false,false,false] rfl rfl (one_of HT_.out (by kernel_rfl)) (by decide) (fun K hK=>?_)
   try (obtain ⟨wc,hwc⟩ : ∃ z,wr.drew=z:=⟨_,rfl⟩;rw [hwc] at HW ⊢;clear hwc)
   refine goes_ Try.func27 (by kernel_rfl) rfl #[.slice (some ⟨ga,0,none⟩) 2 2] (by rfl) rfl rfl (by simp only [List.map_toArray,List.map_cons,List.map_nil];rfl) ?_
   with_reducible refine (SX.out.go H16.out).mono ?_
   rintro e wc ⟨P1,p1,P2,p2,rfl,hxk,hb⟩
   refine ⟨_,rfl,?_⟩
   have H17:=Aside0.mk hxk
   replace HW:=Aside0.mk (below_step HW.out hb)
   try replace H28:=Aside0.mk (Kd.C_below H28.out hb)
   clear hxk hb
   refine hK.out _ _ ⟨keepc HW.out ZZ.out.1,keepc HW.out ZZ.out.2.1,keepc HW.out ZZ.out.2.2.1,keepc HW.out ZZ.out.2.2.2.1,keepc HW.out ZZ.out.2.2.2.2.1,keepc HW.out ZZ.out.2.2.2.2.2.1,keepc HW.out ZZ.out.2.2.2.2.2.2.1,keepc HW.out ZZ.out.2.2.2.2.2.2.2.1,keepc HW.out ZZ.out.2.2.2.2.2.2.2.2.1,keepc HW.out ZZ.out.2.2.2.2.2.2.2.2.2.1,keepc HW.out ZZ.out.2.2.2.2.2.2.2.2.2.2⟩ (fun hHeld=>?_)
   clear hK K
   refine norm_ (a':=?_) ?_ ?_
   rotate_left
   ·show Act.put _ (some 61) _=_
    simp only [Act.put,s0,s1,s2,i64_w,i32_w]
    rfl
   exact norm_ (by simp only [putAll,Act.put,s0,s1,s2]) (hCont (ga,gb,P1,p1,P2,p2) _ ⟨hHeld,HW.out,H17.out,H28.out⟩)
 rintro ⟨ga,gb,P1,p1,P2,p2⟩ wc ⟨hHeld,h1,h2,h3⟩
 replace HW:=Aside0.mk h1
 have H17:=Aside0.mk h2
 have H28:=Aside0.mk h3
 clear h1 h2 h3
 refine norm_ (a':=?_) ?_ ?_
 rotate_left
 ·simp only [putAll,Act.put,s0,s1,s2]
  rfl
 refine one_ (i:=21) (N:=some 69) #[true,true,true,true,true,true,true,true,true,true,true,true,true,true,true,true,true,true,true,true,true,true,false,false,false,false] rfl rfl (one_of HT_.out (by kernel_rfl)) (by decide) (fun K hK=>?_)
 refine goes_ Try.func27 (by kernel_rfl) rfl #[.slice (some ⟨gb,0,none⟩) 2 2] (by rfl) rfl rfl (by simp only [List.map_toArray,List.map_cons,List.map_nil];rfl) ?_
 with_reducible refine (SY.out.go H28.out).mono ?_
 rintro e wc ⟨Q1,q1,Q2,q2,rfl,hxk,hb⟩
 refine ⟨_,rfl,?_⟩
 have H29:=Aside0.mk hxk
 replace HW:=Aside0.mk (below_step HW.out hb)
 replace H17:=Aside0.mk (H17.out.below hb)
 clear hxk hb H28
 clear hHeld
 refine hK.out _ _ ⟨keepc HW.out ZZ.out.1,keepc HW.out ZZ.out.2.1,keepc HW.out ZZ.out.2.2.1,keepc HW.out ZZ.out.2.2.2.1,keepc HW.out ZZ.out.2.2.2.2.1,keepc HW.out ZZ.out.2.2.2.2.2.1,keepc HW.out ZZ.out.2.2.2.2.2.2.1,keepc HW.out ZZ.out.2.2.2.2.2.2.2.1,keepc HW.out ZZ.out.2.2.2.2.2.2.2.2.1,keepc HW.out ZZ.out.2.2.2.2.2.2.2.2.2.1,keepc HW.out ZZ.out.2.2.2.2.2.2.2.2.2.2⟩ (fun hHeld=>?_)
 clear hK K
 refine norm_ (a':=?_) ?_ ?_
 rotate_left
 ·show Act.put _ (some 69) _=_
  simp only [Act.put,s0,s1,s2,i64_w,i32_w]
  rfl
 refine pq (i:=22) (N:=some 70) (v:=?_) (a':=?_) rfl rfl (any_of HT_.out (by kernel_rfl)) (Or.inl ⟨by rfl,?_⟩) ?_ ?_
 rotate_left
 ·intro w'
  go_simp
  with_reducible rfl
 rotate_left
 ·simp only [Act.put,s0,s1,s2,i64_w,i32_w]
  rfl
 refine one_ (i:=23) (N:=none) #[true,true,true,true,true,true,true,true,true,true,true,true,true,true,true,true,true,true,true,true,true,true,true,true,false,false] rfl rfl (one_of HT_.out (by kernel_rfl)) (by decide) (fun K hK=>?_)
 have q0:=keepc HW.out FX.out.1
 have q1:=keepc HW.out FX.out.2.1
 have q2:=keepc HW.out FX.out.2.2
 have q3:=(HO.out.1.below HW.out).free (i * 3)
 have q4:=next_cells (a:=.bool X.f0) (b:=.slice P1 X.f1.length p1) q1 q2
 refine skip_ (w1:=?_) (by rfl) rfl ?_ ?_
 rotate_left
 ·go_simp
  rfl
 clear q0 q1 q2 q3 q4
 have HB2 : Aside0 (Below w.heap.size w (((wc.setCell (ad.add (i * 3)) (.bool X.f0)).setCell ⟨(ad.add (i * 3)).block,(ad.add (i * 3)).off+1,none⟩ (.slice P1 X.f1.length p1)).setCell ⟨(ad.add (i * 3)).block,(ad.add (i * 3)).off+2,none⟩ (.slice P2 X.f2.length p2))∧(((wc.setCell (ad.add (i * 3)) (.bool X.f0)).setCell ⟨(ad.add (i * 3)).block,(ad.add (i * 3)).off+1,none⟩ (.slice P1 X.f1.length p1)).setCell ⟨(ad.add (i * 3)).block,(ad.add (i * 3)).off+2,none⟩ (.slice P2 X.f2.length p2)).heap[w.heap.size]? = some (.cells #[.int .i64 W,.int .i64 h,.int .i64 b,.slice (some ad) M c,.slice (some ad2) M c2] 27 (0,0))∧(((wc.setCell (ad.add (i * 3)) (.bool X.f0)).setCell ⟨(ad.add (i * 3)).block,(ad.add (i * 3)).off+1,none⟩ (.slice P1 X.f1.length p1)).setCell ⟨(ad.add (i * 3)).block,(ad.add (i * 3)).off+2,none⟩ (.slice P2 X.f2.length p2)).heap[g10]? = some (.cells #[.int .i64 0,.int .i64 0,.int .i64 0,.slice none 0 0,.slice none 0 0] 27 (0,0))):=⟨low_st3 (below_step HB.out.1 HW.out) (by rw [add_block];exact Nat.le_trans (Nat.le_add_right _ 4) HO.out.1.from_) _ _ _,blk_st3 (blk_below HB.out.2.1 HW.out) NE.out.1,blk_st3 (blk_below HB.out.2.2 HW.out) (blk_ne HO.out.1 HB.out.2.2 (by decide) _)⟩
 have HO2 : Aside0 (ORow (((wc.setCell (ad.add (i * 3)) (.bool X.f0)).setCell ⟨(ad.add (i * 3)).block,(ad.add (i * 3)).off+1,none⟩ (.slice P1 X.f1.length p1)).setCell ⟨(ad.add (i * 3)).block,(ad.add (i * 3)).off+2,none⟩ (.slice P2 X.f2.length p2)) (w.heap.size+4) ad c ((q.a.map mkR).set i X)∧ORow (((wc.setCell (ad.add (i * 3)) (.bool X.f0)).setCell ⟨(ad.add (i * 3)).block,(ad.add (i * 3)).off+1,none⟩ (.slice P1 X.f1.length p1)).setCell ⟨(ad.add (i * 3)).block,(ad.add (i * 3)).off+2,none⟩ (.slice P2 X.f2.length p2)) (w.heap.size+4) ad2 c2 (q.b.map mkR)∧XK (((wc.setCell (ad.add (i * 3)) (.bool X.f0)).setCell ⟨(ad.add (i * 3)).block,(ad.add (i * 3)).off+1,none⟩ (.slice P1 X.f1.length p1)).setCell ⟨(ad.add (i * 3)).block,(ad.add (i * 3)).off+2,none⟩ (.slice P2 X.f2.length p2)) Y [.bool Y.f0,.slice Q1 Y.f1.length q1,.slice Q2 Y.f2.length q2]):=⟨(HO.out.1.below HW.out).store TA.out.1 H17.out,(HO.out.2.1.below HW.out).beside (HO.out.1.below HW.out) HO.out.2.2 i _ _ _,XK.st3 H29.out (HO.out.1.below HW.out) (i * 3) _ _ _⟩
 have HH : Aside0 ((((wc.setCell (ad.add (i * 3)) (.bool X.f0)).setCell ⟨(ad.add (i * 3)).block,(ad.add (i * 3)).off+1,none⟩ (.slice P1 X.f1.length p1)).setCell ⟨(ad.add (i * 3)).block,(ad.add (i * 3)).off+2,none⟩ (.slice P2 X.f2.length p2)).cell? ⟨w.heap.size,3,none⟩=some (.slice (some ad) M c)∧(((wc.setCell (ad.add (i * 3)) (.bool X.f0)).setCell ⟨(ad.add (i * 3)).block,(ad.add (i * 3)).off+1,none⟩ (.slice P1 X.f1.length p1)).setCell ⟨(ad.add (i * 3)).block,(ad.add (i * 3)).off+2,none⟩ (.slice P2 X.f2.length p2)).cell? ⟨w.heap.size,4,none⟩=some (.slice (some ad2) M c2)∧(((wc.setCell (ad.add (i * 3)) (.bool X.f0)).setCell ⟨(ad.add (i * 3)).block,(ad.add (i * 3)).off+1,none⟩ (.slice P1 X.f1.length p1)).setCell ⟨(ad.add (i * 3)).block,(ad.add (i * 3)).off+2,none⟩ (.slice P2 X.f2.length p2)).cell? ⟨g8,0,none⟩=some (.bool u.f0)∧(((wc.setCell (ad.add (i * 3)) (.bool X.f0)).setCell ⟨(ad.add (i * 3)).block,(ad.add (i * 3)).off+1,none⟩ (.slice P1 X.f1.length p1)).setCell ⟨(ad.add (i * 3)).block,(ad.add (i * 3)).off+2,none⟩ (.slice P2 X.f2.length p2)).cell? ⟨g8,1,none⟩=some (.slice U1 u.f1.length u1)∧(((wc.setCell (ad.add (i * 3)) (.bool X.f0)).setCell ⟨(ad.add (i * 3)).block,(ad.add (i * 3)).off+1,none⟩ (.slice P1 X.f1.length p1)).setCell ⟨(ad.add (i * 3)).block,(ad.add (i * 3)).off+2,none⟩ (.slice P2 X.f2.length p2)).cell? ⟨g8,2,none⟩=some (.slice U2 u.f2.length u2)∧(((wc.setCell (ad.add (i * 3)) (.bool X.f0)).setCell ⟨(ad.add (i * 3)).block,(ad.add (i * 3)).off+1,none⟩ (.slice P1 X.f1.length p1)).setCell ⟨(ad.add (i * 3)).block,(ad.add (i * 3)).off+2,none⟩ (.slice P2 X.f2.length p2)).cell? (ad2.add (i * 3))=some (.bool y.f0)∧(((wc.setCell (ad.add (i * 3)) (.bool X.f0)).setCell ⟨(ad.add (i * 3)).block,(ad.add (i * 3)).off+1,none⟩ (.slice P1 X.f1.length p1)).setCell ⟨(ad.add (i * 3)).block,(ad.add (i * 3)).off+2,none⟩ (.slice P2 X.f2.length p2)).cell? ⟨(ad2.add (i * 3)).block,(ad2.add (i * 3)).off+1,none⟩=some (.slice N1 y.f1.length n1)∧(((wc.setCell (ad.add (i * 3)) (.bool X.f0)).setCell ⟨(ad.add (i * 3)).block,(ad.add (i * 3)).off+1,none⟩ (.slice P1 X.f1.length p1)).setCell ⟨(ad.add (i * 3)).block,(ad.add (i * 3)).off+2,none⟩ (.slice P2 X.f2.length p2)).cell? ⟨(ad2.add (i * 3)).block,(ad2.add (i * 3)).off+2,none⟩=some (.slice N2 y.f2.length n2)∧(((wc.setCell (ad.add (i * 3)) (.bool X.f0)).setCell ⟨(ad.add (i * 3)).block,(ad.add (i * 3)).off+1,none⟩ (.slice P1 X.f1.length p1)).setCell ⟨(ad.add (i * 3)).block,(ad.add (i * 3)).off+2,none⟩ (.slice P2 X.f2.length p2)).cell? ⟨g9,0,none⟩=some (.bool v.f0)∧(((wc.setCell (ad.add (i * 3)) (.bool X.f0)).setCell ⟨(ad.add (i * 3)).block,(ad.add (i * 3)).off+1,none⟩ (.slice P1 X.f1.length p1)).setCell ⟨(ad.add (i * 3)).block,(ad.add (i * 3)).off+2,none⟩ (.slice P2 X.f2.length p2)).cell? ⟨g9,1,none⟩=some (.slice V1 v.f1.length v1)∧(((wc.setCell (ad.add (i * 3)) (.bool X.f0)).setCell ⟨(ad.add (i * 3)).block,(ad.add (i * 3)).off+1,none⟩ (.slice P1 X.f1.length p1)).setCell ⟨(ad.add (i * 3)).block,(ad.add (i * 3)).off+2,none⟩ (.slice P2 X.f2.length p2)).cell? ⟨g9,2,none⟩=some (.slice V2 v.f2.length v2)):=⟨cell_st3 (keepc HW.out ZZ.out.1) NE.out.1,cell_st3 (keepc HW.out ZZ.out.2.1) NE.out.1,cell_st3 (keepc HW.out ZZ.out.2.2.1) NE.out.2.2.1,cell_st3 (keepc HW.out ZZ.out.2.2.2.1) NE.out.2.2.1,cell_st3 (keepc HW.out ZZ.out.2.2.2.2.1) NE.out.2.2.1,cell_st3 (keepc HW.out ZZ.out.2.2.2.2.2.1) NE.out.2.1,cell_st3 (keepc HW.out ZZ.out.2.2.2.2.2.2.1) NE.out.2.1,cell_st3 (keepc HW.out ZZ.out.2.2.2.2.2.2.2.1) NE.out.2.1,cell_st3 (keepc HW.out ZZ.out.2.2.2.2.2.2.2.2.1) NE.out.2.2.2,cell_st3 (keepc HW.out ZZ.out.2.2.2.2.2.2.2.2.2.1) NE.out.2.2.2,cell_st3 (keepc HW.out ZZ.out.2.2.2.2.2.2.2.2.2.2) NE.out.2.2.2⟩
 obtain ⟨wc,hwd⟩ : ∃ wd,((wc.setCell (ad.add (i * 3)) (.bool X.f0)).setCell ⟨(ad.add (i * 3)).block,(ad.add (i * 3)).off+1,none⟩ (.slice P1 X.f1.length p1)).setCell ⟨(ad.add (i * 3)).block,(ad.add (i * 3)).off+2,none⟩ (.slice P2 X.f2.length p2)=wd:=⟨_,rfl⟩
 rw [hwd] at HB2 HO2 HH ⊢
 clear hwd HW
 refine hK.out _ _ ⟨HH.out.1,HH.out.2.1,HH.out.2.2.1,HH.out.2.2.2.1,HH.out.2.2.2.2.1,HH.out.2.2.2.2.2.1,HH.out.2.2.2.2.2.2.1,HH.out.2.2.2.2.2.2.2.1,HH.out.2.2.2.2.2.2.2.2.1,HH.out.2.2.2.2.2.2.2.2.2.1,HH.out.2.2.2.2.2.2.2.2.2.2⟩ (fun hHeld=>?_)
 clear hK K
 refine pq (i:=24) (N:=some 71) (v:=?_) (a':=?_) rfl rfl (any_of HT_.out (by kernel_rfl)) (Or.inl ⟨by rfl,?_⟩) ?_ ?_
 rotate_left
 ·intro w'
  go_simp
  with_reducible rfl
 rotate_left
 ·simp only [Act.put,s0,s1,s2,i64_w,i32_w]
  rfl
 refine last_ (i:=25) (N:=none) #[true,true,true,true,true,true,true,true,true,true,true,true,true,true,true,true,true,true,true,true,true,true,true,true,true,true] rfl rfl (one_of HT_.out (by kernel_rfl)) (by decide) (fun K hK=>?_)
 have q0:=HH.out.2.2.2.2.2.1
 have k1_:=HH.out.2.2.2.2.2.2.1
 have k2_:=HH.out.2.2.2.2.2.2.2.1
 have q3:=HO2.out.2.1.free (i * 3)
 have q4:=next_cells (a:=.bool Y.f0) (b:=.slice Q1 Y.f1.length q1) k1_ k2_
 refine skip_ (w1:=?_) (by rfl) rfl ?_ ?_
 rotate_left
 ·go_simp
  rfl
 clear q4
 refine hK.out _ _ ?_
 clear hK K
 refine done_ (done_of HT_.out (by kernel_rfl)) ?_
 have HB3 : Aside0 (Below w.heap.size w (((wc.setCell (ad2.add (i * 3)) (.bool Y.f0)).setCell ⟨(ad2.add (i * 3)).block,(ad2.add (i * 3)).off+1,none⟩ (.slice Q1 Y.f1.length q1)).setCell ⟨(ad2.add (i * 3)).block,(ad2.add (i * 3)).off+2,none⟩ (.slice Q2 Y.f2.length q2))∧(((wc.setCell (ad2.add (i * 3)) (.bool Y.f0)).setCell ⟨(ad2.add (i * 3)).block,(ad2.add (i * 3)).off+1,none⟩ (.slice Q1 Y.f1.length q1)).setCell ⟨(ad2.add (i * 3)).block,(ad2.add (i * 3)).off+2,none⟩ (.slice Q2 Y.f2.length q2)).heap[w.heap.size]? = some (.cells #[.int .i64 W,.int .i64 h,.int .i64 b,.slice (some ad) M c,.slice (some ad2) M c2] 27 (0,0))∧(((wc.setCell (ad2.add (i * 3)) (.bool Y.f0)).setCell ⟨(ad2.add (i * 3)).block,(ad2.add (i * 3)).off+1,none⟩ (.slice Q1 Y.f1.length q1)).setCell ⟨(ad2.add (i * 3)).block,(ad2.add (i * 3)).off+2,none⟩ (.slice Q2 Y.f2.length q2)).heap[g10]? = some (.cells #[.int .i64 0,.int .i64 0,.int .i64 0,.slice none 0 0,.slice none 0 0] 27 (0,0))):=⟨low_st3 HB2.out.1 (by rw [add_block];exact Nat.le_trans (Nat.le_add_right _ 4) HO2.out.2.1.from_) _ _ _,blk_st3 HB2.out.2.1 (blk_ne HO2.out.2.1 HB2.out.2.1 (by decide) _),blk_st3 HB2.out.2.2 (blk_ne HO2.out.2.1 HB2.out.2.2 (by decide) _)⟩
 have HO3 : Aside0 (ORow (((wc.setCell (ad2.add (i * 3)) (.bool Y.f0)).setCell ⟨(ad2.add (i * 3)).block,(ad2.add (i * 3)).off+1,none⟩ (.slice Q1 Y.f1.length q1)).setCell ⟨(ad2.add (i * 3)).block,(ad2.add (i * 3)).off+2,none⟩ (.slice Q2 Y.f2.length q2)) (w.heap.size+4) ad c ((q.a.map mkR).set i X)∧ORow (((wc.setCell (ad2.add (i * 3)) (.bool Y.f0)).setCell ⟨(ad2.add (i * 3)).block,(ad2.add (i * 3)).off+1,none⟩ (.slice Q1 Y.f1.length q1)).setCell ⟨(ad2.add (i * 3)).block,(ad2.add (i * 3)).off+2,none⟩ (.slice Q2 Y.f2.length q2)) (w.heap.size+4) ad2 c2 ((q.b.map mkR).set i Y)):=⟨HO2.out.1.beside HO2.out.2.1 (fun e=>HO.out.2.2 e.symm) i _ _ _,HO2.out.2.1.store TB.out.1 HO2.out.2.2⟩
 obtain ⟨wc,hwd⟩ : ∃ wd,((wc.setCell (ad2.add (i * 3)) (.bool Y.f0)).setCell ⟨(ad2.add (i * 3)).block,(ad2.add (i * 3)).off+1,none⟩ (.slice Q1 Y.f1.length q1)).setCell ⟨(ad2.add (i * 3)).block,(ad2.add (i * 3)).off+2,none⟩ (.slice Q2 Y.f2.length q2)=wd:=⟨_,rfl⟩
 rw [hwd] at HB3 HO3 ⊢
 clear hwd
 have q0:=cells5 HB3.out.2.1
 have q1:=cells5 HB3.out.2.2
 have q2:=free5 HB3.out.2.2
 have q3 : w.heap.size≠g10:=by have:=HG.out.2.2.1;omega
 go_wp2
 have hR : Rows wc (w.heap.size+4) ⟨q.a.set i (q.a.getD i 0+p),q.b.set i (q.b.getD i 0+r)⟩ ad c ad2 c2:=⟨by rw [List.map_set,TA.out.2];exact HO3.out.1,by rw [List.map_set,TB.out.2];exact HO3.out.2,HO.out.2.2⟩
 have k5 : Tk [3,63,82] wc (set5 wc g10 (.int .i64 W) (.int .i64 h) (.int .i64 b) (.slice (some ad) M c) (.slice (some ad2) M c2)):=tk_set5 HB3.out.2.2 (by decide) _ _ _ _ _ inferInstance
 refine bodyPost_ret (results_ct rfl _ _ g10 27 _ (0,0) _ rfl (put5 HB3.out.2.2 (.int .i64 W) (.int .i64 h) (.int .i64 b) (.slice (some ad) M c) (.slice (some ad2) M c2)) Try.underlying27 rfl (by kernel_rfl)) rfl ⟨ad,c,ad2,c2,rfl,HLC.out.1,HLC.out.2,(hR.tk (k5.less (by simp))).lower (Nat.le_add_right _ 4),low5 (g:=g10) HB3.out.1 (by have:=HG.out.2.2.1;omega) (.int .i64 W) (.int .i64 h) (.int .i64 b) (.slice (some ad) M c) (.slice (some ad2) M c2)⟩
end Go.Proofs.Ytjiaobcoeegioaa.Pq
end
section
namespace Go.Proofs.Ytjiaobcoeegioaa.Pq
open Go.RowKit Go.Proofs.YtjiaobcoeegioaaW.PrintWords Go.Proofs.YtjiaobcoeegioaaW.PrintLast Go.Proofs.YtjiaobcoeegioaaW.PrintMore Go.Proofs.Ytjiaobcoeegioaa.N
set_option linter.unusedVariables false
set_option linter.unusedSimpArgs false
namespace X
def two.T2 : Bool × List (List Nat × List Nat):=(true,[([],[]),([],[]),([1],[]),([0,1,2,2],[0,1,2]),([3],[3]),([4],[4]),([4],[4]),([],[]),([7,5,3,0,1,2,3,4,5,7],[5,7]),([6,8,0,1,2,3,4,5,6,7,8],[6])])
def two.B2 : List Nat:=[0,0,2,7,15,31,31,0,191,511]
theorem two.tab2 : rtab .any (opsOf Try.f15 2)=two.T2:=by kernel_rfl
theorem two.bits2 : waitsOk two.T2.2 two.B2=true:=by kernel_rfl
def two.T3 : Bool × List (List Nat × List Nat):=(true,[([],[]),([],[]),([1],[]),([0,1,2,2],[0,1,2]),([3],[3]),([4],[4]),([4],[4]),([],[]),([7,5,3,0,1,2,3,4,5,7],[5,7]),([6,8,0,1,2,3,4,5,6,7,8],[6])])
def two.B3 : List Nat:=[0,0,2,7,15,31,31,0,191,511]
theorem two.tab3 : rtab .any (opsOf Try.f15 3)=two.T3:=by kernel_rfl
theorem two.bits3 : waitsOk two.T3.2 two.B3=true:=by kernel_rfl
end X
open X
def addQ (q : QF) (i : Nat) (p r : Rat) : QF:=⟨q.a.set i (q.a.getD i 0+p),q.b.set i (q.b.getD i 0+r)⟩
theorem of_x {a b : Int} {u : S63} (w : World) (a0 : 0≤a) (a1 : a < 9223372036854775808) (b0 : 0≤b) (b1 : b < 9223372036854775808) (hu : mkR (qv false a b)=u) :
  Calls Try.prog 29 #[.int .i64 a,.int .i64 b] w fun e w'=>∃ A1 c1 A2 c2,e=.returned (.agg #[.bool u.f0,.slice A1 u.f1.length c1,.slice A2 u.f2.length c2])∧XK w' u [.bool u.f0,.slice A1 u.f1.length c1,.slice A2 u.f2.length c2]∧Below w.heap.size w w':=hu ▸ of_sem a b w a0 a1 b0 b1
theorem s111 : szs 1 1 1=true:=by decide
theorem add111 {wr wc : World} {ae ae2 : Addr} {ce ce2 : Nat} {p r : Rat} {U1 U2 V1 V2 : Option Addr} {u1 u2 v1 v2 : Nat} {u v : S63} (hr : Rows wr 0 (zeroQ 1) ae ce ae2 ce2) (hb : Below wr.heap.size wr wc) (hp : mkR p=u∧sz1 p < 10000000) (hq : mkR r=v∧sz1 r < 10000000) (hu : XK wc u [.bool u.f0,.slice U1 u.f1.length u1,.slice U2 u.f2.length u2]) (hv : XK wc v [.bool v.f0,.slice V1 v.f1.length v1,.slice V2 v.f2.length v2]) :
  Calls Try.prog 28 #[.agg #[.int .i64 1,.int .i64 1,.int .i64 1,.slice (some ae) 1 ce,.slice (some ae2) 1 ce2],.int .i64 0,.int .i64 0,.agg #[.bool u.f0,.slice U1 u.f1.length u1,.slice U2 u.f2.length u2],.agg #[.bool v.f0,.slice V1 v.f1.length v1,.slice V2 v.f2.length v2]] wc fun e w'=>∃ ad c ad2 c2,e=.returned (.tuple #[.agg #[.int .i64 1,.int .i64 1,.int .i64 1,.slice (some ad) 1 c,.slice (some ad2) 1 c2],.bool true])∧1≤c∧1≤c2∧Rows w' wc.heap.size (addQ (zeroQ 1) 0 p r) ad c ad2 c2∧Below wc.heap.size wc w' :=
 add_sem (W:=1) (h:=1) (b:=1) (M:=1) (px:=0) (bin:=0) (i:=0) s111 (by decide) (zero_fits (by decide)) (Nat.lt_of_le_of_lt (zero_sz 1) (by decide)) hp.2 hq.2 (by decide) (by decide) (by decide) (by decide) (by decide) (by decide) hp.1 hq.1 wc (ORow.reads (hr.a.below hb)).2.now (ORow.reads (hr.b.below hb)).2.now hu hv
set_option maxHeartbeats 4000000 in
set_option maxRecDepth 100000 in
theorem two_sem {p r p2 r2 : Rat} {u v u2 v2 : S63} (hu : mkR (qv false 1 2)=u∧mkR p=u∧sz1 p < 10000000) (hv : mkR (qv false 0 1)=v∧mkR r=v∧sz1 r < 10000000) (hu2 : mkR (qv false 1 3)=u2∧mkR p2=u2∧sz1 p2 < 10000000) (hv2 : mkR (qv false 2 1)=v2∧mkR r2=v2∧sz1 r2 < 10000000) (w : World) :
  Calls Try.prog 15 #[] w fun e w'=>∃ g,e=.returned (.slice (some ⟨g,0,none⟩) 2 2)∧Kd.C k27 w' (some ⟨g,0,none⟩) 2 ([addQ (zeroQ 1) 0 p r,addQ (zeroQ 1) 0 p2 r2].map (mkF 1 1 1))∧Below w.heap.size w w':=by
 have HU:=Aside0.mk hu
 have HV:=Aside0.mk hv
 have HU2:=Aside0.mk hu2
 have HV2:=Aside0.mk hv2
 clear hu hv hu2 hv2
 go_enter Try.func15,Try.ntmps15
 go_upto_region 2 with (first
 |(go_at_call 17;(with_reducible refine (new_sem (M:=1) s111 (by decide) _).mono ?_);rintro e w1 ⟨ae,ce,ae2,ce2,rfl,lce,lce2,hrw,hb⟩;have HRW:=Aside0.mk hrw;have HB:=Aside0.mk hb;clear hrw hb lce lce2))
 have HB1:=Aside0.mk (below_alloc HB.out (.cells #[.int .i64 1,.int .i64 1,.int .i64 1,.slice (some ae) 1 ce,.slice (some ae2) 1 ce2] 27))
 have BF:=Aside0.mk (blk_new w1 (.cells #[.int .i64 1,.int .i64 1,.int .i64 1,.slice (some ae) 1 ce,.slice (some ae2) 1 ce2] 27))
 have HRF:=Aside0.mk ((HRW.out.lower (Nat.zero_le _)).below (below_alloc (Below.refl w1.heap.size w1) (.cells #[.int .i64 1,.int .i64 1,.int .i64 1,.slice (some ae) 1 ce,.slice (some ae2) 1 ce2] 27)))
 obtain ⟨wr,hwr⟩ : ∃ z,w1.alloc (.cells #[.int .i64 1,.int .i64 1,.int .i64 1,.slice (some ae) 1 ce,.slice (some ae2) 1 ce2] 27)=z:=⟨_,rfl⟩
 obtain ⟨g1,hg1⟩ : ∃ z,w1.heap.size=z:=⟨_,rfl⟩
 rw [hwr] at HB1 BF HRF ⊢
 rw [hg1] at BF ⊢
 clear hwr hg1 HB HRW
 have HW : Aside0 (Below wr.heap.size wr wr.drew):=⟨below_drew1 (Below.refl _ _)⟩
 refine start_ (n:=10) (S:=fun w'=>w'.cell? ⟨g1,0,none⟩=some (.int .i64 1)∧w'.cell? ⟨g1,1,none⟩=some (.int .i64 1)∧w'.cell? ⟨g1,2,none⟩=some (.int .i64 1)∧w'.cell? ⟨g1,3,none⟩=some (.slice (some ae) 1 ce)∧w'.cell? ⟨g1,4,none⟩=some (.slice (some ae2) 1 ce2)) (ds:=[]) #[false,false,false,false,false,false,false,false,false,false] (by kernel_rfl) rfl rfl ⟨(cells5 BF.out).1,(cells5 BF.out).2.1,(cells5 BF.out).2.2.1,(cells5 BF.out).2.2.2.1,(cells5 BF.out).2.2.2.2⟩ (fun hHeld=>?_)
 refine with_tabW two.tab2 two.bits2 (fun HT_ HW_=>?_)
 refine tq (i:=0) (N:=some 12) (v:=?_) (a':=?_) rfl rfl (take_ofW HT_.out HW_.out (by kernel_rfl)) hHeld (Or.inl ⟨by rfl,?_⟩) ?_ ?_
 rotate_left
 ·rintro w' ⟨s0,s1,s2,s3,s4⟩
  go_simp
  with_reducible rfl
 rotate_left
 ·simp only [Act.put,s0,s1,s2,i64_w,i32_w]
  rfl
 refine join_ (σ:=Option Addr × Nat × Option Addr × Nat × Option Addr × Nat × Option Addr × Nat × Addr × Nat × Addr × Nat × Nat) 2 #[true,true,true,true,true,true,true,true,false,false] (fun s_=>[(13,.agg #[.bool u.f0,.slice s_.1 u.f1.length s_.2.1,.slice s_.2.2.1 u.f2.length s_.2.2.2.1]),(14,.agg #[.bool v.f0,.slice s_.2.2.2.2.1 v.f1.length s_.2.2.2.2.2.1,.slice s_.2.2.2.2.2.2.1 v.f2.length s_.2.2.2.2.2.2.2.1]),(15,.tuple #[.agg #[.int .i64 1,.int .i64 1,.int .i64 1,.slice (some s_.2.2.2.2.2.2.2.2.1) 1 s_.2.2.2.2.2.2.2.2.2.1,.slice (some s_.2.2.2.2.2.2.2.2.2.2.1) 1 s_.2.2.2.2.2.2.2.2.2.2.2.1],.bool true]),(11,.tuple #[.agg #[.int .i64 1,.int .i64 1,.int .i64 1,.slice (some s_.2.2.2.2.2.2.2.2.1) 1 s_.2.2.2.2.2.2.2.2.2.1,.slice (some s_.2.2.2.2.2.2.2.2.2.2.1) 1 s_.2.2.2.2.2.2.2.2.2.2.2.1],.bool true]),(16,.agg #[.int .i64 1,.int .i64 1,.int .i64 1,.slice (some s_.2.2.2.2.2.2.2.2.1) 1 s_.2.2.2.2.2.2.2.2.2.1,.slice (some s_.2.2.2.2.2.2.2.2.2.2.1) 1 s_.2.2.2.2.2.2.2.2.2.2.2.1]),(17,.bool true),(3,.pointer (some ⟨s_.2.2.2.2.2.2.2.2.2.2.2.2,0,none⟩))]) (fun s_ w'=>(w'.cell? ⟨g1,0,none⟩=some (.int .i64 1)∧w'.cell? ⟨g1,1,none⟩=some (.int .i64 1)∧w'.cell? ⟨g1,2,none⟩=some (.int .i64 1)∧w'.cell? ⟨g1,3,none⟩=some (.slice (some ae) 1 ce)∧w'.cell? ⟨g1,4,none⟩=some (.slice (some ae2) 1 ce2))∧Below wr.heap.size wr w'∧(Rows w' wr.heap.size (addQ (zeroQ 1) 0 p r) s_.2.2.2.2.2.2.2.2.1 s_.2.2.2.2.2.2.2.2.2.1 s_.2.2.2.2.2.2.2.2.2.2.1 s_.2.2.2.2.2.2.2.2.2.2.2.1∧1≤s_.2.2.2.2.2.2.2.2.2.1∧1≤s_.2.2.2.2.2.2.2.2.2.2.2.1)∧w'.heap[s_.2.2.2.2.2.2.2.2.2.2.2.2]? = some (.cells #[.int .i64 0,.int .i64 0,.int .i64 0,.slice none 0 0,.slice none 0 0] 27 (0,0))∧wr.heap.size≤s_.2.2.2.2.2.2.2.2.2.2.2.2) ?_ ?_
 rotate_left
 ·intro hCont
  refine two_ (i:=1) (j:=7) (Ni:=some 13) (Nj:=some 3) #[true,true,false,false,false,false,false,false,false,false] #[true,false,false,false,false,false,false,true,false,false] rfl rfl rfl rfl (two_of HT_.out (by kernel_rfl)) (by decide) (by decide) (fun K hK=>?_) (fun K hK=>?_)
  ·skip
   try (obtain ⟨wc,hwc⟩ : ∃ z,wr.drew=z:=⟨_,rfl⟩;rw [hwc] at HW ⊢;clear hwc)
   refine goes_ Try.func29 (by kernel_rfl) rfl #[.int .i64 1,.int .i64 2] (by rfl) rfl rfl (by simp only [List.map_toArray,List.map_cons,List.map_nil];rfl) ?_
   with_reducible refine (of_x wc (by decide) (by decide) (by decide) (by decide) HU.out.1).mono ?_
   rintro e wc ⟨A1,a1,A2,a2,rfl,hx,hb⟩
   refine ⟨_,rfl,?_⟩
   have H1:=Aside0.mk hx
   replace HW:=Aside0.mk (below_step HW.out hb)
   try replace H7:=Aside0.mk (And.intro (blk_below H7.out.1 hb) H7.out.2)
   clear hx hb
   refine hK.out _ _ ⟨(cells5 (blk_below BF.out HW.out)).1,(cells5 (blk_below BF.out HW.out)).2.1,(cells5 (blk_below BF.out HW.out)).2.2.1,(cells5 (blk_below BF.out HW.out)).2.2.2.1,(cells5 (blk_below BF.out HW.out)).2.2.2.2⟩ (fun hHeld=>?_)
   clear hK K
   refine norm_ (a':=?_) ?_ ?_
   rotate_left
   ·show Act.put _ (some 13) _=_
    simp only [Act.put,s0,s1,s2,i64_w,i32_w]
    rfl
   refine two_ (i:=2) (j:=7) (Ni:=some 14) (Nj:=some 3) #[true,true,true,false,false,false,false,false,false,false] #[true,true,false,false,false,false,false,true,false,false] rfl rfl rfl rfl (two_of HT_.out (by kernel_rfl)) (by decide) (by decide) (fun K hK=>?_) (fun K hK=>?_)
   ·skip
    try (obtain ⟨wc,hwc⟩ : ∃ z,wr.drew=z:=⟨_,rfl⟩;rw [hwc] at HW ⊢;clear hwc)
    refine goes_ Try.func29 (by kernel_rfl) rfl #[.int .i64 0,.int .i64 1] (by rfl) rfl rfl (by simp only [List.map_toArray,List.map_cons,List.map_nil];rfl) ?_
    with_reducible refine (of_x wc (by decide) (by decide) (by decide) (by decide) HV.out.1).mono ?_
    rintro e wc ⟨B1,b1,B2,b2,rfl,hx,hb⟩
    refine ⟨_,rfl,?_⟩
    have H2:=Aside0.mk hx
    replace HW:=Aside0.mk (below_step HW.out hb)
    try replace H1:=Aside0.mk (H1.out.below hb)
    try replace H7:=Aside0.mk (And.intro (blk_below H7.out.1 hb) H7.out.2)
    clear hx hb
    refine hK.out _ _ ⟨(cells5 (blk_below BF.out HW.out)).1,(cells5 (blk_below BF.out HW.out)).2.1,(cells5 (blk_below BF.out HW.out)).2.2.1,(cells5 (blk_below BF.out HW.out)).2.2.2.1,(cells5 (blk_below BF.out HW.out)).2.2.2.2⟩ (fun hHeld=>?_)
    clear hK K
    refine norm_ (a':=?_) ?_ ?_
    rotate_left
    ·show Act.put _ (some 14) _=_
     simp only [Act.put,s0,s1,s2,i64_w,i32_w]
     rfl
    refine two_ (i:=3) (j:=7) (Ni:=some 15) (Nj:=some 3) #[true,true,true,true,false,false,false,false,false,false] #[true,true,true,false,false,false,false,true,false,false] rfl rfl rfl rfl (two_of HT_.out (by kernel_rfl)) (by decide) (by decide) (fun K hK=>?_) (fun K hK=>?_)
    ·skip
     refine goes_ Try.func28 (by kernel_rfl) rfl #[.agg #[.int .i64 1,.int .i64 1,.int .i64 1,.slice (some ae) 1 ce,.slice (some ae2) 1 ce2],.int .i64 0,.int .i64 0,.agg #[.bool u.f0,.slice A1 u.f1.length a1,.slice A2 u.f2.length a2],.agg #[.bool v.f0,.slice B1 v.f1.length b1,.slice B2 v.f2.length b2]] (by rfl) rfl rfl (by simp only [List.map_toArray,List.map_cons,List.map_nil];rfl) ?_
     with_reducible refine (add111 HRF.out HW.out HU.out.2 HV.out.2 H1.out H2.out).mono ?_
     rintro e wc ⟨ad,c,ad2,c2,rfl,lc,lc2,hrw,hb⟩
     refine ⟨_,rfl,?_⟩
     have H3:=Aside0.mk (And.intro (hrw.lower HW.out.size) (And.intro lc lc2))
     replace HW:=Aside0.mk (below_step HW.out hb)
     try replace H7:=Aside0.mk (And.intro (blk_below H7.out.1 hb) H7.out.2)
     clear lc lc2 hrw hb
     try clear H1 H2
     refine hK.out _ _ ⟨(cells5 (blk_below BF.out HW.out)).1,(cells5 (blk_below BF.out HW.out)).2.1,(cells5 (blk_below BF.out HW.out)).2.2.1,(cells5 (blk_below BF.out HW.out)).2.2.2.1,(cells5 (blk_below BF.out HW.out)).2.2.2.2⟩ (fun hHeld=>?_)
     clear hK K
     refine norm_ (a':=?_) ?_ ?_
     rotate_left
     ·show Act.put _ (some 15) _=_
      simp only [Act.put,s0,s1,s2,i64_w,i32_w]
      rfl
     refine pq (i:=4) (N:=some 11) (v:=?_) (a':=?_) rfl rfl (any_of HT_.out (by kernel_rfl)) (Or.inl ⟨by rfl,?_⟩) ?_ ?_
     rotate_left
     ·intro w'
      go_simp
      with_reducible rfl
     rotate_left
     ·simp only [Act.put,s0,s1,s2,i64_w,i32_w]
      rfl
     refine pq (i:=5) (N:=some 16) (v:=?_) (a':=?_) rfl rfl (any_of HT_.out (by kernel_rfl)) (Or.inl ⟨by rfl,?_⟩) ?_ ?_
     rotate_left
     ·intro w'
      go_simp
      with_reducible rfl
     rotate_left
     ·simp only [Act.put,s0,s1,s2,i64_w,i32_w]
      rfl
     refine pq (i:=6) (N:=some 17) (v:=?_) (a':=?_) rfl rfl (any_of HT_.out (by kernel_rfl)) (Or.inl ⟨by rfl,?_⟩) ?_ ?_
     rotate_left
     ·intro w'
      go_simp
      with_reducible rfl
     rotate_left
     ·simp only [Act.put,s0,s1,s2,i64_w,i32_w]
      rfl
     refine one_ (i:=7) (N:=some 3) #[true,true,true,true,true,true,true,true,false,false] rfl rfl (one_of HT_.out (by kernel_rfl)) (by decide) (fun K hK=>?_)
     try (obtain ⟨wc,hwc⟩ : ∃ z,wr.drew=z:=⟨_,rfl⟩;rw [hwc] at HW ⊢;clear hwc)
     refine value_ (w1:=?_) (v:=?_) (by rfl) rfl ?_ ?_
     rotate_left 2
     ·go_simp
      constructor
      ·rfl
      ·rfl
     obtain ⟨gz,hga⟩ : ∃ g,wc.heap.size=g:=⟨_,rfl⟩
     have H7 : Aside0 ((wc.alloc (.cells #[.int .i64 0,.int .i64 0,.int .i64 0,.slice none 0 0,.slice none 0 0] 27)).heap[gz]? = some (.cells #[.int .i64 0,.int .i64 0,.int .i64 0,.slice none 0 0,.slice none 0 0] 27 (0,0))∧wr.heap.size≤gz):=⟨by rw [← hga];exact ⟨blk_new _ _,HW.out.size⟩⟩
     rw [hga]
     clear hga
     have HA_ : Below wc.heap.size wc (wc.alloc (.cells #[.int .i64 0,.int .i64 0,.int .i64 0,.slice none 0 0,.slice none 0 0] 27)):=below_alloc (Below.refl _ _) _
     replace HW:=Aside0.mk (below_step HW.out HA_)
     try replace H1:=Aside0.mk (H1.out.below HA_)
     try replace H2:=Aside0.mk (H2.out.below HA_)
     try replace H3:=Aside0.mk (And.intro (H3.out.1.below HA_) H3.out.2)
     obtain ⟨wc,hwd⟩ : ∃ wd,wc.alloc (.cells #[.int .i64 0,.int .i64 0,.int .i64 0,.slice none 0 0,.slice none 0 0] 27)=wd:=⟨_,rfl⟩
     rw [hwd] at HW H7 ⊢
     try rw [hwd] at H1
     try rw [hwd] at H2
     try rw [hwd] at H3
     clear HA_ hwd
     refine hK.out _ _ ⟨(cells5 (blk_below BF.out HW.out)).1,(cells5 (blk_below BF.out HW.out)).2.1,(cells5 (blk_below BF.out HW.out)).2.2.1,(cells5 (blk_below BF.out HW.out)).2.2.2.1,(cells5 (blk_below BF.out HW.out)).2.2.2.2⟩ (fun hHeld=>?_)
     clear hK K
     refine norm_ (a':=?_) ?_ ?_
     rotate_left
     ·show Act.put _ (some 3) _=_
      simp only [Act.put,s0,s1,s2,i64_w,i32_w]
      rfl
     exact norm_ (by simp only [putAll,Act.put,s0,s1,s2]) (hCont (A1,a1,A2,a2,B1,b1,B2,b2,ad,c,ad2,c2,gz) _ ⟨hHeld,HW.out,H3.out,H7.out⟩)
    ·skip
     try (obtain ⟨wc,hwc⟩ : ∃ z,wr.drew=z:=⟨_,rfl⟩;rw [hwc] at HW ⊢;clear hwc)
     refine value_ (w1:=?_) (v:=?_) (by rfl) rfl ?_ ?_
     rotate_left 2
     ·go_simp
      constructor
      ·rfl
      ·rfl
     obtain ⟨gz,hga⟩ : ∃ g,wc.heap.size=g:=⟨_,rfl⟩
     have H7 : Aside0 ((wc.alloc (.cells #[.int .i64 0,.int .i64 0,.int .i64 0,.slice none 0 0,.slice none 0 0] 27)).heap[gz]? = some (.cells #[.int .i64 0,.int .i64 0,.int .i64 0,.slice none 0 0,.slice none 0 0] 27 (0,0))∧wr.heap.size≤gz):=⟨by rw [← hga];exact ⟨blk_new _ _,HW.out.size⟩⟩
     rw [hga]
     clear hga
     have HA_ : Below wc.heap.size wc (wc.alloc (.cells #[.int .i64 0,.int .i64 0,.int .i64 0,.slice none 0 0,.slice none 0 0] 27)):=below_alloc (Below.refl _ _) _
     replace HW:=Aside0.mk (below_step HW.out HA_)
     try replace H1:=Aside0.mk (H1.out.below HA_)
     try replace H2:=Aside0.mk (H2.out.below HA_)
     try replace H3:=Aside0.mk (And.intro (H3.out.1.below HA_) H3.out.2)
     obtain ⟨wc,hwd⟩ : ∃ wd,wc.alloc (.cells #[.int .i64 0,.int .i64 0,.int .i64 0,.slice none 0 0,.slice none 0 0] 27)=wd:=⟨_,rfl⟩
     rw [hwd] at HW H7 ⊢
     try rw [hwd] at H1
     try rw [hwd] at H2
     try rw [hwd] at H3
     clear HA_ hwd
     refine hK.out _ _ ⟨(cells5 (blk_below BF.out HW.out)).1,(cells5 (blk_below BF.out HW.out)).2.1,(cells5 (blk_below BF.out HW.out)).2.2.1,(cells5 (blk_below BF.out HW.out)).2.2.2.1,(cells5 (blk_below BF.out HW.out)).2.2.2.2⟩ (fun hHeld=>?_)
     clear hK K
     refine norm_ (a':=?_) ?_ ?_
     rotate_left
     ·show Act.put _ (some 3) _=_
      simp only [Act.put,s0,s1,s2,i64_w,i32_w]
      rfl
     refine one_ (i:=3) (N:=some 15) #[true,true,true,true,false,false,false,true,false,false] rfl rfl (one_of HT_.out (by kernel_rfl)) (by decide) (fun K hK=>?_)
     refine goes_ Try.func28 (by kernel_rfl) rfl #[.agg #[.int .i64 1,.int .i64 1,.int .i64 1,.slice (some ae) 1 ce,.slice (some ae2) 1 ce2],.int .i64 0,.int .i64 0,.agg #[.bool u.f0,.slice A1 u.f1.length a1,.slice A2 u.f2.length a2],.agg #[.bool v.f0,.slice B1 v.f1.length b1,.slice B2 v.f2.length b2]] (by rfl) rfl rfl (by simp only [List.map_toArray,List.map_cons,List.map_nil];rfl) ?_
     with_reducible refine (add111 HRF.out HW.out HU.out.2 HV.out.2 H1.out H2.out).mono ?_
     rintro e wc ⟨ad,c,ad2,c2,rfl,lc,lc2,hrw,hb⟩
     refine ⟨_,rfl,?_⟩
     have H3:=Aside0.mk (And.intro (hrw.lower HW.out.size) (And.intro lc lc2))
     replace HW:=Aside0.mk (below_step HW.out hb)
     try replace H7:=Aside0.mk (And.intro (blk_below H7.out.1 hb) H7.out.2)
     clear lc lc2 hrw hb
     try clear H1 H2
     refine hK.out _ _ ⟨(cells5 (blk_below BF.out HW.out)).1,(cells5 (blk_below BF.out HW.out)).2.1,(cells5 (blk_below BF.out HW.out)).2.2.1,(cells5 (blk_below BF.out HW.out)).2.2.2.1,(cells5 (blk_below BF.out HW.out)).2.2.2.2⟩ (fun hHeld=>?_)
     clear hK K
     refine norm_ (a':=?_) ?_ ?_
     rotate_left
     ·show Act.put _ (some 15) _=_
      simp only [Act.put,s0,s1,s2,i64_w,i32_w]
      rfl
     refine pq (i:=4) (N:=some 11) (v:=?_) (a':=?_) rfl rfl (any_of HT_.out (by kernel_rfl)) (Or.inl ⟨by rfl,?_⟩) ?_ ?_
     rotate_left
     ·intro w'
      go_simp
      with_reducible rfl
     rotate_left
     ·simp only [Act.put,s0,s1,s2,i64_w,i32_w]
      rfl
     refine pq (i:=5) (N:=some 16) (v:=?_) (a':=?_) rfl rfl (any_of HT_.out (by kernel_rfl)) (Or.inl ⟨by rfl,?_⟩) ?_ ?_
     rotate_left
     ·intro w'
      go_simp
      with_reducible rfl
     rotate_left
     ·simp only [Act.put,s0,s1,s2,i64_w,i32_w]
      rfl
     refine pq (i:=6) (N:=some 17) (v:=?_) (a':=?_) rfl rfl (any_of HT_.out (by kernel_rfl)) (Or.inl ⟨by rfl,?_⟩) ?_ ?_
     rotate_left
     ·intro w'
      go_simp
      with_reducible rfl
     rotate_left
     ·simp only [Act.put,s0,s1,s2,i64_w,i32_w]
      rfl
     exact norm_ (by simp only [putAll,Act.put,s0,s1,s2]) (hCont (A1,a1,A2,a2,B1,b1,B2,b2,ad,c,ad2,c2,gz) _ ⟨hHeld,HW.out,H3.out,H7.out⟩)
   ·skip
    try (obtain ⟨wc,hwc⟩ : ∃ z,wr.drew=z:=⟨_,rfl⟩;rw [hwc] at HW ⊢;clear hwc)
    refine value_ (w1:=?_) (v:=?_) (by rfl) rfl ?_ ?_
    rotate_left 2
    ·go_simp
     constructor
     ·rfl
     ·rfl
    obtain ⟨gz,hga⟩ : ∃ g,wc.heap.size=g:=⟨_,rfl⟩
    have H7 : Aside0 ((wc.alloc (.cells #[.int .i64 0,.int .i64 0,.int .i64 0,.slice none 0 0,.slice none 0 0] 27)).heap[gz]? = some (.cells #[.int .i64 0,.int .i64 0,.int .i64 0,.slice none 0 0,.slice none 0 0] 27 (0,0))∧wr.heap.size≤gz):=⟨by rw [← hga];exact ⟨blk_new _ _,HW.out.size⟩⟩
    rw [hga]
    clear hga
    have HA_ : Below wc.heap.size wc (wc.alloc (.cells #[.int .i64 0,.int .i64 0,.int .i64 0,.slice none 0 0,.slice none 0 0] 27)):=below_alloc (Below.refl _ _) _
    replace HW:=Aside0.mk (below_step HW.out HA_)
    try replace H1:=Aside0.mk (H1.out.below HA_)
    try replace H2:=Aside0.mk (H2.out.below HA_)
    try replace H3:=Aside0.mk (And.intro (H3.out.1.below HA_) H3.out.2)
    obtain ⟨wc,hwd⟩ : ∃ wd,wc.alloc (.cells #[.int .i64 0,.int .i64 0,.int .i64 0,.slice none 0 0,.slice none 0 0] 27)=wd:=⟨_,rfl⟩
    rw [hwd] at HW H7 ⊢
    try rw [hwd] at H1
    try rw [hwd] at H2
    try rw [hwd] at H3
    clear HA_ hwd
    refine hK.out _ _ ⟨(cells5 (blk_below BF.out HW.out)).1,(cells5 (blk_below BF.out HW.out)).2.1,(cells5 (blk_below BF.out HW.out)).2.2.1,(cells5 (blk_below BF.out HW.out)).2.2.2.1,(cells5 (blk_below BF.out HW.out)).2.2.2.2⟩ (fun hHeld=>?_)
    clear hK K
    refine norm_ (a':=?_) ?_ ?_
    rotate_left
    ·show Act.put _ (some 3) _=_
     simp only [Act.put,s0,s1,s2,i64_w,i32_w]
     rfl
    refine one_ (i:=2) (N:=some 14) #[true,true,true,false,false,false,false,true,false,false] rfl rfl (one_of HT_.out (by kernel_rfl)) (by decide) (fun K hK=>?_)
    try (obtain ⟨wc,hwc⟩ : ∃ z,wr.drew=z:=⟨_,rfl⟩;rw [hwc] at HW ⊢;clear hwc)
    refine goes_ Try.func29 (by kernel_rfl) rfl #[.int .i64 0,.int .i64 1] (by rfl) rfl rfl (by simp only [List.map_toArray,List.map_cons,List.map_nil];rfl) ?_
    with_reducible refine (of_x wc (by decide) (by decide) (by decide) (by decide) HV.out.1).mono ?_
    rintro e wc ⟨B1,b1,B2,b2,rfl,hx,hb⟩
    refine ⟨_,rfl,?_⟩
    have H2:=Aside0.mk hx
    replace HW:=Aside0.mk (below_step HW.out hb)
    try replace H1:=Aside0.mk (H1.out.below hb)
    try replace H7:=Aside0.mk (And.intro (blk_below H7.out.1 hb) H7.out.2)
    clear hx hb
    refine hK.out _ _ ⟨(cells5 (blk_below BF.out HW.out)).1,(cells5 (blk_below BF.out HW.out)).2.1,(cells5 (blk_below BF.out HW.out)).2.2.1,(cells5 (blk_below BF.out HW.out)).2.2.2.1,(cells5 (blk_below BF.out HW.out)).2.2.2.2⟩ (fun hHeld=>?_)
    clear hK K
    refine norm_ (a':=?_) ?_ ?_
    rotate_left
    ·show Act.put _ (some 14) _=_
     simp only [Act.put,s0,s1,s2,i64_w,i32_w]
     rfl
    refine one_ (i:=3) (N:=some 15) #[true,true,true,true,false,false,false,true,false,false] rfl rfl (one_of HT_.out (by kernel_rfl)) (by decide) (fun K hK=>?_)
    refine goes_ Try.func28 (by kernel_rfl) rfl #[.agg #[.int .i64 1,.int .i64 1,.int .i64 1,.slice (some ae) 1 ce,.slice (some ae2) 1 ce2],.int .i64 0,.int .i64 0,.agg #[.bool u.f0,.slice A1 u.f1.length a1,.slice A2 u.f2.length a2],.agg #[.bool v.f0,.slice B1 v.f1.length b1,.slice B2 v.f2.length b2]] (by rfl) rfl rfl (by simp only [List.map_toArray,List.map_cons,List.map_nil];rfl) ?_
    with_reducible refine (add111 HRF.out HW.out HU.out.2 HV.out.2 H1.out H2.out).mono ?_
    rintro e wc ⟨ad,c,ad2,c2,rfl,lc,lc2,hrw,hb⟩
    refine ⟨_,rfl,?_⟩
    have H3:=Aside0.mk (And.intro (hrw.lower HW.out.size) (And.intro lc lc2))
    replace HW:=Aside0.mk (below_step HW.out hb)
    try replace H7:=Aside0.mk (And.intro (blk_below H7.out.1 hb) H7.out.2)
    clear lc lc2 hrw hb
    try clear H1 H2
    refine hK.out _ _ ⟨(cells5 (blk_below BF.out HW.out)).1,(cells5 (blk_below BF.out HW.out)).2.1,(cells5 (blk_below BF.out HW.out)).2.2.1,(cells5 (blk_below BF.out HW.out)).2.2.2.1,(cells5 (blk_below BF.out HW.out)).2.2.2.2⟩ (fun hHeld=>?_)
    clear hK K
    refine norm_ (a':=?_) ?_ ?_
    rotate_left
    ·show Act.put _ (some 15) _=_
     simp only [Act.put,s0,s1,s2,i64_w,i32_w]
     rfl
    refine pq (i:=4) (N:=some 11) (v:=?_) (a':=?_) rfl rfl (any_of HT_.out (by kernel_rfl)) (Or.inl ⟨by rfl,?_⟩) ?_ ?_
    rotate_left
    ·intro w'
     go_simp
     with_reducible rfl
    rotate_left
    ·simp only [Act.put,s0,s1,s2,i64_w,i32_w]
     rfl
    refine pq (i:=5) (N:=some 16) (v:=?_) (a':=?_) rfl rfl (any_of HT_.out (by kernel_rfl)) (Or.inl ⟨by rfl,?_⟩) ?_ ?_
    rotate_left
    ·intro w'
     go_simp
     with_reducible rfl
    rotate_left
    ·simp only [Act.put,s0,s1,s2,i64_w,i32_w]
     rfl
    refine pq (i:=6) (N:=some 17) (v:=?_) (a':=?_) rfl rfl (any_of HT_.out (by kernel_rfl)) (Or.inl ⟨by rfl,?_⟩) ?_ ?_
    rotate_left
    ·intro w'
     go_simp
     with_reducible rfl
    rotate_left
    ·simp only [Act.put,s0,s1,s2,i64_w,i32_w]
     rfl
    exact norm_ (by simp only [putAll,Act.put,s0,s1,s2]) (hCont (A1,a1,A2,a2,B1,b1,B2,b2,ad,c,ad2,c2,gz) _ ⟨hHeld,HW.out,H3.out,H7.out⟩)
  ·skip
   try (obtain ⟨wc,hwc⟩ : ∃ z,wr.drew=z:=⟨_,rfl⟩;rw [hwc] at HW ⊢;clear hwc)
   refine value_ (w1:=?_) (v:=?_) (by rfl) rfl ?_ ?_
   rotate_left 2
   ·go_simp
    constructor
    ·rfl
    ·rfl
   obtain ⟨gz,hga⟩ : ∃ g,wc.heap.size=g:=⟨_,rfl⟩
   have H7 : Aside0 ((wc.alloc (.cells #[.int .i64 0,.int .i64 0,.int .i64 0,.slice none 0 0,.slice none 0 0] 27)).heap[gz]? = some (.cells #[.int .i64 0,.int .i64 0,.int .i64 0,.slice none 0 0,.slice none 0 0] 27 (0,0))∧wr.heap.size≤gz):=⟨by rw [← hga];exact ⟨blk_new _ _,HW.out.size⟩⟩
   rw [hga]
   clear hga
   have HA_ : Below wc.heap.size wc (wc.alloc (.cells #[.int .i64 0,.int .i64 0,.int .i64 0,.slice none 0 0,.slice none 0 0] 27)):=below_alloc (Below.refl _ _) _
   replace HW:=Aside0.mk (below_step HW.out HA_)
   try replace H1:=Aside0.mk (H1.out.below HA_)
   try replace H2:=Aside0.mk (H2.out.below HA_)
   try replace H3:=Aside0.mk (And.intro (H3.out.1.below HA_) H3.out.2)
   obtain ⟨wc,hwd⟩ : ∃ wd,wc.alloc (.cells #[.int .i64 0,.int .i64 0,.int .i64 0,.slice none 0 0,.slice none 0 0] 27)=wd:=⟨_,rfl⟩
   rw [hwd] at HW H7 ⊢
   try rw [hwd] at H1
   try rw [hwd] at H2
   try rw [hwd] at H3
   clear HA_ hwd
   refine hK.out _ _ ⟨(cells5 (blk_below BF.out HW.out)).1,(cells5 (blk_below BF.out HW.out)).2.1,(cells5 (blk_below BF.out HW.out)).2.2.1,(cells5 (blk_below BF.out HW.out)).2.2.2.1,(cells5 (blk_below BF.out HW.out)).2.2.2.2⟩ (fun hHeld=>?_)
   clear hK K
   refine norm_ (a':=?_) ?_ ?_
   rotate_left
   ·show Act.put _ (some 3) _=_
    simp only [Act.put,s0,s1,s2,i64_w,i32_w]
    rfl
   refine one_ (i:=1) (N:=some 13) #[true,true,false,false,false,false,false,true,false,false] rfl rfl (one_of HT_.out (by kernel_rfl)) (by decide) (fun K hK=>?_)
   try (obtain ⟨wc,hwc⟩ : ∃ z,wr.drew=z:=⟨_,rfl⟩;rw [hwc] at HW ⊢;clear hwc)
   refine goes_ Try.func29 (by kernel_rfl) rfl #[.int .i64 1,.int .i64 2] (by rfl) rfl rfl (by simp only [List.map_toArray,List.map_cons,List.map_nil];rfl) ?_
   with_reducible refine (of_x wc (by decide) (by decide) (by decide) (by decide) HU.out.1).mono ?_
   rintro e wc ⟨A1,a1,A2,a2,rfl,hx,hb⟩
   refine ⟨_,rfl,?_⟩
   have H1:=Aside0.mk hx
   replace HW:=Aside0.mk (below_step HW.out hb)
   try replace H7:=Aside0.mk (And.intro (blk_below H7.out.1 hb) H7.out.2)
   clear hx hb
   refine hK.out _ _ ⟨(cells5 (blk_below BF.out HW.out)).1,(cells5 (blk_below BF.out HW.out)).2.1,(cells5 (blk_below BF.out HW.out)).2.2.1,(cells5 (blk_below BF.out HW.out)).2.2.2.1,(cells5 (blk_below BF.out HW.out)).2.2.2.2⟩ (fun hHeld=>?_)
   clear hK K
   refine norm_ (a':=?_) ?_ ?_
   rotate_left
   ·show Act.put _ (some 13) _=_
    simp only [Act.put,s0,s1,s2,i64_w,i32_w]
    rfl
   refine one_ (i:=2) (N:=some 14) #[true,true,true,false,false,false,false,true,false,false] rfl rfl (one_of HT_.out (by kernel_rfl)) (by decide) (fun K hK=>?_)
   try (obtain ⟨wc,hwc⟩ : ∃ z,wr.drew=z:=⟨_,rfl⟩;rw [hwc] at HW ⊢;clear hwc)
   refine goes_ Try.func29 (by kernel_rfl) rfl #[.int .i64 0,.int .i64 1] (by rfl) rfl rfl (by simp only [List.map_toArray,List.map_cons,List.map_nil];rfl) ?_
   with_reducible refine (of_x wc (by decide) (by decide) (by decide) (by decide) HV.out.1).mono ?_
   rintro e wc ⟨B1,b1,B2,b2,rfl,hx,hb⟩
   refine ⟨_,rfl,?_⟩
   have H2:=Aside0.mk hx
   replace HW:=Aside0.mk (below_step HW.out hb)
   try replace H1:=Aside0.mk (H1.out.below hb)
   try replace H7:=Aside0.mk (And.intro (blk_below H7.out.1 hb) H7.out.2)
   clear hx hb
   refine hK.out _ _ ⟨(cells5 (blk_below BF.out HW.out)).1,(cells5 (blk_below BF.out HW.out)).2.1,(cells5 (blk_below BF.out HW.out)).2.2.1,(cells5 (blk_below BF.out HW.out)).2.2.2.1,(cells5 (blk_below BF.out HW.out)).2.2.2.2⟩ (fun hHeld=>?_)
   clear hK K
   refine norm_ (a':=?_) ?_ ?_
   rotate_left
   ·show Act.put _ (some 14) _=_
    simp only [Act.put,s0,s1,s2,i64_w,i32_w]
    rfl
   refine one_ (i:=3) (N:=some 15) #[true,true,true,true,false,false,false,true,false,false] rfl rfl (one_of HT_.out (by kernel_rfl)) (by decide) (fun K hK=>?_)
   refine goes_ Try.func28 (by kernel_rfl) rfl #[.agg #[.int .i64 1,.int .i64 1,.int .i64 1,.slice (some ae) 1 ce,.slice (some ae2) 1 ce2],.int .i64 0,.int .i64 0,.agg #[.bool u.f0,.slice A1 u.f1.length a1,.slice A2 u.f2.length a2],.agg #[.bool v.f0,.slice B1 v.f1.length b1,.slice B2 v.f2.length b2]] (by rfl) rfl rfl (by simp only [List.map_toArray,List.map_cons,List.map_nil];rfl) ?_
   with_reducible refine (add111 HRF.out HW.out HU.out.2 HV.out.2 H1.out H2.out).mono ?_
   rintro e wc ⟨ad,c,ad2,c2,rfl,lc,lc2,hrw,hb⟩
   refine ⟨_,rfl,?_⟩
   have H3:=Aside0.mk (And.intro (hrw.lower HW.out.size) (And.intro lc lc2))
   replace HW:=Aside0.mk (below_step HW.out hb)
   try replace H7:=Aside0.mk (And.intro (blk_below H7.out.1 hb) H7.out.2)
   clear lc lc2 hrw hb
   try clear H1 H2
   refine hK.out _ _ ⟨(cells5 (blk_below BF.out HW.out)).1,(cells5 (blk_below BF.out HW.out)).2.1,(cells5 (blk_below BF.out HW.out)).2.2.1,(cells5 (blk_below BF.out HW.out)).2.2.2.1,(cells5 (blk_below BF.out HW.out)).2.2.2.2⟩ (fun hHeld=>?_)
   clear hK K
   refine norm_ (a':=?_) ?_ ?_
   rotate_left
   ·show Act.put _ (some 15) _=_
    simp only [Act.put,s0,s1,s2,i64_w,i32_w]
    rfl
   refine pq (i:=4) (N:=some 11) (v:=?_) (a':=?_) rfl rfl (any_of HT_.out (by kernel_rfl)) (Or.inl ⟨by rfl,?_⟩) ?_ ?_
   rotate_left
   ·intro w'
    go_simp
    with_reducible rfl
   rotate_left
   ·simp only [Act.put,s0,s1,s2,i64_w,i32_w]
    rfl
   refine pq (i:=5) (N:=some 16) (v:=?_) (a':=?_) rfl rfl (any_of HT_.out (by kernel_rfl)) (Or.inl ⟨by rfl,?_⟩) ?_ ?_
   rotate_left
   ·intro w'
    go_simp
    with_reducible rfl
   rotate_left
   ·simp only [Act.put,s0,s1,s2,i64_w,i32_w]
    rfl
   refine pq (i:=6) (N:=some 17) (v:=?_) (a':=?_) rfl rfl (any_of HT_.out (by kernel_rfl)) (Or.inl ⟨by rfl,?_⟩) ?_ ?_
   rotate_left
   ·intro w'
    go_simp
    with_reducible rfl
   rotate_left
   ·simp only [Act.put,s0,s1,s2,i64_w,i32_w]
    rfl
   exact norm_ (by simp only [putAll,Act.put,s0,s1,s2]) (hCont (A1,a1,A2,a2,B1,b1,B2,b2,ad,c,ad2,c2,gz) _ ⟨hHeld,HW.out,H3.out,H7.out⟩)
 rintro ⟨A1,a1,A2,a2,B1,b1,B2,b2,ad,c,ad2,c2,gz⟩ wc ⟨hHeld,h1,h2,h3,h4⟩
 dsimp only at h1 h2 h3 h4
 replace HW:=Aside0.mk h1
 have H3:=Aside0.mk h2
 have H7:=Aside0.mk (And.intro h3 h4)
 clear h1 h2 h3 h4
 refine norm_ (a':=?_) ?_ ?_
 rotate_left
 ·simp only [putAll,Act.put,s0,s1,s2]
  rfl
 refine one_ (i:=8) (N:=none) #[true,true,true,true,true,true,true,true,true,false] rfl rfl (one_of HT_.out (by kernel_rfl)) (by decide) (fun K hK=>?_)
 have q0:=cells5 H7.out.1
 have q1:=free5 H7.out.1
 refine skip_ (w1:=?_) (by rfl) rfl ?_ ?_
 rotate_left
 ·go_simp
  rfl
 clear q0 q1
 have hne : g1≠gz:=fun e=>by have h1:=blk_lt BF.out;have h2:=H7.out.2;omega
 refine hK.out _ _ ⟨(cells5 (far5 (blk_below BF.out HW.out) hne _ _ _ _ _)).1,(cells5 (far5 (blk_below BF.out HW.out) hne _ _ _ _ _)).2.1,(cells5 (far5 (blk_below BF.out HW.out) hne _ _ _ _ _)).2.2.1,(cells5 (far5 (blk_below BF.out HW.out) hne _ _ _ _ _)).2.2.2.1,(cells5 (far5 (blk_below BF.out HW.out) hne _ _ _ _ _)).2.2.2.2⟩ (fun hHeld=>?_)
 clear hK K
 refine pq (i:=9) (N:=some 4) (v:=?_) (a':=?_) rfl rfl (any_of HT_.out (by kernel_rfl)) (Or.inl ⟨by rfl,?_⟩) ?_ ?_
 rotate_left
 ·intro w'
  go_simp
  with_reducible rfl
 rotate_left
 ·simp only [Act.put,s0,s1,s2,i64_w,i32_w]
  rfl
 refine done_ (done_of HT_.out (by kernel_rfl)) ?_
 have k5 : Tk [3,63,82] wc (((((wc.setCell ⟨gz,0,none⟩ (.int .i64 1)).setCell ⟨gz,1,none⟩ (.int .i64 1)).setCell ⟨gz,2,none⟩ (.int .i64 1)).setCell ⟨gz,3,none⟩ (.slice (some ad) 1 c)).setCell ⟨gz,4,none⟩ (.slice (some ad2) 1 c2)):=tk_set5 H7.out.1 (by decide) _ _ _ _ _ inferInstance
 have HB2 : Aside0 (Below w.heap.size w (((((wc.setCell ⟨gz,0,none⟩ (.int .i64 1)).setCell ⟨gz,1,none⟩ (.int .i64 1)).setCell ⟨gz,2,none⟩ (.int .i64 1)).setCell ⟨gz,3,none⟩ (.slice (some ad) 1 c)).setCell ⟨gz,4,none⟩ (.slice (some ad2) 1 c2))):=⟨low5 (g:=gz) (below_step HB1.out HW.out) (Nat.le_trans HB1.out.size H7.out.2) _ _ _ _ _⟩
 have B12 : Aside0 ((((((wc.setCell ⟨gz,0,none⟩ (.int .i64 1)).setCell ⟨gz,1,none⟩ (.int .i64 1)).setCell ⟨gz,2,none⟩ (.int .i64 1)).setCell ⟨gz,3,none⟩ (.slice (some ad) 1 c)).setCell ⟨gz,4,none⟩ (.slice (some ad2) 1 c2)).heap[g1]? = some (.cells #[.int .i64 1,.int .i64 1,.int .i64 1,.slice (some ae) 1 ce,.slice (some ae2) 1 ce2] 27 (0,0))):=⟨far5 (blk_below BF.out HW.out) hne _ _ _ _ _⟩
 have B3 : Aside0 ((((((wc.setCell ⟨gz,0,none⟩ (.int .i64 1)).setCell ⟨gz,1,none⟩ (.int .i64 1)).setCell ⟨gz,2,none⟩ (.int .i64 1)).setCell ⟨gz,3,none⟩ (.slice (some ad) 1 c)).setCell ⟨gz,4,none⟩ (.slice (some ad2) 1 c2)).heap[gz]? = some (.cells #[.int .i64 1,.int .i64 1,.int .i64 1,.slice (some ad) 1 c,.slice (some ad2) 1 c2] 27 (0,0))):=⟨put5 H7.out.1 _ _ _ _ _⟩
 have HRF2 : Aside0 (Rows (((((wc.setCell ⟨gz,0,none⟩ (.int .i64 1)).setCell ⟨gz,1,none⟩ (.int .i64 1)).setCell ⟨gz,2,none⟩ (.int .i64 1)).setCell ⟨gz,3,none⟩ (.slice (some ad) 1 c)).setCell ⟨gz,4,none⟩ (.slice (some ad2) 1 c2)) 0 (zeroQ 1) ae ce ae2 ce2):=⟨(HRF.out.below HW.out).tk (k5.less (by simp))⟩
 have HR3 : Aside0 (Rows (((((wc.setCell ⟨gz,0,none⟩ (.int .i64 1)).setCell ⟨gz,1,none⟩ (.int .i64 1)).setCell ⟨gz,2,none⟩ (.int .i64 1)).setCell ⟨gz,3,none⟩ (.slice (some ad) 1 c)).setCell ⟨gz,4,none⟩ (.slice (some ad2) 1 c2)) 0 (addQ (zeroQ 1) 0 p r) ad c ad2 c2):=⟨(H3.out.1.lower (Nat.zero_le _)).tk (k5.less (by simp))⟩
 clear k5 HRF BF H3 H7 HW hne HB1 hHeld
 obtain ⟨wr',hwr⟩ : ∃ z,((((wc.setCell ⟨gz,0,none⟩ (.int .i64 1)).setCell ⟨gz,1,none⟩ (.int .i64 1)).setCell ⟨gz,2,none⟩ (.int .i64 1)).setCell ⟨gz,3,none⟩ (.slice (some ad) 1 c)).setCell ⟨gz,4,none⟩ (.slice (some ad2) 1 c2)=z:=⟨_,rfl⟩
 rw [hwr] at HB2 B12 B3 HRF2 HR3 ⊢
 clear hwr
 obtain ⟨wr,ewr⟩ : ∃ z,z=wr':=⟨_,rfl⟩
 subst ewr
 obtain ⟨xd,ex⟩ : ∃ z,z=ad:=⟨_,rfl⟩
 subst ex
 obtain ⟨xc,ex⟩ : ∃ z,z=c:=⟨_,rfl⟩
 subst ex
 obtain ⟨xd2,ex⟩ : ∃ z,z=ad2:=⟨_,rfl⟩
 subst ex
 obtain ⟨xc2,ex⟩ : ∃ z,z=c2:=⟨_,rfl⟩
 subst ex
 obtain ⟨g3,ex⟩ : ∃ z,z=gz:=⟨_,rfl⟩
 subst ex
 have BF:=B12
 have HRF:=HRF2
 clear B12 HRF2
 go_upto_region 3 with fail
 have HW : Aside0 (Below wr.heap.size wr wr.drew):=⟨below_drew1 (Below.refl _ _)⟩
 refine start_ (n:=10) (S:=fun w'=>w'.cell? ⟨g1,0,none⟩=some (.int .i64 1)∧w'.cell? ⟨g1,1,none⟩=some (.int .i64 1)∧w'.cell? ⟨g1,2,none⟩=some (.int .i64 1)∧w'.cell? ⟨g1,3,none⟩=some (.slice (some ae) 1 ce)∧w'.cell? ⟨g1,4,none⟩=some (.slice (some ae2) 1 ce2)) (ds:=[]) #[false,false,false,false,false,false,false,false,false,false] (by kernel_rfl) rfl rfl ⟨(cells5 BF.out).1,(cells5 BF.out).2.1,(cells5 BF.out).2.2.1,(cells5 BF.out).2.2.2.1,(cells5 BF.out).2.2.2.2⟩ (fun hHeld=>?_)
 refine with_tabW two.tab3 two.bits3 (fun HT_ HW_=>?_)
 refine tq (i:=0) (N:=some 19) (v:=?_) (a':=?_) rfl rfl (take_ofW HT_.out HW_.out (by kernel_rfl)) hHeld (Or.inl ⟨by rfl,?_⟩) ?_ ?_
 rotate_left
 ·rintro w' ⟨s0,s1,s2,s3,s4⟩
  go_simp
  with_reducible rfl
 rotate_left
 ·simp only [Act.put,s0,s1,s2,i64_w,i32_w]
  rfl
 refine join_ (σ:=Option Addr × Nat × Option Addr × Nat × Option Addr × Nat × Option Addr × Nat × Addr × Nat × Addr × Nat × Nat) 2 #[true,true,true,true,true,true,true,true,false,false] (fun s_=>[(20,.agg #[.bool u2.f0,.slice s_.1 u2.f1.length s_.2.1,.slice s_.2.2.1 u2.f2.length s_.2.2.2.1]),(21,.agg #[.bool v2.f0,.slice s_.2.2.2.2.1 v2.f1.length s_.2.2.2.2.2.1,.slice s_.2.2.2.2.2.2.1 v2.f2.length s_.2.2.2.2.2.2.2.1]),(22,.tuple #[.agg #[.int .i64 1,.int .i64 1,.int .i64 1,.slice (some s_.2.2.2.2.2.2.2.2.1) 1 s_.2.2.2.2.2.2.2.2.2.1,.slice (some s_.2.2.2.2.2.2.2.2.2.2.1) 1 s_.2.2.2.2.2.2.2.2.2.2.2.1],.bool true]),(18,.tuple #[.agg #[.int .i64 1,.int .i64 1,.int .i64 1,.slice (some s_.2.2.2.2.2.2.2.2.1) 1 s_.2.2.2.2.2.2.2.2.2.1,.slice (some s_.2.2.2.2.2.2.2.2.2.2.1) 1 s_.2.2.2.2.2.2.2.2.2.2.2.1],.bool true]),(23,.agg #[.int .i64 1,.int .i64 1,.int .i64 1,.slice (some s_.2.2.2.2.2.2.2.2.1) 1 s_.2.2.2.2.2.2.2.2.2.1,.slice (some s_.2.2.2.2.2.2.2.2.2.2.1) 1 s_.2.2.2.2.2.2.2.2.2.2.2.1]),(24,.bool true),(5,.pointer (some ⟨s_.2.2.2.2.2.2.2.2.2.2.2.2,0,none⟩))]) (fun s_ w'=>(w'.cell? ⟨g1,0,none⟩=some (.int .i64 1)∧w'.cell? ⟨g1,1,none⟩=some (.int .i64 1)∧w'.cell? ⟨g1,2,none⟩=some (.int .i64 1)∧w'.cell? ⟨g1,3,none⟩=some (.slice (some ae) 1 ce)∧w'.cell? ⟨g1,4,none⟩=some (.slice (some ae2) 1 ce2))∧Below wr.heap.size wr w'∧(Rows w' wr.heap.size (addQ (zeroQ 1) 0 p2 r2) s_.2.2.2.2.2.2.2.2.1 s_.2.2.2.2.2.2.2.2.2.1 s_.2.2.2.2.2.2.2.2.2.2.1 s_.2.2.2.2.2.2.2.2.2.2.2.1∧1≤s_.2.2.2.2.2.2.2.2.2.1∧1≤s_.2.2.2.2.2.2.2.2.2.2.2.1)∧w'.heap[s_.2.2.2.2.2.2.2.2.2.2.2.2]? = some (.cells #[.int .i64 0,.int .i64 0,.int .i64 0,.slice none 0 0,.slice none 0 0] 27 (0,0))∧wr.heap.size≤s_.2.2.2.2.2.2.2.2.2.2.2.2) ?_ ?_
 rotate_left
 ·intro hCont
  refine two_ (i:=1) (j:=7) (Ni:=some 20) (Nj:=some 5) #[true,true,false,false,false,false,false,false,false,false] #[true,false,false,false,false,false,false,true,false,false] rfl rfl rfl rfl (two_of HT_.out (by kernel_rfl)) (by decide) (by decide) (fun K hK=>?_) (fun K hK=>?_)
  ·skip
   try (obtain ⟨wc,hwc⟩ : ∃ z,wr.drew=z:=⟨_,rfl⟩;rw [hwc] at HW ⊢;clear hwc)
   refine goes_ Try.func29 (by kernel_rfl) rfl #[.int .i64 1,.int .i64 3] (by rfl) rfl rfl (by simp only [List.map_toArray,List.map_cons,List.map_nil];rfl) ?_
   with_reducible refine (of_x wc (by decide) (by decide) (by decide) (by decide) HU2.out.1).mono ?_
   rintro e wc ⟨A1,a1,A2,a2,rfl,hx,hb⟩
   refine ⟨_,rfl,?_⟩
   have H1:=Aside0.mk hx
   replace HW:=Aside0.mk (below_step HW.out hb)
   try replace H7:=Aside0.mk (And.intro (blk_below H7.out.1 hb) H7.out.2)
   clear hx hb
   refine hK.out _ _ ⟨(cells5 (blk_below BF.out HW.out)).1,(cells5 (blk_below BF.out HW.out)).2.1,(cells5 (blk_below BF.out HW.out)).2.2.1,(cells5 (blk_below BF.out HW.out)).2.2.2.1,(cells5 (blk_below BF.out HW.out)).2.2.2.2⟩ (fun hHeld=>?_)
   clear hK K
   refine norm_ (a':=?_) ?_ ?_
   rotate_left
   ·show Act.put _ (some 20) _=_
    simp only [Act.put,s0,s1,s2,i64_w,i32_w]
    rfl
   refine two_ (i:=2) (j:=7) (Ni:=some 21) (Nj:=some 5) #[true,true,true,false,false,false,false,false,false,false] #[true,true,false,false,false,false,false,true,false,false] rfl rfl rfl rfl (two_of HT_.out (by kernel_rfl)) (by decide) (by decide) (fun K hK=>?_) (fun K hK=>?_)
   ·skip
    try (obtain ⟨wc,hwc⟩ : ∃ z,wr.drew=z:=⟨_,rfl⟩;rw [hwc] at HW ⊢;clear hwc)
    refine goes_ Try.func29 (by kernel_rfl) rfl #[.int .i64 2,.int .i64 1] (by rfl) rfl rfl (by simp only [List.map_toArray,List.map_cons,List.map_nil];rfl) ?_
    with_reducible refine (of_x wc (by decide) (by decide) (by decide) (by decide) HV2.out.1).mono ?_
    rintro e wc ⟨B1,b1,B2,b2,rfl,hx,hb⟩
    refine ⟨_,rfl,?_⟩
    have H2:=Aside0.mk hx
    replace HW:=Aside0.mk (below_step HW.out hb)
    try replace H1:=Aside0.mk (H1.out.below hb)
    try replace H7:=Aside0.mk (And.intro (blk_below H7.out.1 hb) H7.out.2)
    clear hx hb
    refine hK.out _ _ ⟨(cells5 (blk_below BF.out HW.out)).1,(cells5 (blk_below BF.out HW.out)).2.1,(cells5 (blk_below BF.out HW.out)).2.2.1,(cells5 (blk_below BF.out HW.out)).2.2.2.1,(cells5 (blk_below BF.out HW.out)).2.2.2.2⟩ (fun hHeld=>?_)
    clear hK K
    refine norm_ (a':=?_) ?_ ?_
    rotate_left
    ·show Act.put _ (some 21) _=_
     simp only [Act.put,s0,s1,s2,i64_w,i32_w]
     rfl
    refine two_ (i:=3) (j:=7) (Ni:=some 22) (Nj:=some 5) #[true,true,true,true,false,false,false,false,false,false] #[true,true,true,false,false,false,false,true,false,false] rfl rfl rfl rfl (two_of HT_.out (by kernel_rfl)) (by decide) (by decide) (fun K hK=>?_) (fun K hK=>?_)
    ·skip
     refine goes_ Try.func28 (by kernel_rfl) rfl #[.agg #[.int .i64 1,.int .i64 1,.int .i64 1,.slice (some ae) 1 ce,.slice (some ae2) 1 ce2],.int .i64 0,.int .i64 0,.agg #[.bool u2.f0,.slice A1 u2.f1.length a1,.slice A2 u2.f2.length a2],.agg #[.bool v2.f0,.slice B1 v2.f1.length b1,.slice B2 v2.f2.length b2]] (by rfl) rfl rfl (by simp only [List.map_toArray,List.map_cons,List.map_nil];rfl) ?_
     with_reducible refine (add111 HRF.out HW.out HU2.out.2 HV2.out.2 H1.out H2.out).mono ?_
     rintro e wc ⟨ad,c,ad2,c2,rfl,lc,lc2,hrw,hb⟩
     refine ⟨_,rfl,?_⟩
     have H3:=Aside0.mk (And.intro (hrw.lower HW.out.size) (And.intro lc lc2))
     replace HW:=Aside0.mk (below_step HW.out hb)
     try replace H7:=Aside0.mk (And.intro (blk_below H7.out.1 hb) H7.out.2)
     clear lc lc2 hrw hb
     try clear H1 H2
     refine hK.out _ _ ⟨(cells5 (blk_below BF.out HW.out)).1,(cells5 (blk_below BF.out HW.out)).2.1,(cells5 (blk_below BF.out HW.out)).2.2.1,(cells5 (blk_below BF.out HW.out)).2.2.2.1,(cells5 (blk_below BF.out HW.out)).2.2.2.2⟩ (fun hHeld=>?_)
     clear hK K
     refine norm_ (a':=?_) ?_ ?_
     rotate_left
     ·show Act.put _ (some 22) _=_
      simp only [Act.put,s0,s1,s2,i64_w,i32_w]
      rfl
     refine pq (i:=4) (N:=some 18) (v:=?_) (a':=?_) rfl rfl (any_of HT_.out (by kernel_rfl)) (Or.inl ⟨by rfl,?_⟩) ?_ ?_
     rotate_left
     ·intro w'
      go_simp
      with_reducible rfl
     rotate_left
     ·simp only [Act.put,s0,s1,s2,i64_w,i32_w]
      rfl
     refine pq (i:=5) (N:=some 23) (v:=?_) (a':=?_) rfl rfl (any_of HT_.out (by kernel_rfl)) (Or.inl ⟨by rfl,?_⟩) ?_ ?_
     rotate_left
     ·intro w'
      go_simp
      with_reducible rfl
     rotate_left
     ·simp only [Act.put,s0,s1,s2,i64_w,i32_w]
      rfl
     refine pq (i:=6) (N:=some 24) (v:=?_) (a':=?_) rfl rfl (any_of HT_.out (by kernel_rfl)) (Or.inl ⟨by rfl,?_⟩) ?_ ?_
     rotate_left
     ·intro w'
      go_simp
      with_reducible rfl
     rotate_left
     ·simp only [Act.put,s0,s1,s2,i64_w,i32_w]
      rfl
     refine one_ (i:=7) (N:=some 5) #[true,true,true,true,true,true,true,true,false,false] rfl rfl (one_of HT_.out (by kernel_rfl)) (by decide) (fun K hK=>?_)
     try (obtain ⟨wc,hwc⟩ : ∃ z,wr.drew=z:=⟨_,rfl⟩;rw [hwc] at HW ⊢;clear hwc)
     refine value_ (w1:=?_) (v:=?_) (by rfl) rfl ?_ ?_
     rotate_left 2
     ·go_simp
      constructor
      ·rfl
      ·rfl
     obtain ⟨gz,hga⟩ : ∃ g,wc.heap.size=g:=⟨_,rfl⟩
     have H7 : Aside0 ((wc.alloc (.cells #[.int .i64 0,.int .i64 0,.int .i64 0,.slice none 0 0,.slice none 0 0] 27)).heap[gz]? = some (.cells #[.int .i64 0,.int .i64 0,.int .i64 0,.slice none 0 0,.slice none 0 0] 27 (0,0))∧wr.heap.size≤gz):=⟨by rw [← hga];exact ⟨blk_new _ _,HW.out.size⟩⟩
     rw [hga]
     clear hga
     have HA_ : Below wc.heap.size wc (wc.alloc (.cells #[.int .i64 0,.int .i64 0,.int .i64 0,.slice none 0 0,.slice none 0 0] 27)):=below_alloc (Below.refl _ _) _
     replace HW:=Aside0.mk (below_step HW.out HA_)
     try replace H1:=Aside0.mk (H1.out.below HA_)
     try replace H2:=Aside0.mk (H2.out.below HA_)
     try replace H3:=Aside0.mk (And.intro (H3.out.1.below HA_) H3.out.2)
     obtain ⟨wc,hwd⟩ : ∃ wd,wc.alloc (.cells #[.int .i64 0,.int .i64 0,.int .i64 0,.slice none 0 0,.slice none 0 0] 27)=wd:=⟨_,rfl⟩
     rw [hwd] at HW H7 ⊢
     try rw [hwd] at H1
     try rw [hwd] at H2
     try rw [hwd] at H3
     clear HA_ hwd
     refine hK.out _ _ ⟨(cells5 (blk_below BF.out HW.out)).1,(cells5 (blk_below BF.out HW.out)).2.1,(cells5 (blk_below BF.out HW.out)).2.2.1,(cells5 (blk_below BF.out HW.out)).2.2.2.1,(cells5 (blk_below BF.out HW.out)).2.2.2.2⟩ (fun hHeld=>?_)
     clear hK K
     refine norm_ (a':=?_) ?_ ?_
     rotate_left
     ·show Act.put _ (some 5) _=_
      simp only [Act.put,s0,s1,s2,i64_w,i32_w]
      rfl
     exact norm_ (by simp only [putAll,Act.put,s0,s1,s2]) (hCont (A1,a1,A2,a2,B1,b1,B2,b2,ad,c,ad2,c2,gz) _ ⟨hHeld,HW.out,H3.out,H7.out⟩)
    ·skip
     try (obtain ⟨wc,hwc⟩ : ∃ z,wr.drew=z:=⟨_,rfl⟩;rw [hwc] at HW ⊢;clear hwc)
     refine value_ (w1:=?_) (v:=?_) (by rfl) rfl ?_ ?_
     rotate_left 2
     ·go_simp
      constructor
      ·rfl
      ·rfl
     obtain ⟨gz,hga⟩ : ∃ g,wc.heap.size=g:=⟨_,rfl⟩
     have H7 : Aside0 ((wc.alloc (.cells #[.int .i64 0,.int .i64 0,.int .i64 0,.slice none 0 0,.slice none 0 0] 27)).heap[gz]? = some (.cells #[.int .i64 0,.int .i64 0,.int .i64 0,.slice none 0 0,.slice none 0 0] 27 (0,0))∧wr.heap.size≤gz):=⟨by rw [← hga];exact ⟨blk_new _ _,HW.out.size⟩⟩
     rw [hga]
     clear hga
     have HA_ : Below wc.heap.size wc (wc.alloc (.cells #[.int .i64 0,.int .i64 0,.int .i64 0,.slice none 0 0,.slice none 0 0] 27)):=below_alloc (Below.refl _ _) _
     replace HW:=Aside0.mk (below_step HW.out HA_)
     try replace H1:=Aside0.mk (H1.out.below HA_)
     try replace H2:=Aside0.mk (H2.out.below HA_)
     try replace H3:=Aside0.mk (And.intro (H3.out.1.below HA_) H3.out.2)
     obtain ⟨wc,hwd⟩ : ∃ wd,wc.alloc (.cells #[.int .i64 0,.int .i64 0,.int .i64 0,.slice none 0 0,.slice none 0 0] 27)=wd:=⟨_,rfl⟩
     rw [hwd] at HW H7 ⊢
     try rw [hwd] at H1
     try rw [hwd] at H2
     try rw [hwd] at H3
     clear HA_ hwd
     refine hK.out _ _ ⟨(cells5 (blk_below BF.out HW.out)).1,(cells5 (blk_below BF.out HW.out)).2.1,(cells5 (blk_below BF.out HW.out)).2.2.1,(cells5 (blk_below BF.out HW.out)).2.2.2.1,(cells5 (blk_below BF.out HW.out)).2.2.2.2⟩ (fun hHeld=>?_)
     clear hK K
     refine norm_ (a':=?_) ?_ ?_
     rotate_left
     ·show Act.put _ (some 5) _=_
      simp only [Act.put,s0,s1,s2,i64_w,i32_w]
      rfl
     refine one_ (i:=3) (N:=some 22) #[true,true,true,true,false,false,false,true,false,false] rfl rfl (one_of HT_.out (by kernel_rfl)) (by decide) (fun K hK=>?_)
     refine goes_ Try.func28 (by kernel_rfl) rfl #[.agg #[.int .i64 1,.int .i64 1,.int .i64 1,.slice (some ae) 1 ce,.slice (some ae2) 1 ce2],.int .i64 0,.int .i64 0,.agg #[.bool u2.f0,.slice A1 u2.f1.length a1,.slice A2 u2.f2.length a2],.agg #[.bool v2.f0,.slice B1 v2.f1.length b1,.slice B2 v2.f2.length b2]] (by rfl) rfl rfl (by simp only [List.map_toArray,List.map_cons,List.map_nil];rfl) ?_
     with_reducible refine (add111 HRF.out HW.out HU2.out.2 HV2.out.2 H1.out H2.out).mono ?_
     rintro e wc ⟨ad,c,ad2,c2,rfl,lc,lc2,hrw,hb⟩
     refine ⟨_,rfl,?_⟩
     have H3:=Aside0.mk (And.intro (hrw.lower HW.out.size) (And.intro lc lc2))
     replace HW:=Aside0.mk (below_step HW.out hb)
     try replace H7:=Aside0.mk (And.intro (blk_below H7.out.1 hb) H7.out.2)
     clear lc lc2 hrw hb
     try clear H1 H2
     refine hK.out _ _ ⟨(cells5 (blk_below BF.out HW.out)).1,(cells5 (blk_below BF.out HW.out)).2.1,(cells5 (blk_below BF.out HW.out)).2.2.1,(cells5 (blk_below BF.out HW.out)).2.2.2.1,(cells5 (blk_below BF.out HW.out)).2.2.2.2⟩ (fun hHeld=>?_)
     clear hK K
     refine norm_ (a':=?_) ?_ ?_
     rotate_left
     ·show Act.put _ (some 22) _=_
      simp only [Act.put,s0,s1,s2,i64_w,i32_w]
      rfl
     refine pq (i:=4) (N:=some 18) (v:=?_) (a':=?_) rfl rfl (any_of HT_.out (by kernel_rfl)) (Or.inl ⟨by rfl,?_⟩) ?_ ?_
     rotate_left
     ·intro w'
      go_simp
      with_reducible rfl
     rotate_left
     ·simp only [Act.put,s0,s1,s2,i64_w,i32_w]
      rfl
     refine pq (i:=5) (N:=some 23) (v:=?_) (a':=?_) rfl rfl (any_of HT_.out (by kernel_rfl)) (Or.inl ⟨by rfl,?_⟩) ?_ ?_
     rotate_left
     ·intro w'
      go_simp
      with_reducible rfl
     rotate_left
     ·simp only [Act.put,s0,s1,s2,i64_w,i32_w]
      rfl
     refine pq (i:=6) (N:=some 24) (v:=?_) (a':=?_) rfl rfl (any_of HT_.out (by kernel_rfl)) (Or.inl ⟨by rfl,?_⟩) ?_ ?_
     rotate_left
     ·intro w'
      go_simp
      with_reducible rfl
     rotate_left
     ·simp only [Act.put,s0,s1,s2,i64_w,i32_w]
      rfl
     exact norm_ (by simp only [putAll,Act.put,s0,s1,s2]) (hCont (A1,a1,A2,a2,B1,b1,B2,b2,ad,c,ad2,c2,gz) _ ⟨hHeld,HW.out,H3.out,H7.out⟩)
   ·skip
    try (obtain ⟨wc,hwc⟩ : ∃ z,wr.drew=z:=⟨_,rfl⟩;rw [hwc] at HW ⊢;clear hwc)
    refine value_ (w1:=?_) (v:=?_) (by rfl) rfl ?_ ?_
    rotate_left 2
    ·go_simp
     constructor
     ·rfl
     ·rfl
    obtain ⟨gz,hga⟩ : ∃ g,wc.heap.size=g:=⟨_,rfl⟩
    have H7 : Aside0 ((wc.alloc (.cells #[.int .i64 0,.int .i64 0,.int .i64 0,.slice none 0 0,.slice none 0 0] 27)).heap[gz]? = some (.cells #[.int .i64 0,.int .i64 0,.int .i64 0,.slice none 0 0,.slice none 0 0] 27 (0,0))∧wr.heap.size≤gz):=⟨by rw [← hga];exact ⟨blk_new _ _,HW.out.size⟩⟩
    rw [hga]
    clear hga
    have HA_ : Below wc.heap.size wc (wc.alloc (.cells #[.int .i64 0,.int .i64 0,.int .i64 0,.slice none 0 0,.slice none 0 0] 27)):=below_alloc (Below.refl _ _) _
    replace HW:=Aside0.mk (below_step HW.out HA_)
    try replace H1:=Aside0.mk (H1.out.below HA_)
    try replace H2:=Aside0.mk (H2.out.below HA_)
    try replace H3:=Aside0.mk (And.intro (H3.out.1.below HA_) H3.out.2)
    obtain ⟨wc,hwd⟩ : ∃ wd,wc.alloc (.cells #[.int .i64 0,.int .i64 0,.int .i64 0,.slice none 0 0,.slice none 0 0] 27)=wd:=⟨_,rfl⟩
    rw [hwd] at HW H7 ⊢
    try rw [hwd] at H1
    try rw [hwd] at H2
    try rw [hwd] at H3
    clear HA_ hwd
    refine hK.out _ _ ⟨(cells5 (blk_below BF.out HW.out)).1,(cells5 (blk_below BF.out HW.out)).2.1,(cells5 (blk_below BF.out HW.out)).2.2.1,(cells5 (blk_below BF.out HW.out)).2.2.2.1,(cells5 (blk_below BF.out HW.out)).2.2.2.2⟩ (fun hHeld=>?_)
    clear hK K
    refine norm_ (a':=?_) ?_ ?_
    rotate_left
    ·show Act.put _ (some 5) _=_
     simp only [Act.put,s0,s1,s2,i64_w,i32_w]
     rfl
    refine one_ (i:=2) (N:=some 21) #[true,true,true,false,false,false,false,true,false,false] rfl rfl (one_of HT_.out (by kernel_rfl)) (by decide) (fun K hK=>?_)
    try (obtain ⟨wc,hwc⟩ : ∃ z,wr.drew=z:=⟨_,rfl⟩;rw [hwc] at HW ⊢;clear hwc)
    refine goes_ Try.func29 (by kernel_rfl) rfl #[.int .i64 2,.int .i64 1] (by rfl) rfl rfl (by simp only [List.map_toArray,List.map_cons,List.map_nil];rfl) ?_
    with_reducible refine (of_x wc (by decide) (by decide) (by decide) (by decide) HV2.out.1).mono ?_
    rintro e wc ⟨B1,b1,B2,b2,rfl,hx,hb⟩
    refine ⟨_,rfl,?_⟩
    have H2:=Aside0.mk hx
    replace HW:=Aside0.mk (below_step HW.out hb)
    try replace H1:=Aside0.mk (H1.out.below hb)
    try replace H7:=Aside0.mk (And.intro (blk_below H7.out.1 hb) H7.out.2)
    clear hx hb
    refine hK.out _ _ ⟨(cells5 (blk_below BF.out HW.out)).1,(cells5 (blk_below BF.out HW.out)).2.1,(cells5 (blk_below BF.out HW.out)).2.2.1,(cells5 (blk_below BF.out HW.out)).2.2.2.1,(cells5 (blk_below BF.out HW.out)).2.2.2.2⟩ (fun hHeld=>?_)
    clear hK K
    refine norm_ (a':=?_) ?_ ?_
    rotate_left
    ·show Act.put _ (some 21) _=_
     simp only [Act.put,s0,s1,s2,i64_w,i32_w]
     rfl
    refine one_ (i:=3) (N:=some 22) #[true,true,true,true,false,false,false,true,false,false] rfl rfl (one_of HT_.out (by kernel_rfl)) (by decide) (fun K hK=>?_)
    refine goes_ Try.func28 (by kernel_rfl) rfl #[.agg #[.int .i64 1,.int .i64 1,.int .i64 1,.slice (some ae) 1 ce,.slice (some ae2) 1 ce2],.int .i64 0,.int .i64 0,.agg #[.bool u2.f0,.slice A1 u2.f1.length a1,.slice A2 u2.f2.length a2],.agg #[.bool v2.f0,.slice B1 v2.f1.length b1,.slice B2 v2.f2.length b2]] (by rfl) rfl rfl (by simp only [List.map_toArray,List.map_cons,List.map_nil];rfl) ?_
    with_reducible refine (add111 HRF.out HW.out HU2.out.2 HV2.out.2 H1.out H2.out).mono ?_
    rintro e wc ⟨ad,c,ad2,c2,rfl,lc,lc2,hrw,hb⟩
    refine ⟨_,rfl,?_⟩
    have H3:=Aside0.mk (And.intro (hrw.lower HW.out.size) (And.intro lc lc2))
    replace HW:=Aside0.mk (below_step HW.out hb)
    try replace H7:=Aside0.mk (And.intro (blk_below H7.out.1 hb) H7.out.2)
    clear lc lc2 hrw hb
    try clear H1 H2
    refine hK.out _ _ ⟨(cells5 (blk_below BF.out HW.out)).1,(cells5 (blk_below BF.out HW.out)).2.1,(cells5 (blk_below BF.out HW.out)).2.2.1,(cells5 (blk_below BF.out HW.out)).2.2.2.1,(cells5 (blk_below BF.out HW.out)).2.2.2.2⟩ (fun hHeld=>?_)
    clear hK K
    refine norm_ (a':=?_) ?_ ?_
    rotate_left
    ·show Act.put _ (some 22) _=_
     simp only [Act.put,s0,s1,s2,i64_w,i32_w]
     rfl
    refine pq (i:=4) (N:=some 18) (v:=?_) (a':=?_) rfl rfl (any_of HT_.out (by kernel_rfl)) (Or.inl ⟨by rfl,?_⟩) ?_ ?_
    rotate_left
    ·intro w'
     go_simp
     with_reducible rfl
    rotate_left
    ·simp only [Act.put,s0,s1,s2,i64_w,i32_w]
     rfl
    refine pq (i:=5) (N:=some 23) (v:=?_) (a':=?_) rfl rfl (any_of HT_.out (by kernel_rfl)) (Or.inl ⟨by rfl,?_⟩) ?_ ?_
    rotate_left
    ·intro w'
     go_simp
     with_reducible rfl
    rotate_left
    ·simp only [Act.put,s0,s1,s2,i64_w,i32_w]
     rfl
    refine pq (i:=6) (N:=some 24) (v:=?_) (a':=?_) rfl rfl (any_of HT_.out (by kernel_rfl)) (Or.inl ⟨by rfl,?_⟩) ?_ ?_
    rotate_left
    ·intro w'
     go_simp
     with_reducible rfl
    rotate_left
    ·simp only [Act.put,s0,s1,s2,i64_w,i32_w]
     rfl
    exact norm_ (by simp only [putAll,Act.put,s0,s1,s2]) (hCont (A1,a1,A2,a2,B1,b1,B2,b2,ad,c,ad2,c2,gz) _ ⟨hHeld,HW.out,H3.out,H7.out⟩)
  ·skip
   try (obtain ⟨wc,hwc⟩ : ∃ z,wr.drew=z:=⟨_,rfl⟩;rw [hwc] at HW ⊢;clear hwc)
   refine value_ (w1:=?_) (v:=?_) (by rfl) rfl ?_ ?_
   rotate_left 2
   ·go_simp
    constructor
    ·rfl
    ·rfl
   obtain ⟨gz,hga⟩ : ∃ g,wc.heap.size=g:=⟨_,rfl⟩
   have H7 : Aside0 ((wc.alloc (.cells #[.int .i64 0,.int .i64 0,.int .i64 0,.slice none 0 0,.slice none 0 0] 27)).heap[gz]? = some (.cells #[.int .i64 0,.int .i64 0,.int .i64 0,.slice none 0 0,.slice none 0 0] 27 (0,0))∧wr.heap.size≤gz):=⟨by rw [← hga];exact ⟨blk_new _ _,HW.out.size⟩⟩
   rw [hga]
   clear hga
   have HA_ : Below wc.heap.size wc (wc.alloc (.cells #[.int .i64 0,.int .i64 0,.int .i64 0,.slice none 0 0,.slice none 0 0] 27)):=below_alloc (Below.refl _ _) _
   replace HW:=Aside0.mk (below_step HW.out HA_)
   try replace H1:=Aside0.mk (H1.out.below HA_)
   try replace H2:=Aside0.mk (H2.out.below HA_)
   try replace H3:=Aside0.mk (And.intro (H3.out.1.below HA_) H3.out.2)
   obtain ⟨wc,hwd⟩ : ∃ wd,wc.alloc (.cells #[.int .i64 0,.int .i64 0,.int .i64 0,.slice none 0 0,.slice none 0 0] 27)=wd:=⟨_,rfl⟩
   rw [hwd] at HW H7 ⊢
   try rw [hwd] at H1
   try rw [hwd] at H2
   try rw [hwd] at H3
   clear HA_ hwd
   refine hK.out _ _ ⟨(cells5 (blk_below BF.out HW.out)).1,(cells5 (blk_below BF.out HW.out)).2.1,(cells5 (blk_below BF.out HW.out)).2.2.1,(cells5 (blk_below BF.out HW.out)).2.2.2.1,(cells5 (blk_below BF.out HW.out)).2.2.2.2⟩ (fun hHeld=>?_)
   clear hK K
   refine norm_ (a':=?_) ?_ ?_
   rotate_left
   ·show Act.put _ (some 5) _=_
    simp only [Act.put,s0,s1,s2,i64_w,i32_w]
    rfl
   refine one_ (i:=1) (N:=some 20) #[true,true,false,false,false,false,false,true,false,false] rfl rfl (one_of HT_.out (by kernel_rfl)) (by decide) (fun K hK=>?_)
   try (obtain ⟨wc,hwc⟩ : ∃ z,wr.drew=z:=⟨_,rfl⟩;rw [hwc] at HW ⊢;clear hwc)
   refine goes_ Try.func29 (by kernel_rfl) rfl #[.int .i64 1,.int .i64 3] (by rfl) rfl rfl (by simp only [List.map_toArray,List.map_cons,List.map_nil];rfl) ?_
   with_reducible refine (of_x wc (by decide) (by decide) (by decide) (by decide) HU2.out.1).mono ?_
   rintro e wc ⟨A1,a1,A2,a2,rfl,hx,hb⟩
   refine ⟨_,rfl,?_⟩
   have H1:=Aside0.mk hx
   replace HW:=Aside0.mk (below_step HW.out hb)
   try replace H7:=Aside0.mk (And.intro (blk_below H7.out.1 hb) H7.out.2)
   clear hx hb
   refine hK.out _ _ ⟨(cells5 (blk_below BF.out HW.out)).1,(cells5 (blk_below BF.out HW.out)).2.1,(cells5 (blk_below BF.out HW.out)).2.2.1,(cells5 (blk_below BF.out HW.out)).2.2.2.1,(cells5 (blk_below BF.out HW.out)).2.2.2.2⟩ (fun hHeld=>?_)
   clear hK K
   refine norm_ (a':=?_) ?_ ?_
   rotate_left
   ·show Act.put _ (some 20) _=_
    simp only [Act.put,s0,s1,s2,i64_w,i32_w]
    rfl
   refine one_ (i:=2) (N:=some 21) #[true,true,true,false,false,false,false,true,false,false] rfl rfl (one_of HT_.out (by kernel_rfl)) (by decide) (fun K hK=>?_)
   try (obtain ⟨wc,hwc⟩ : ∃ z,wr.drew=z:=⟨_,rfl⟩;rw [hwc] at HW ⊢;clear hwc)
   refine goes_ Try.func29 (by kernel_rfl) rfl #[.int .i64 2,.int .i64 1] (by rfl) rfl rfl (by simp only [List.map_toArray,List.map_cons,List.map_nil];rfl) ?_
   with_reducible refine (of_x wc (by decide) (by decide) (by decide) (by decide) HV2.out.1).mono ?_
   rintro e wc ⟨B1,b1,B2,b2,rfl,hx,hb⟩
   refine ⟨_,rfl,?_⟩
   have H2:=Aside0.mk hx
   replace HW:=Aside0.mk (below_step HW.out hb)
   try replace H1:=Aside0.mk (H1.out.below hb)
   try replace H7:=Aside0.mk (And.intro (blk_below H7.out.1 hb) H7.out.2)
   clear hx hb
   refine hK.out _ _ ⟨(cells5 (blk_below BF.out HW.out)).1,(cells5 (blk_below BF.out HW.out)).2.1,(cells5 (blk_below BF.out HW.out)).2.2.1,(cells5 (blk_below BF.out HW.out)).2.2.2.1,(cells5 (blk_below BF.out HW.out)).2.2.2.2⟩ (fun hHeld=>?_)
   clear hK K
   refine norm_ (a':=?_) ?_ ?_
   rotate_left
   ·show Act.put _ (some 21) _=_
    simp only [Act.put,s0,s1,s2,i64_w,i32_w]
    rfl
   refine one_ (i:=3) (N:=some 22) #[true,true,true,true,false,false,false,true,false,false] rfl rfl (one_of HT_.out (by kernel_rfl)) (by decide) (fun K hK=>?_)
   refine goes_ Try.func28 (by kernel_rfl) rfl #[.agg #[.int .i64 1,.int .i64 1,.int .i64 1,.slice (some ae) 1 ce,.slice (some ae2) 1 ce2],.int .i64 0,.int .i64 0,.agg #[.bool u2.f0,.slice A1 u2.f1.length a1,.slice A2 u2.f2.length a2],.agg #[.bool v2.f0,.slice B1 v2.f1.length b1,.slice B2 v2.f2.length b2]] (by rfl) rfl rfl (by simp only [List.map_toArray,List.map_cons,List.map_nil];rfl) ?_
   with_reducible refine (add111 HRF.out HW.out HU2.out.2 HV2.out.2 H1.out H2.out).mono ?_
   rintro e wc ⟨ad,c,ad2,c2,rfl,lc,lc2,hrw,hb⟩
   refine ⟨_,rfl,?_⟩
   have H3:=Aside0.mk (And.intro (hrw.lower HW.out.size) (And.intro lc lc2))
   replace HW:=Aside0.mk (below_step HW.out hb)
   try replace H7:=Aside0.mk (And.intro (blk_below H7.out.1 hb) H7.out.2)
   clear lc lc2 hrw hb
   try clear H1 H2
   refine hK.out _ _ ⟨(cells5 (blk_below BF.out HW.out)).1,(cells5 (blk_below BF.out HW.out)).2.1,(cells5 (blk_below BF.out HW.out)).2.2.1,(cells5 (blk_below BF.out HW.out)).2.2.2.1,(cells5 (blk_below BF.out HW.out)).2.2.2.2⟩ (fun hHeld=>?_)
   clear hK K
   refine norm_ (a':=?_) ?_ ?_
   rotate_left
   ·show Act.put _ (some 22) _=_
    simp only [Act.put,s0,s1,s2,i64_w,i32_w]
    rfl
   refine pq (i:=4) (N:=some 18) (v:=?_) (a':=?_) rfl rfl (any_of HT_.out (by kernel_rfl)) (Or.inl ⟨by rfl,?_⟩) ?_ ?_
   rotate_left
   ·intro w'
    go_simp
    with_reducible rfl
   rotate_left
   ·simp only [Act.put,s0,s1,s2,i64_w,i32_w]
    rfl
   refine pq (i:=5) (N:=some 23) (v:=?_) (a':=?_) rfl rfl (any_of HT_.out (by kernel_rfl)) (Or.inl ⟨by rfl,?_⟩) ?_ ?_
   rotate_left
   ·intro w'
    go_simp
    with_reducible rfl
   rotate_left
   ·simp only [Act.put,s0,s1,s2,i64_w,i32_w]
    rfl
   refine pq (i:=6) (N:=some 24) (v:=?_) (a':=?_) rfl rfl (any_of HT_.out (by kernel_rfl)) (Or.inl ⟨by rfl,?_⟩) ?_ ?_
   rotate_left
   ·intro w'
    go_simp
    with_reducible rfl
   rotate_left
   ·simp only [Act.put,s0,s1,s2,i64_w,i32_w]
    rfl
   exact norm_ (by simp only [putAll,Act.put,s0,s1,s2]) (hCont (A1,a1,A2,a2,B1,b1,B2,b2,ad,c,ad2,c2,gz) _ ⟨hHeld,HW.out,H3.out,H7.out⟩)
 rintro ⟨A1,a1,A2,a2,B1,b1,B2,b2,ad,c,ad2,c2,gz⟩ wc ⟨hHeld,h1,h2,h3,h4⟩
 dsimp only at h1 h2 h3 h4
 replace HW:=Aside0.mk h1
 have H3:=Aside0.mk h2
 have H7:=Aside0.mk (And.intro h3 h4)
 clear h1 h2 h3 h4
 refine norm_ (a':=?_) ?_ ?_
 rotate_left
 ·simp only [putAll,Act.put,s0,s1,s2]
  rfl
 refine one_ (i:=8) (N:=none) #[true,true,true,true,true,true,true,true,true,false] rfl rfl (one_of HT_.out (by kernel_rfl)) (by decide) (fun K hK=>?_)
 have q0:=cells5 H7.out.1
 have q1:=free5 H7.out.1
 refine skip_ (w1:=?_) (by rfl) rfl ?_ ?_
 rotate_left
 ·go_simp
  rfl
 clear q0 q1
 have hne : g1≠gz:=fun e=>by have h1:=blk_lt BF.out;have h2:=H7.out.2;omega
 refine hK.out _ _ ⟨(cells5 (far5 (blk_below BF.out HW.out) hne _ _ _ _ _)).1,(cells5 (far5 (blk_below BF.out HW.out) hne _ _ _ _ _)).2.1,(cells5 (far5 (blk_below BF.out HW.out) hne _ _ _ _ _)).2.2.1,(cells5 (far5 (blk_below BF.out HW.out) hne _ _ _ _ _)).2.2.2.1,(cells5 (far5 (blk_below BF.out HW.out) hne _ _ _ _ _)).2.2.2.2⟩ (fun hHeld=>?_)
 clear hK K
 refine pq (i:=9) (N:=some 6) (v:=?_) (a':=?_) rfl rfl (any_of HT_.out (by kernel_rfl)) (Or.inl ⟨by rfl,?_⟩) ?_ ?_
 rotate_left
 ·intro w'
  go_simp
  with_reducible rfl
 rotate_left
 ·simp only [Act.put,s0,s1,s2,i64_w,i32_w]
  rfl
 refine done_ (done_of HT_.out (by kernel_rfl)) ?_
 have k5 : Tk [3,63,82] wc (((((wc.setCell ⟨gz,0,none⟩ (.int .i64 1)).setCell ⟨gz,1,none⟩ (.int .i64 1)).setCell ⟨gz,2,none⟩ (.int .i64 1)).setCell ⟨gz,3,none⟩ (.slice (some ad) 1 c)).setCell ⟨gz,4,none⟩ (.slice (some ad2) 1 c2)):=tk_set5 H7.out.1 (by decide) _ _ _ _ _ inferInstance
 have hne3 : g3≠gz:=fun e=>by have h1:=blk_lt B3.out;have h2:=H7.out.2;omega
 have HB4 : Aside0 (Below w.heap.size w (((((wc.setCell ⟨gz,0,none⟩ (.int .i64 1)).setCell ⟨gz,1,none⟩ (.int .i64 1)).setCell ⟨gz,2,none⟩ (.int .i64 1)).setCell ⟨gz,3,none⟩ (.slice (some ad) 1 c)).setCell ⟨gz,4,none⟩ (.slice (some ad2) 1 c2))):=⟨low5 (g:=gz) (below_step HB2.out HW.out) (Nat.le_trans HB2.out.size H7.out.2) _ _ _ _ _⟩
 have b3 : (((((wc.setCell ⟨gz,0,none⟩ (.int .i64 1)).setCell ⟨gz,1,none⟩ (.int .i64 1)).setCell ⟨gz,2,none⟩ (.int .i64 1)).setCell ⟨gz,3,none⟩ (.slice (some ad) 1 c)).setCell ⟨gz,4,none⟩ (.slice (some ad2) 1 c2)).heap[g3]? = some (.cells #[.int .i64 1,.int .i64 1,.int .i64 1,.slice (some xd) 1 xc,.slice (some xd2) 1 xc2] 27 (0,0)):=far5 (blk_below B3.out HW.out) hne3 (.int .i64 1) (.int .i64 1) (.int .i64 1) (.slice (some ad) 1 c) (.slice (some ad2) 1 c2)
 have b5 : (((((wc.setCell ⟨gz,0,none⟩ (.int .i64 1)).setCell ⟨gz,1,none⟩ (.int .i64 1)).setCell ⟨gz,2,none⟩ (.int .i64 1)).setCell ⟨gz,3,none⟩ (.slice (some ad) 1 c)).setCell ⟨gz,4,none⟩ (.slice (some ad2) 1 c2)).heap[gz]? = some (.cells #[.int .i64 1,.int .i64 1,.int .i64 1,.slice (some ad) 1 c,.slice (some ad2) 1 c2] 27 (0,0)):=put5 H7.out.1 (.int .i64 1) (.int .i64 1) (.int .i64 1) (.slice (some ad) 1 c) (.slice (some ad2) 1 c2)
 have h3:=(HR3.out.below HW.out).tk (k5.less (by simp))
 have h5:=H3.out.1.tk (k5.less (by simp))
 obtain ⟨wz,hwz⟩ : ∃ z,((((wc.setCell ⟨gz,0,none⟩ (.int .i64 1)).setCell ⟨gz,1,none⟩ (.int .i64 1)).setCell ⟨gz,2,none⟩ (.int .i64 1)).setCell ⟨gz,3,none⟩ (.slice (some ad) 1 c)).setCell ⟨gz,4,none⟩ (.slice (some ad2) 1 c2)=z:=⟨_,rfl⟩
 rw [hwz] at HB4 b3 b5 h3 h5 ⊢
 have HR:=Aside0.mk (And.intro h3 h5)
 have q0:=cells5 b3
 have q1:=cells5 b5
 clear k5 hwz hne hne3 b3 b5 h3 h5 H7 H3 HW HR3 HRF BF B3 HB2 hHeld
 go_wp2
 go_ret
 exact ⟨wz.heap.size,rfl,film_lit (film_K (M:=1) HR.out.1 (by decide) ⟨rfl,rfl⟩) (film_K (M:=1) HR.out.2 (by decide) ⟨rfl,rfl⟩),below_alloc HB4.out _⟩
end Go.Proofs.Ytjiaobcoeegioaa.Pq
end
section
namespace Go.Proofs.Ytjiaobcoeegioaa.Pq
open Go.RowKit Go.Proofs.YtjiaobcoeegioaaW.PrintWords Go.Proofs.YtjiaobcoeegioaaW.PrintLast Go.Proofs.YtjiaobcoeegioaaW.PrintMore
attribute [local go_sem] max2_int min2_int max_two min_two max_three min_three max_four min_four
set_option linter.unusedVariables false
set_option linter.unusedSimpArgs false
set_option maxHeartbeats 8000000
set_option maxRecDepth 100000
theorem penumbraref15_Ints.calls (k : Nat) (A0 : Option Addr) (c0 : Nat) (l0 : List Int) (A1 : Option Addr) (c1 : Nat) (l1 : List Int) (r : Bool) (w : World) (hr0 : Kd.C (Kd.int .i64) w A0 l0.length l0) (hc0 : l0.length≤c0) (hr1 : Kd.C (Kd.int .i64) w A1 l1.length l1) (hc1 : l1.length≤c1) (h : penumbraref15_Ints.f k l0 l1=some r) :
  Calls Try.prog 12 #[.slice A0 l0.length c0,.slice A1 l1.length c1] w fun e w'=>e=.returned (.bool r)∧Drawn0 w w':=by
 have HR0:=Aside0.mk hr0
 have HC0:=Aside0.mk hc0
 clear hr0 hc0
 have HR1:=Aside0.mk hr1
 have HC1:=Aside0.mk hc1
 clear hr1 hc1
 have H : (if (l0.length : Int)=(l1.length : Int) then (penumbraref15_Ints.l0 k l0 l1 0) else (some false))=some r:=h
 clear h
 by_cases c3 : (l0.length : Int)=(l1.length : Int)
 ·rw [if_pos c3] at H
  have c3b0 : ((l0.length : Int) == (l1.length : Int))=true:=beq_iff_eq.mpr c3
  have c3b1 : ((l0.length : Int) != (l1.length : Int))=false:=bne_eq_false_iff_eq.mpr c3
  have c3b2 : (l0.length == l1.length)=true:=by first|simpa using c3|(simp at c3 ⊢;omega)
  clear c3
  have H':=Aside0.mk H
  clear H
  go_enter Try.func12,Try.ntmps12
  go_wp2
  repeat (go_quiet (fail);try go_wp2)
  go_loopg [5] k (fun kq v5 w'=>∃ (x5_1 : Int),v5=.int .i64 x5_1∧Aside0 (penumbraref15_Ints.l0 kq l0 l1 x5_1=some r)∧Aside0 (kq≤k)∧Drawn0 w w')
  case atStart=>exact ⟨(0),(by first|rfl|(simp;done)|(simp [*];done)),H',⟨Nat.le_refl _⟩,by repeat (first|exact Drawn0.refl _|apply Drawn0.step)⟩
  case round =>
   clear H'
   try clear c1
   try clear p2
   try clear c3
   try clear c3b0
   try clear c3b1
   try clear c3b2
   obtain ⟨x5_1,rfl,HA,HK1,⟨m1,rfl⟩⟩:=hrel
   cases gk with
  |zero=>exact absurd HA.out (by simp [penumbraref15_Ints.l0])
  |succ k1 =>
    have H:=HA.out
    clear HA
    simp only [penumbraref15_Ints.l0] at H
    by_cases c4 : x5_1 < (l0.length : Int)
    ·rw [if_pos c4] at H
     have c4b0 : decide (x5_1 < (l0.length : Int))=true:=decide_eq_true c4
     clear c4
     by_cases c5 : 0≤x5_1
     ·rw [if_pos c5] at H
      have c5b0 : decide (0≤x5_1)=true:=decide_eq_true c5
      clear c5
      by_cases c6 : x5_1 < (l1.length : Int)
      ·rw [if_pos c6] at H
       have c6b0 : decide (x5_1 < (l1.length : Int))=true:=decide_eq_true c6
       clear c6
       by_cases c7 : (rd l0 x5_1)=(rd l1 x5_1)
       ·rw [if_pos c7] at H
        have c7b0 : ((rd l0 x5_1) == (rd l1 x5_1))=true:=beq_iff_eq.mpr c7
        have c7b1 : ((rd l0 x5_1) != (rd l1 x5_1))=false:=bne_eq_false_iff_eq.mpr c7
        clear c7
        have H':=Aside0.mk H
        clear H
        have p453 : 0≤(x5_1 : Int):=of_decide_eq_true (by first|(with_reducible assumption)|assumption)
        have q453 : x5_1 < (l0.length : Int):=of_decide_eq_true (by first|(with_reducible assumption)|assumption)
        obtain ⟨ad453,e453,hx453_0⟩:=Kd.at_int HR0.out x5_1 p453 q453
        cases e453
        replace p453:=eq_true p453
        replace q453:=eq_true q453
        have p454 : 0≤(x5_1 : Int):=of_decide_eq_true (by first|(with_reducible assumption)|assumption)
        have q454 : x5_1 < (l1.length : Int):=of_decide_eq_true (by first|(with_reducible assumption)|assumption)
        obtain ⟨ad454,e454,hx454_0⟩:=Kd.at_int HR1.out x5_1 p454 q454
        cases e454
        replace p454:=eq_true p454
        replace q454:=eq_true q454
        go_wp2
        repeat (go_quiet (fail);try go_wp2)
        go_roundg k1
        case measure=>have:=HK1.out;omega
        case rel=>exact ⟨(wrap64 (x5_1+1)),(by first|rfl|(simp;done)|(simp [*];done)),H',⟨by have:=HK1.out;omega⟩,by repeat (first|exact Drawn0.refl _|apply Drawn0.step)⟩
       ·rw [if_neg c7] at H
        have c7b0 : ((rd l0 x5_1) == (rd l1 x5_1))=false:=beq_eq_false_iff_ne.mpr c7
        have c7b1 : ((rd l0 x5_1) != (rd l1 x5_1))=true:=bne_iff_ne.mpr c7
        obtain rfl:=Option.some.inj H
        have p453 : 0≤(x5_1 : Int):=of_decide_eq_true (by first|(with_reducible assumption)|assumption)
        have q453 : x5_1 < (l0.length : Int):=of_decide_eq_true (by first|(with_reducible assumption)|assumption)
        obtain ⟨ad453,e453,hx453_0⟩:=Kd.at_int HR0.out x5_1 p453 q453
        cases e453
        replace p453:=eq_true p453
        replace q453:=eq_true q453
        have p454 : 0≤(x5_1 : Int):=of_decide_eq_true (by first|(with_reducible assumption)|assumption)
        have q454 : x5_1 < (l1.length : Int):=of_decide_eq_true (by first|(with_reducible assumption)|assumption)
        obtain ⟨ad454,e454,hx454_0⟩:=Kd.at_int HR1.out x5_1 p454 q454
        cases e454
        replace p454:=eq_true p454
        replace q454:=eq_true q454
        go_wp2
        repeat (go_quiet (fail);try go_wp2)
        go_ret
        exact ⟨by first|rfl|(simp;done)|(simp [*];done),by repeat (first|exact Drawn0.refl _|apply Drawn0.step)⟩
      ·rw [if_neg c6] at H
       exact absurd H (by simp)
     ·rw [if_neg c5] at H
      exact absurd H (by simp)
    ·rw [if_neg c4] at H
     have c4b0 : decide (x5_1 < (l0.length : Int))=false:=decide_eq_false c4
     clear c4
     obtain rfl:=Option.some.inj H
     go_wp2
     repeat (go_quiet (fail);try go_wp2)
     go_ret
     exact ⟨by first|rfl|(simp;done)|(simp [*];done),by repeat (first|exact Drawn0.refl _|apply Drawn0.step)⟩
 ·rw [if_neg c3] at H
  have c3b0 : ((l0.length : Int) == (l1.length : Int))=false:=beq_eq_false_iff_ne.mpr c3
  have c3b1 : ((l0.length : Int) != (l1.length : Int))=true:=bne_iff_ne.mpr c3
  have c3b2 : (l0.length == l1.length)=false:=by first|simpa using c3|(simp at c3 ⊢;omega)
  obtain rfl:=Option.some.inj H
  go_enter Try.func12,Try.ntmps12
  go_wp2
  repeat (go_quiet (fail);try go_wp2)
  go_ret
  exact ⟨by first|rfl|(simp;done)|(simp [*];done),by repeat (first|exact Drawn0.refl _|apply Drawn0.step)⟩
theorem penumbraref01_Same.calls (k : Nat) (A0 : Option Addr) (c0 : Nat) (l0 : List Int) (A1 : Option Addr) (c1 : Nat) (l1 : List Int) (r : Bool) (w : World) (hr0 : Kd.C (Kd.int .u32) w A0 l0.length l0) (hc0 : l0.length≤c0) (hr1 : Kd.C (Kd.int .u32) w A1 l1.length l1) (hc1 : l1.length≤c1) (h : penumbraref01_Same.f k l0 l1=some r) :
  Calls Try.prog 48 #[.slice A0 l0.length c0,.slice A1 l1.length c1] w fun e w'=>e=.returned (.bool r)∧Drawn0 w w':=by
 have HR0:=Aside0.mk hr0
 have HC0:=Aside0.mk hc0
 clear hr0 hc0
 have HR1:=Aside0.mk hr1
 have HC1:=Aside0.mk hc1
 clear hr1 hc1
 have H : (if (l0.length : Int)=(l1.length : Int) then (penumbraref01_Same.l0 k l0 l1 0) else (some false))=some r:=h
 clear h
 by_cases c3 : (l0.length : Int)=(l1.length : Int)
 ·rw [if_pos c3] at H
  have c3b0 : ((l0.length : Int) == (l1.length : Int))=true:=beq_iff_eq.mpr c3
  have c3b1 : ((l0.length : Int) != (l1.length : Int))=false:=bne_eq_false_iff_eq.mpr c3
  have c3b2 : (l0.length == l1.length)=true:=by first|simpa using c3|(simp at c3 ⊢;omega)
  clear c3
  have H':=Aside0.mk H
  clear H
  go_enter Try.func48,Try.ntmps48
  go_wp2
  repeat (go_quiet (fail);try go_wp2)
  go_loopg [5] k (fun kq v5 w'=>∃ (x5_1 : Int),v5=.int .i64 x5_1∧Aside0 (penumbraref01_Same.l0 kq l0 l1 x5_1=some r)∧Aside0 (kq≤k)∧Drawn0 w w')
  case atStart=>exact ⟨(0),(by first|rfl|(simp;done)|(simp [*];done)),H',⟨Nat.le_refl _⟩,by repeat (first|exact Drawn0.refl _|apply Drawn0.step)⟩
  case round =>
   clear H'
   try clear c1
   try clear p2
   try clear c3
   try clear c3b0
   try clear c3b1
   try clear c3b2
   obtain ⟨x5_1,rfl,HA,HK1,⟨m1,rfl⟩⟩:=hrel
   cases gk with
  |zero=>exact absurd HA.out (by simp [penumbraref01_Same.l0])
  |succ k1 =>
    have H:=HA.out
    clear HA
    simp only [penumbraref01_Same.l0] at H
    by_cases c4 : x5_1 < (l0.length : Int)
    ·rw [if_pos c4] at H
     have c4b0 : decide (x5_1 < (l0.length : Int))=true:=decide_eq_true c4
     clear c4
     by_cases c5 : 0≤x5_1
     ·rw [if_pos c5] at H
      have c5b0 : decide (0≤x5_1)=true:=decide_eq_true c5
      clear c5
      by_cases c6 : x5_1 < (l1.length : Int)
      ·rw [if_pos c6] at H
       have c6b0 : decide (x5_1 < (l1.length : Int))=true:=decide_eq_true c6
       clear c6
       by_cases c7 : (rd l0 x5_1)=(rd l1 x5_1)
       ·rw [if_pos c7] at H
        have c7b0 : ((rd l0 x5_1) == (rd l1 x5_1))=true:=beq_iff_eq.mpr c7
        have c7b1 : ((rd l0 x5_1) != (rd l1 x5_1))=false:=bne_eq_false_iff_eq.mpr c7
        clear c7
        have H':=Aside0.mk H
        clear H
        have p440 : 0≤(x5_1 : Int):=of_decide_eq_true (by first|(with_reducible assumption)|assumption)
        have q440 : x5_1 < (l0.length : Int):=of_decide_eq_true (by first|(with_reducible assumption)|assumption)
        obtain ⟨ad440,e440,hx440_0⟩:=Kd.at_int HR0.out x5_1 p440 q440
        cases e440
        replace p440:=eq_true p440
        replace q440:=eq_true q440
        have p441 : 0≤(x5_1 : Int):=of_decide_eq_true (by first|(with_reducible assumption)|assumption)
        have q441 : x5_1 < (l1.length : Int):=of_decide_eq_true (by first|(with_reducible assumption)|assumption)
        obtain ⟨ad441,e441,hx441_0⟩:=Kd.at_int HR1.out x5_1 p441 q441
        cases e441
        replace p441:=eq_true p441
        replace q441:=eq_true q441
        go_wp2
        repeat (go_quiet (fail);try go_wp2)
        go_roundg k1
        case measure=>have:=HK1.out;omega
        case rel=>exact ⟨(wrap64 (x5_1+1)),(by first|rfl|(simp;done)|(simp [*];done)),H',⟨by have:=HK1.out;omega⟩,by repeat (first|exact Drawn0.refl _|apply Drawn0.step)⟩
       ·rw [if_neg c7] at H
        have c7b0 : ((rd l0 x5_1) == (rd l1 x5_1))=false:=beq_eq_false_iff_ne.mpr c7
        have c7b1 : ((rd l0 x5_1) != (rd l1 x5_1))=true:=bne_iff_ne.mpr c7
        obtain rfl:=Option.some.inj H
        have p440 : 0≤(x5_1 : Int):=of_decide_eq_true (by first|(with_reducible assumption)|assumption)
        have q440 : x5_1 < (l0.length : Int):=of_decide_eq_true (by first|(with_reducible assumption)|assumption)
        obtain ⟨ad440,e440,hx440_0⟩:=Kd.at_int HR0.out x5_1 p440 q440
        cases e440
        replace p440:=eq_true p440
        replace q440:=eq_true q440
        have p441 : 0≤(x5_1 : Int):=of_decide_eq_true (by first|(with_reducible assumption)|assumption)
        have q441 : x5_1 < (l1.length : Int):=of_decide_eq_true (by first|(with_reducible assumption)|assumption)
        obtain ⟨ad441,e441,hx441_0⟩:=Kd.at_int HR1.out x5_1 p441 q441
        cases e441
        replace p441:=eq_true p441
        replace q441:=eq_true q441
        go_wp2
        repeat (go_quiet (fail);try go_wp2)
        go_ret
        exact ⟨by first|rfl|(simp;done)|(simp [*];done),by repeat (first|exact Drawn0.refl _|apply Drawn0.step)⟩
      ·rw [if_neg c6] at H
       exact absurd H (by simp)
     ·rw [if_neg c5] at H
      exact absurd H (by simp)
    ·rw [if_neg c4] at H
     have c4b0 : decide (x5_1 < (l0.length : Int))=false:=decide_eq_false c4
     clear c4
     obtain rfl:=Option.some.inj H
     go_wp2
     repeat (go_quiet (fail);try go_wp2)
     go_ret
     exact ⟨by first|rfl|(simp;done)|(simp [*];done),by repeat (first|exact Drawn0.refl _|apply Drawn0.step)⟩
 ·rw [if_neg c3] at H
  have c3b0 : ((l0.length : Int) == (l1.length : Int))=false:=beq_eq_false_iff_ne.mpr c3
  have c3b1 : ((l0.length : Int) != (l1.length : Int))=true:=bne_iff_ne.mpr c3
  have c3b2 : (l0.length == l1.length)=false:=by first|simpa using c3|(simp at c3 ⊢;omega)
  obtain rfl:=Option.some.inj H
  go_enter Try.func48,Try.ntmps48
  go_wp2
  repeat (go_quiet (fail);try go_wp2)
  go_ret
  exact ⟨by first|rfl|(simp;done)|(simp [*];done),by repeat (first|exact Drawn0.refl _|apply Drawn0.step)⟩
theorem penumbraref03_Is.calls (k : Nat) (a0_0 : Bool) (A0_1 : Option Addr) (c0_1 : Nat) (l0_1 : List Int) (A0_2 : Option Addr) (c0_2 : Nat) (l0_2 : List Int) (a1_0 : Bool) (A1_1 : Option Addr) (c1_1 : Nat) (l1_1 : List Int) (A1_2 : Option Addr) (c1_2 : Nat) (l1_2 : List Int) (r : Bool) (w : World) (hr0_1 : Kd.C (Kd.int .u32) w A0_1 l0_1.length l0_1) (hc0_1 : l0_1.length≤c0_1) (hr0_2 : Kd.C (Kd.int .u32) w A0_2 l0_2.length l0_2) (hc0_2 : l0_2.length≤c0_2) (hr1_1 : Kd.C (Kd.int .u32) w A1_1 l1_1.length l1_1) (hc1_1 : l1_1.length≤c1_1) (hr1_2 : Kd.C (Kd.int .u32) w A1_2 l1_2.length l1_2) (hc1_2 : l1_2.length≤c1_2) (h : penumbraref03_Is.f k a0_0 l0_1 l0_2 a1_0 l1_1 l1_2=some r) :
  Calls Try.prog 37 #[.agg #[.bool a0_0,.slice A0_1 l0_1.length c0_1,.slice A0_2 l0_2.length c0_2],.agg #[.bool a1_0,.slice A1_1 l1_1.length c1_1,.slice A1_2 l1_2.length c1_2]] w fun e w'=>e=.returned (.bool r)∧Below w.heap.size w w':=by
 have hu63:=Try.underlying63
 have HR0_1:=Aside0.mk hr0_1
 have HC0_1:=Aside0.mk hc0_1
 clear hr0_1 hc0_1
 have HR0_2:=Aside0.mk hr0_2
 have HC0_2:=Aside0.mk hc0_2
 clear hr0_2 hc0_2
 have HR1_1:=Aside0.mk hr1_1
 have HC1_1:=Aside0.mk hc1_1
 clear hr1_1 hc1_1
 have HR1_2:=Aside0.mk hr1_2
 have HC1_2:=Aside0.mk hc1_2
 clear hr1_2 hc1_2
 have HB:=Aside0.mk (Below.refl w.heap.size w)
 have H : (if (a0_0 == a1_0)=true then ((penumbraref01_Same.f k l0_1 l1_1).bind fun t444=>(if t444=true then ((penumbraref01_Same.f k l0_2 l1_2).bind fun t445=>(some t445)) else (some false))) else (some false))=some r:=h
 clear h
 by_cases c3 : (a0_0 == a1_0)=true
 ·rw [if_pos c3] at H
  have c3b0 : (a0_0 == a1_0)=true:=c3
  (try (have c3b1 : decide (a0_0=a1_0)=true:=by simpa using c3))
  (try (have c3b2 : (a0_0 == a1_0)=true:=by simpa using c3))
  clear c3
  replace H:=Option.bind_eq_some_iff.mp H
  obtain ⟨t444,A40,H⟩:=H
  replace H : (if t444=true then ((penumbraref01_Same.f k l0_2 l1_2).bind fun t445=>(some t445)) else (some false))=some r:=H
  have A4:=Aside0.mk A40
  clear A40
  by_cases c5 : t444=true
  ·subst c5
   have H1 : ((penumbraref01_Same.f k l0_2 l1_2).bind fun t445=>(some t445))=some r:=by rw [if_pos rfl] at H;exact H
   clear H
   have H:=H1
   clear H1
   replace H:=Option.bind_eq_some_iff.mp H
   obtain ⟨t445,A60,H⟩:=H
   replace H : (some t445)=some r:=H
   have A6:=Aside0.mk A60
   clear A60
   obtain rfl:=Option.some.inj H
   go_enter Try.func37,Try.ntmps37
   go_wp2_with (first|((with_reducible refine gate_dst (N:=2) rfl ?_);refine box_event ?hg (N:=2) ?hd (cs:=#[.bool a0_0,.slice A0_1 l0_1.length c0_1,.slice A0_2 l0_2.length c0_2]) (t:=63) ?hr ?_;(case hd=>rfl);(case hg=>rfl);(case hr=>first|(go_simp;done)|(go_simp;(with_reducible rfl))|(go_simp;rfl)|(go_simp;have hu_ : ∀ x : Int,IntKind.u32.wrap x=HMod.hMod x (4294967296 : Int):=(fun x=>by simp only [IntKind.wrap,IntKind.bits,IntKind.signed];simp);simp only [hu_,Int.emod_sub_emod]));intro gb442 hg w7 hbox hb;have n0_:=Aside0.mk (below_step (by repeat (first|(with_reducible first|exact HB.out|apply below_alloc|apply pw_below_drewN|apply below_drew1)|exact HB.out)) hb);have n1_:=Aside0.mk (hbox);have n2_:=Aside0.mk ((by rw [hg];exact (below_size (by repeat (first|(with_reducible first|exact HB.out|apply below_alloc|apply pw_below_drewN|apply below_drew1)|exact HB.out))) : w.heap.size≤gb442));have n3_:=Aside0.mk ((by rw [hg];exact (below_size (by repeat (first|(with_reducible first|exact HB.out|apply below_alloc|apply pw_below_drewN|apply below_drew1)|exact HB.out))) : w.heap.size≤gb442));clear HB;have HB:=n0_;have BK442:=n1_;have GW442:=n2_;have GE442:=n3_;clear n0_ n1_ n2_ n3_;clear hb hbox hg)|((with_reducible refine gate_dst (N:=3) rfl ?_);refine box_event ?hg (N:=3) ?hd (cs:=#[.bool a1_0,.slice A1_1 l1_1.length c1_1,.slice A1_2 l1_2.length c1_2]) (t:=63) ?hr ?_;(case hd=>rfl);(case hg=>rfl);(case hr=>first|(go_simp;done)|(go_simp;(with_reducible rfl))|(go_simp;rfl)|(go_simp;have hu_ : ∀ x : Int,IntKind.u32.wrap x=HMod.hMod x (4294967296 : Int):=(fun x=>by simp only [IntKind.wrap,IntKind.bits,IntKind.signed];simp);simp only [hu_,Int.emod_sub_emod]));intro gb443 hg w8 hbox hb;have n0_:=Aside0.mk (blk_below (g:=gb442) (o:=.cells #[.bool a0_0,.slice A0_1 l0_1.length c0_1,.slice A0_2 l0_2.length c0_2] 63 (0,0)) (by (with_reducible repeat (first|refine blk_drewN ?_ _|refine blk_drew ?_|refine blk_alloc ?_ _));exact BK442.out) hb);have n1_:=Aside0.mk (below_step (by repeat (first|(with_reducible first|exact HB.out|apply below_alloc|apply pw_below_drewN|apply below_drew1|refine below_set ?_ GE442.out)|exact HB.out)) hb);have n2_:=Aside0.mk (hbox);have n3_:=Aside0.mk ((by rw [hg];exact (below_size (by repeat (first|(with_reducible first|exact HB.out|apply below_alloc|apply pw_below_drewN|apply below_drew1|refine below_set ?_ GE442.out)|exact HB.out))) : w.heap.size≤gb443));have n4_:=Aside0.mk ((by rw [hg];exact (below_size (by repeat (first|(with_reducible first|exact HB.out|apply below_alloc|apply pw_below_drewN|apply below_drew1|refine below_set ?_ GE442.out)|exact HB.out))) : w.heap.size≤gb443));have n5_:=Aside0.mk ((by rw [hg];exact Nat.ne_of_lt (blk_lt (g:=gb442) (o:=.cells #[.bool a0_0,.slice A0_1 l0_1.length c0_1,.slice A0_2 l0_2.length c0_2] 63 (0,0)) (by (with_reducible repeat (first|refine blk_drewN ?_ _|refine blk_drew ?_|refine blk_alloc ?_ _));exact BK442.out)) : gb442≠gb443));have n6_:=Aside0.mk ((by rw [hg];exact Nat.ne_of_gt (blk_lt (g:=gb442) (o:=.cells #[.bool a0_0,.slice A0_1 l0_1.length c0_1,.slice A0_2 l0_2.length c0_2] 63 (0,0)) (by (with_reducible repeat (first|refine blk_drewN ?_ _|refine blk_drew ?_|refine blk_alloc ?_ _));exact BK442.out)) : gb443≠gb442));clear BK442;clear HB;have BK442:=n0_;have HB:=n1_;have BK443:=n2_;have GW443:=n3_;have GE443:=n4_;have NB442_443:=n5_;have NB443_442:=n6_;clear n0_ n1_ n2_ n3_ n4_ n5_ n6_;clear hb hbox hg;have hnb9:=NB442_443.out;have hnc9:=NB443_442.out;have hcz10_0 : w8.cell? ⟨gb442,0,none⟩=some (.bool a0_0):=(blk_cell BK442.out 0).trans rfl;have hcz10_1 : w8.cell? ⟨gb442,1,none⟩=some (.slice A0_1 l0_1.length c0_1):=(blk_cell BK442.out 1).trans rfl;have hcz10_2 : w8.cell? ⟨gb442,2,none⟩=some (.slice A0_2 l0_2.length c0_2):=(blk_cell BK442.out 2).trans rfl;have hfz10_0:=blk_frozen BK442.out 0;have hfz10_1:=blk_frozen BK442.out 1;have hfz10_2:=blk_frozen BK442.out 2;have hcz11_0 : w8.cell? ⟨gb443,0,none⟩=some (.bool a1_0):=(blk_cell BK443.out 0).trans rfl;have hcz11_1 : w8.cell? ⟨gb443,1,none⟩=some (.slice A1_1 l1_1.length c1_1):=(blk_cell BK443.out 1).trans rfl;have hcz11_2 : w8.cell? ⟨gb443,2,none⟩=some (.slice A1_2 l1_2.length c1_2):=(blk_cell BK443.out 2).trans rfl;have hfz11_0:=blk_frozen BK443.out 0;have hfz11_1:=blk_frozen BK443.out 1;have hfz11_2:=blk_frozen BK443.out 2)|(go_at_call 48;(with_reducible refine (penumbraref01_Same.calls k _ _ l0_1 _ _ l1_1 true _ ?side1 ?side2 ?side3 ?side4 A4.out).mono ?_);(case side1=>repeat (first|exact (Kd.C_below HR0_1.out HB.out)|(with_reducible refine Kd.C_alloc ?_ _)|(with_reducible refine Kd.C_drewN ?_ _)|(with_reducible refine Kd.C_drew ?_)));(case side2=>exact HC0_1.out);(case side3=>repeat (first|exact (Kd.C_below HR1_1.out HB.out)|(with_reducible refine Kd.C_alloc ?_ _)|(with_reducible refine Kd.C_drewN ?_ _)|(with_reducible refine Kd.C_drew ?_)));(case side4=>exact HC1_1.out);rintro e w' ⟨rfl,⟨nd,rfl⟩⟩)|(go_at_call 48;(with_reducible refine (penumbraref01_Same.calls k _ _ l0_2 _ _ l1_2 t445 _ ?side1 ?side2 ?side3 ?side4 A6.out).mono ?_);(case side1=>repeat (first|exact (Kd.C_below HR0_2.out (by repeat (first|(with_reducible first|exact HB.out|apply below_alloc|apply pw_below_drewN|apply below_drew1|refine below_set ?_ GE442.out|refine below_set ?_ GE443.out)|exact HB.out)))|(with_reducible refine Kd.C_alloc ?_ _)|(with_reducible refine Kd.C_drewN ?_ _)|(with_reducible refine Kd.C_drew ?_)));(case side2=>exact HC0_2.out);(case side3=>repeat (first|exact (Kd.C_below HR1_2.out (by repeat (first|(with_reducible first|exact HB.out|apply below_alloc|apply pw_below_drewN|apply below_drew1|refine below_set ?_ GE442.out|refine below_set ?_ GE443.out)|exact HB.out)))|(with_reducible refine Kd.C_alloc ?_ _)|(with_reducible refine Kd.C_drewN ?_ _)|(with_reducible refine Kd.C_drew ?_)));(case side4=>exact HC1_2.out);rintro e w' ⟨rfl,⟨nd,rfl⟩⟩))
   go_ret
   exact ⟨by first|rfl|(simp [errW_none,errW_some] <;> rfl)|(simp [*,errW_none,errW_some] <;> rfl),by repeat (first|(with_reducible first|exact HB.out|apply below_alloc|apply pw_below_drewN|apply below_drew1|refine below_set ?_ GE442.out|refine below_set ?_ GE443.out)|exact HB.out)⟩
  ·replace c5:=Bool.eq_false_iff.mpr c5
   subst c5
   have H1 : (some false)=some r:=by rw [if_neg (show ¬ (false=true) by decide)] at H;exact H
   clear H
   have H:=H1
   clear H1
   obtain rfl:=Option.some.inj H
   go_enter Try.func37,Try.ntmps37
   go_wp2_with (first|((with_reducible refine gate_dst (N:=2) rfl ?_);refine box_event ?hg (N:=2) ?hd (cs:=#[.bool a0_0,.slice A0_1 l0_1.length c0_1,.slice A0_2 l0_2.length c0_2]) (t:=63) ?hr ?_;(case hd=>rfl);(case hg=>rfl);(case hr=>first|(go_simp;done)|(go_simp;(with_reducible rfl))|(go_simp;rfl)|(go_simp;have hu_ : ∀ x : Int,IntKind.u32.wrap x=HMod.hMod x (4294967296 : Int):=(fun x=>by simp only [IntKind.wrap,IntKind.bits,IntKind.signed];simp);simp only [hu_,Int.emod_sub_emod]));intro gb442 hg w12 hbox hb;have n0_:=Aside0.mk (below_step (by repeat (first|(with_reducible first|exact HB.out|apply below_alloc|apply pw_below_drewN|apply below_drew1)|exact HB.out)) hb);have n1_:=Aside0.mk (hbox);have n2_:=Aside0.mk ((by rw [hg];exact (below_size (by repeat (first|(with_reducible first|exact HB.out|apply below_alloc|apply pw_below_drewN|apply below_drew1)|exact HB.out))) : w.heap.size≤gb442));have n3_:=Aside0.mk ((by rw [hg];exact (below_size (by repeat (first|(with_reducible first|exact HB.out|apply below_alloc|apply pw_below_drewN|apply below_drew1)|exact HB.out))) : w.heap.size≤gb442));clear HB;have HB:=n0_;have BK442:=n1_;have GW442:=n2_;have GE442:=n3_;clear n0_ n1_ n2_ n3_;clear hb hbox hg)|((with_reducible refine gate_dst (N:=3) rfl ?_);refine box_event ?hg (N:=3) ?hd (cs:=#[.bool a1_0,.slice A1_1 l1_1.length c1_1,.slice A1_2 l1_2.length c1_2]) (t:=63) ?hr ?_;(case hd=>rfl);(case hg=>rfl);(case hr=>first|(go_simp;done)|(go_simp;(with_reducible rfl))|(go_simp;rfl)|(go_simp;have hu_ : ∀ x : Int,IntKind.u32.wrap x=HMod.hMod x (4294967296 : Int):=(fun x=>by simp only [IntKind.wrap,IntKind.bits,IntKind.signed];simp);simp only [hu_,Int.emod_sub_emod]));intro gb443 hg w13 hbox hb;have n0_:=Aside0.mk (blk_below (g:=gb442) (o:=.cells #[.bool a0_0,.slice A0_1 l0_1.length c0_1,.slice A0_2 l0_2.length c0_2] 63 (0,0)) (by (with_reducible repeat (first|refine blk_drewN ?_ _|refine blk_drew ?_|refine blk_alloc ?_ _));exact BK442.out) hb);have n1_:=Aside0.mk (below_step (by repeat (first|(with_reducible first|exact HB.out|apply below_alloc|apply pw_below_drewN|apply below_drew1|refine below_set ?_ GE442.out)|exact HB.out)) hb);have n2_:=Aside0.mk (hbox);have n3_:=Aside0.mk ((by rw [hg];exact (below_size (by repeat (first|(with_reducible first|exact HB.out|apply below_alloc|apply pw_below_drewN|apply below_drew1|refine below_set ?_ GE442.out)|exact HB.out))) : w.heap.size≤gb443));have n4_:=Aside0.mk ((by rw [hg];exact (below_size (by repeat (first|(with_reducible first|exact HB.out|apply below_alloc|apply pw_below_drewN|apply below_drew1|refine below_set ?_ GE442.out)|exact HB.out))) : w.heap.size≤gb443));have n5_:=Aside0.mk ((by rw [hg];exact Nat.ne_of_lt (blk_lt (g:=gb442) (o:=.cells #[.bool a0_0,.slice A0_1 l0_1.length c0_1,.slice A0_2 l0_2.length c0_2] 63 (0,0)) (by (with_reducible repeat (first|refine blk_drewN ?_ _|refine blk_drew ?_|refine blk_alloc ?_ _));exact BK442.out)) : gb442≠gb443));have n6_:=Aside0.mk ((by rw [hg];exact Nat.ne_of_gt (blk_lt (g:=gb442) (o:=.cells #[.bool a0_0,.slice A0_1 l0_1.length c0_1,.slice A0_2 l0_2.length c0_2] 63 (0,0)) (by (with_reducible repeat (first|refine blk_drewN ?_ _|refine blk_drew ?_|refine blk_alloc ?_ _));exact BK442.out)) : gb443≠gb442));clear BK442;clear HB;have BK442:=n0_;have HB:=n1_;have BK443:=n2_;have GW443:=n3_;have GE443:=n4_;have NB442_443:=n5_;have NB443_442:=n6_;clear n0_ n1_ n2_ n3_ n4_ n5_ n6_;clear hb hbox hg;have hnb14:=NB442_443.out;have hnc14:=NB443_442.out;have hcz15_0 : w13.cell? ⟨gb442,0,none⟩=some (.bool a0_0):=(blk_cell BK442.out 0).trans rfl;have hcz15_1 : w13.cell? ⟨gb442,1,none⟩=some (.slice A0_1 l0_1.length c0_1):=(blk_cell BK442.out 1).trans rfl;have hcz15_2 : w13.cell? ⟨gb442,2,none⟩=some (.slice A0_2 l0_2.length c0_2):=(blk_cell BK442.out 2).trans rfl;have hfz15_0:=blk_frozen BK442.out 0;have hfz15_1:=blk_frozen BK442.out 1;have hfz15_2:=blk_frozen BK442.out 2;have hcz16_0 : w13.cell? ⟨gb443,0,none⟩=some (.bool a1_0):=(blk_cell BK443.out 0).trans rfl;have hcz16_1 : w13.cell? ⟨gb443,1,none⟩=some (.slice A1_1 l1_1.length c1_1):=(blk_cell BK443.out 1).trans rfl;have hcz16_2 : w13.cell? ⟨gb443,2,none⟩=some (.slice A1_2 l1_2.length c1_2):=(blk_cell BK443.out 2).trans rfl;have hfz16_0:=blk_frozen BK443.out 0;have hfz16_1:=blk_frozen BK443.out 1;have hfz16_2:=blk_frozen BK443.out 2)|(go_at_call 48;(with_reducible refine (penumbraref01_Same.calls k _ _ l0_1 _ _ l1_1 false _ ?side1 ?side2 ?side3 ?side4 A4.out).mono ?_);(case side1=>repeat (first|exact (Kd.C_below HR0_1.out HB.out)|(with_reducible refine Kd.C_alloc ?_ _)|(with_reducible refine Kd.C_drewN ?_ _)|(with_reducible refine Kd.C_drew ?_)));(case side2=>exact HC0_1.out);(case side3=>repeat (first|exact (Kd.C_below HR1_1.out HB.out)|(with_reducible refine Kd.C_alloc ?_ _)|(with_reducible refine Kd.C_drewN ?_ _)|(with_reducible refine Kd.C_drew ?_)));(case side4=>exact HC1_1.out);rintro e w' ⟨rfl,⟨nd,rfl⟩⟩))
   go_ret
   exact ⟨by first|rfl|(simp [errW_none,errW_some] <;> rfl)|(simp [*,errW_none,errW_some] <;> rfl),by repeat (first|(with_reducible first|exact HB.out|apply below_alloc|apply pw_below_drewN|apply below_drew1|refine below_set ?_ GE442.out|refine below_set ?_ GE443.out)|exact HB.out)⟩
 ·rw [if_neg c3] at H
  have c3b0 : (a0_0 == a1_0)=false:=by simpa using c3
  (try (have c3b1 : decide (a0_0=a1_0)=false:=by simpa using c3))
  (try (have c3b2 : (a0_0 == a1_0)=false:=by simpa using c3))
  (try (have c3b3 : ¬ (a0_0=a1_0):=by simpa using c3))
  clear c3
  obtain rfl:=Option.some.inj H
  go_enter Try.func37,Try.ntmps37
  go_wp2_with (first|((with_reducible refine gate_dst (N:=2) rfl ?_);refine box_event ?hg (N:=2) ?hd (cs:=#[.bool a0_0,.slice A0_1 l0_1.length c0_1,.slice A0_2 l0_2.length c0_2]) (t:=63) ?hr ?_;(case hd=>rfl);(case hg=>rfl);(case hr=>first|(go_simp;done)|(go_simp;(with_reducible rfl))|(go_simp;rfl)|(go_simp;have hu_ : ∀ x : Int,IntKind.u32.wrap x=HMod.hMod x (4294967296 : Int):=(fun x=>by simp only [IntKind.wrap,IntKind.bits,IntKind.signed];simp);simp only [hu_,Int.emod_sub_emod]));intro gb442 hg w17 hbox hb;have n0_:=Aside0.mk (below_step (by repeat (first|(with_reducible first|exact HB.out|apply below_alloc|apply pw_below_drewN|apply below_drew1)|exact HB.out)) hb);have n1_:=Aside0.mk (hbox);have n2_:=Aside0.mk ((by rw [hg];exact (below_size (by repeat (first|(with_reducible first|exact HB.out|apply below_alloc|apply pw_below_drewN|apply below_drew1)|exact HB.out))) : w.heap.size≤gb442));have n3_:=Aside0.mk ((by rw [hg];exact (below_size (by repeat (first|(with_reducible first|exact HB.out|apply below_alloc|apply pw_below_drewN|apply below_drew1)|exact HB.out))) : w.heap.size≤gb442));clear HB;have HB:=n0_;have BK442:=n1_;have GW442:=n2_;have GE442:=n3_;clear n0_ n1_ n2_ n3_;clear hb hbox hg)|((with_reducible refine gate_dst (N:=3) rfl ?_);refine box_event ?hg (N:=3) ?hd (cs:=#[.bool a1_0,.slice A1_1 l1_1.length c1_1,.slice A1_2 l1_2.length c1_2]) (t:=63) ?hr ?_;(case hd=>rfl);(case hg=>rfl);(case hr=>first|(go_simp;done)|(go_simp;(with_reducible rfl))|(go_simp;rfl)|(go_simp;have hu_ : ∀ x : Int,IntKind.u32.wrap x=HMod.hMod x (4294967296 : Int):=(fun x=>by simp only [IntKind.wrap,IntKind.bits,IntKind.signed];simp);simp only [hu_,Int.emod_sub_emod]));intro gb443 hg w18 hbox hb;have n0_:=Aside0.mk (blk_below (g:=gb442) (o:=.cells #[.bool a0_0,.slice A0_1 l0_1.length c0_1,.slice A0_2 l0_2.length c0_2] 63 (0,0)) (by (with_reducible repeat (first|refine blk_drewN ?_ _|refine blk_drew ?_|refine blk_alloc ?_ _));exact BK442.out) hb);have n1_:=Aside0.mk (below_step (by repeat (first|(with_reducible first|exact HB.out|apply below_alloc|apply pw_below_drewN|apply below_drew1|refine below_set ?_ GE442.out)|exact HB.out)) hb);have n2_:=Aside0.mk (hbox);have n3_:=Aside0.mk ((by rw [hg];exact (below_size (by repeat (first|(with_reducible first|exact HB.out|apply below_alloc|apply pw_below_drewN|apply below_drew1|refine below_set ?_ GE442.out)|exact HB.out))) : w.heap.size≤gb443));have n4_:=Aside0.mk ((by rw [hg];exact (below_size (by repeat (first|(with_reducible first|exact HB.out|apply below_alloc|apply pw_below_drewN|apply below_drew1|refine below_set ?_ GE442.out)|exact HB.out))) : w.heap.size≤gb443));have n5_:=Aside0.mk ((by rw [hg];exact Nat.ne_of_lt (blk_lt (g:=gb442) (o:=.cells #[.bool a0_0,.slice A0_1 l0_1.length c0_1,.slice A0_2 l0_2.length c0_2] 63 (0,0)) (by (with_reducible repeat (first|refine blk_drewN ?_ _|refine blk_drew ?_|refine blk_alloc ?_ _));exact BK442.out)) : gb442≠gb443));have n6_:=Aside0.mk ((by rw [hg];exact Nat.ne_of_gt (blk_lt (g:=gb442) (o:=.cells #[.bool a0_0,.slice A0_1 l0_1.length c0_1,.slice A0_2 l0_2.length c0_2] 63 (0,0)) (by (with_reducible repeat (first|refine blk_drewN ?_ _|refine blk_drew ?_|refine blk_alloc ?_ _));exact BK442.out)) : gb443≠gb442));clear BK442;clear HB;have BK442:=n0_;have HB:=n1_;have BK443:=n2_;have GW443:=n3_;have GE443:=n4_;have NB442_443:=n5_;have NB443_442:=n6_;clear n0_ n1_ n2_ n3_ n4_ n5_ n6_;clear hb hbox hg;have hnb19:=NB442_443.out;have hnc19:=NB443_442.out;have hcz20_0 : w18.cell? ⟨gb442,0,none⟩=some (.bool a0_0):=(blk_cell BK442.out 0).trans rfl;have hcz20_1 : w18.cell? ⟨gb442,1,none⟩=some (.slice A0_1 l0_1.length c0_1):=(blk_cell BK442.out 1).trans rfl;have hcz20_2 : w18.cell? ⟨gb442,2,none⟩=some (.slice A0_2 l0_2.length c0_2):=(blk_cell BK442.out 2).trans rfl;have hfz20_0:=blk_frozen BK442.out 0;have hfz20_1:=blk_frozen BK442.out 1;have hfz20_2:=blk_frozen BK442.out 2;have hcz21_0 : w18.cell? ⟨gb443,0,none⟩=some (.bool a1_0):=(blk_cell BK443.out 0).trans rfl;have hcz21_1 : w18.cell? ⟨gb443,1,none⟩=some (.slice A1_1 l1_1.length c1_1):=(blk_cell BK443.out 1).trans rfl;have hcz21_2 : w18.cell? ⟨gb443,2,none⟩=some (.slice A1_2 l1_2.length c1_2):=(blk_cell BK443.out 2).trans rfl;have hfz21_0:=blk_frozen BK443.out 0;have hfz21_1:=blk_frozen BK443.out 1;have hfz21_2:=blk_frozen BK443.out 2))
  go_ret
  exact ⟨by first|rfl|(simp [errW_none,errW_some] <;> rfl)|(simp [*,errW_none,errW_some] <;> rfl),by repeat (first|(with_reducible first|exact HB.out|apply below_alloc|apply pw_below_drewN|apply below_drew1|refine below_set ?_ GE442.out|refine below_set ?_ GE443.out)|exact HB.out)⟩
end Go.Proofs.Ytjiaobcoeegioaa.Pq
end
