import Derived.Test.YtjiaobcoeegioaaPP3
set_option linter.unusedVariables false
set_option linter.unusedSimpArgs false
section
namespace Go.Proofs.Ytjiaobcoeegioaa.N
def pickAt (picks : List Int) (t len : Nat) : Nat:=if t < picks.length then (picks.getD t 0 % (len : Int)).toNat else 0
theorem pickAt_lt {picks : List Int} {t len : Nat} (h : 0 < len) : pickAt picks t len < len:=by
 unfold pickAt
 split
 ·have h1:=Int.emod_nonneg (picks.getD t 0) (b:=(len : Int)) (by omega)
  have h2:=Int.emod_lt_of_pos (picks.getD t 0) (b:=(len : Int)) (by omega);omega
 ·exact h
def PS.pick (n : Nat) (picks : List Int) (t : Nat) (s : PS) : Nat:=(s.en n).getD (pickAt picks t (s.en n).length) 0
def PS.next (n : Nat) (picks : List Int) (t : Nat) (s : PS) : PS:=s.step (s.pick n picks t)
def PS.after (n k : Nat) (picks : List Int) : Nat→PS
 | 0=>PS.start k
 | t+1=>(PS.after n k picks t).next n picks t
theorem pick_en {n : Nat} {picks : List Int} {t : Nat} {s : PS} (he : s.en n≠[]) : s.pick n picks t < s.ws.length∧s.can n (s.pick n picks t)=true:=by
 have hl:=List.length_pos_iff.mpr he;have h1:=pickAt_lt (picks:=picks) (t:=t) hl
 have h2 : s.pick n picks t∈s.en n:=by
  unfold PS.pick;rw [List.getD_eq_getElem?_getD,List.getElem?_eq_getElem h1];exact List.getElem_mem _
 obtain ⟨h3,h4⟩:=List.mem_filter.mp h2;exact ⟨List.mem_range.mp h3,h4⟩
theorem next_ok {n k : Nat} {picks : List Int} {t : Nat} {s : PS} (h : s.Ok n k) (he : s.en n≠[]) : (s.next n picks t).Ok n k∧(s.next n picks t).rest n+1=s.rest n :=
 step_ok h (pick_en he).1 (pick_en he).2
def filmOf (z : QF) (qs : List QF) (done : List Nat) : QF:=(done.map fun t=>qs.getD t z).foldl QF.add z
theorem filmOf_snoc (z : QF) (qs : List QF) (done : List Nat) (t : Nat) : filmOf z qs (done++[t])=(filmOf z qs done).add (qs.getD t z):=by
 unfold filmOf;rw [List.map_append,List.foldl_append];rfl
theorem foldl_fits {w h b : Int} {l : List QF} {a : QF} (ha : a.fits w h b) (hf : ∀ q∈l,q.fits w h b) : (l.foldl QF.add a).fits w h b:=by
 induction l generalizing a with
 | nil=>exact ha
 | cons c l ih=>exact ih (QF.fits_add ha (hf c (by simp))) (fun q hq=>hf q (by simp [hq]))
theorem getD_fits {w h b : Int} {z : QF} {qs : List QF} (hz : z.fits w h b) (hf : ∀ q∈qs,q.fits w h b) (t : Nat) : (qs.getD t z).fits w h b:=by
 rw [List.getD_eq_getElem?_getD]
 rcases Nat.lt_or_ge t qs.length with h|h
 ·rw [List.getElem?_eq_getElem h]
  exact hf _ (List.getElem_mem _)
 ·rw [List.getElem?_eq_none h]
  exact hz
theorem filmOf_fits {w h b : Int} {z : QF} {qs : List QF} (hz : z.fits w h b) (hf : ∀ q∈qs,q.fits w h b) (done : List Nat) : (filmOf z qs done).fits w h b :=
 foldl_fits hz (fun q hq=>by
  obtain ⟨t,_,rfl⟩:=List.mem_map.mp hq
  exact getD_fits hz hf t)
theorem sum_perm {l m : List Nat} (h : l.Perm m) : l.sum=m.sum:=by
 induction h with
 | nil=>rfl
 | cons a _ ih=>rw [List.sum_cons,List.sum_cons,ih]
 | swap a b l=>simp only [List.sum_cons];omega
 | trans _ _ h1 h2=>exact h1.trans h2
theorem range_get (z : QF) (qs : List QF) (c : Nat) (hc : c≤qs.length) : (List.range c).map (fun t=>qs.getD t z)=qs.take c:=by
 apply List.ext_getElem
 ·rw [List.length_map,List.length_range,List.length_take];omega
 ·intro i h1 h2
  rw [List.length_map,List.length_range] at h1;rw [List.getElem_map,List.getElem_range,List.getElem_take,List.getD_eq_getElem?_getD,List.getElem?_eq_getElem (by omega)];rfl
theorem tot_perm {l m : List QF} (h : l.Perm m) : tot l=tot m:=sum_perm (h.map _)
theorem tot_app (l m : List QF) : tot (l++m)=tot l+tot m:=by
 unfold tot;rw [List.map_append,List.sum_append]
theorem done_tot {n k : Nat} {s : PS} (h : s.Ok n k) (z : QF) {qs : List QF} (hn : n=qs.length) : tot (s.done.map fun t=>qs.getD t z)+tot ((busy s.ws).map fun t=>qs.getD t z)≤tot qs:=by
 have h1:=tot_perm (h.perm.map fun t=>qs.getD t z);have hc:=h.c;rw [List.map_append,tot_app,range_get z qs s.c (by omega)] at h1;have h2:=tot_take qs s.c;omega
theorem busy_mem {ws : List (Nat × Nat)} {i : Nat} (hi : i < ws.length) (h0 : ws[i].1≠0) : ws[i].2∈busy ws:=by
 unfold busy;exact List.mem_map.mpr ⟨ws[i],List.mem_filter.mpr ⟨List.getElem_mem _,by simpa using h0⟩,rfl⟩
theorem task_ok {n k : Nat} {s : PS} (h : s.Ok n k) (z : QF) {qs : List QF} (hn : n=qs.length) {i : Nat} (hi : i < s.ws.length) (h0 : s.ws[i].1≠0) : s.ws[i].2 < qs.length∧(filmOf z qs s.done).sz+(qs.getD s.ws[i].2 z).sz+1≤z.sz+tot qs:=by
 have hm:=busy_mem hi h0;have h1 : s.ws[i].2∈List.range s.c:=h.perm.mem_iff.mp (List.mem_append.mpr (.inr hm));have h2:=List.mem_range.mp h1;have hc:=h.c;refine ⟨by omega,?_⟩;have h3:=done_tot h z hn;have h4 : (qs.getD s.ws[i].2 z).sz+1≤tot ((busy s.ws).map fun t=>qs.getD t z):=tot_mem (List.mem_map.mpr ⟨_,hm,rfl⟩);have h5:=foldl_sz (s.done.map fun t=>qs.getD t z) z;unfold filmOf;omega
theorem done_len {n k : Nat} {s : PS} (h : s.Ok n k) : s.done.length≤n:=by
 have h1:=h.perm.length_eq;have hc:=h.c;rw [List.length_append,List.length_range] at h1;omega
theorem foldl_perm {l m : List QF} (h : l.Perm m) : ∀ z : QF,l.foldl QF.add z=m.foldl QF.add z:=by
 induction h with
 | nil=>exact fun _=>rfl
 | cons a _ ih=>exact fun z=>ih (z.add a)
 | swap a b l=>intro z;simp only [List.foldl_cons];rw [QF.assoc,QF.comm b a,← QF.assoc]
 | trans _ _ h1 h2=>exact fun z=>(h1 z).trans (h2 z)
theorem filmOf_all {z : QF} {qs : List QF} {done : List Nat} {n : Nat} (hn : n=qs.length) (hne : qs≠[]) (hp : done.Perm (List.range n)) (hz : ∀ q∈qs,z.add q=q) : filmOf z qs done=sumQ qs:=by
 unfold filmOf;rw [foldl_perm (hp.map fun t=>qs.getD t z) z,range_get z qs n (by omega),hn,List.take_length]
 cases qs with
 | nil=>exact absurd rfl hne
 | cons a l =>
  show l.foldl QF.add (z.add a)=l.foldl QF.add a
  rw [hz a (by simp)]
theorem after_ok (n k : Nat) (picks : List Int) (t : Nat) (hk : 0 < k) (ht : t≤4 * n) : (PS.after n k picks t).Ok n k∧(PS.after n k picks t).rest n+t=4 * n:=by
 induction t with
 | zero=>exact ⟨start_ok n k,start_rest n k⟩
 | succ t ih =>
  obtain ⟨h1,h2⟩:=ih (by omega)
  have he : (PS.after n k picks t).en n≠[]:=fun he=>by
   have:=(rest_of_stuck h1 hk he).1;omega
  obtain ⟨h3,h4⟩:=next_ok (picks:=picks) (t:=t) h1 he;refine ⟨h3,?_⟩
  show ((PS.after n k picks t).next n picks t).rest n+(t+1)=4 * n
  omega
end Go.Proofs.Ytjiaobcoeegioaa.N
end
section
namespace Go.Proofs.Ytjiaobcoeegioaa.Pq
open Go.RowKit Go.Proofs.YtjiaobcoeegioaaW.PrintWords Go.Proofs.YtjiaobcoeegioaaW.PrintLast Go.Proofs.YtjiaobcoeegioaaW.PrintMore Go.Proofs.Ytjiaobcoeegioaa.N
theorem step_sem {w0 w : World} {P : Nat} {qa : Addr} {W h b : Int} {M : Nat} {A0 : Option Addr} {n pc k : Nat} {s : PS} {z : QF} {qs : List QF} (H : PlaySt w0 w P qa W h b M A0 n pc k s (filmOf z qs s.done)) (ok : s.Ok n k) {i : Nat} (hi : i < s.ws.length) (hs : szs W h b=true) (hM : (M : Int)=W * h * b) (hr : Kd.C k27 w0 A0 n (qs.map (mkF W h b))) (hn : n=qs.length) (hq : ∀ q∈qs,q.fits W h b) (hz : z.fits W h b) (hz1 : z.sz≤1) (ht : tot qs < 9000000) (hn4 : n≤4096) :
  Calls Try.prog 19 #[.pointer (some ⟨P,0,none⟩),.pointer (some (qa.add (i * 2)))] w fun e w'=>e=.returned (.tuple #[])∧PlaySt w0 w' P qa W h b M A0 n pc k (s.step i) (filmOf z qs (s.step i).done):=by
 have hg : s.ws.getD i (0,0)=s.ws[i]:=by rw [List.getD_eq_getElem?_getD,List.getElem?_eq_getElem hi];rfl
 have h3:=ok.st s.ws[i] (List.getElem_mem _);unfold PS.step;rw [hg];dsimp only
 rcases Nat.lt_or_ge s.ws[i].1 1 with e|e
 ·have e0 : s.ws[i].1=0:=by omega
  rw [if_pos e0];exact step0_sem H hi e0 (by have:=ok.c;omega)
 rcases Nat.lt_or_ge s.ws[i].1 2 with e1|e1
 ·have e0 : s.ws[i].1=1:=by omega
  rw [if_neg (by omega),if_pos e0];exact step1_sem H hi e0
 rcases Nat.lt_or_ge s.ws[i].1 3 with e2|e2
 ·have e0 : s.ws[i].1=2:=by omega
  rw [if_neg (by omega),if_neg (by omega),if_pos e0];exact step2_sem H hi e0
 ·have e0 : s.ws[i].1=3:=by omega
  rw [if_neg (by omega),if_neg (by omega),if_neg (by omega)];dsimp only;obtain ⟨t1,t2⟩:=task_ok ok z hn hi (by omega);have hd:=done_len ok
  have hp : qs[s.ws[i].2]=qs.getD s.ws[i].2 z:=by rw [List.getD_eq_getElem?_getD,List.getElem?_eq_getElem t1];rfl
  rw [filmOf_snoc];exact step3_sem H hi (Prod.ext e0 rfl) hs hM hr hn hq t1 hp (filmOf_fits hz hq _) (by unfold tot;simp only [List.map_cons,List.map_nil,List.sum_cons,List.sum_nil];omega) (by omega)
end Go.Proofs.Ytjiaobcoeegioaa.Pq
end
section
namespace Go.Proofs.Ytjiaobcoeegioaa.Pq
open Go.RowKit Go.Proofs.YtjiaobcoeegioaaW.PrintWords Go.Proofs.YtjiaobcoeegioaaW.PrintLast Go.Proofs.YtjiaobcoeegioaaW.PrintMore Go.Proofs.Ytjiaobcoeegioaa.N
namespace X
def pool_Play.T6 : Bool × List (List Nat × List Nat):=(true,[([],[]),([0],[0]),([1],[1]),([2,1],[2]),([3],[3]),([4,3],[3,4]),([3],[3]),([6,3],[3,6]),([7,3],[3,7]),([8,3],[3,8]),([5,9,3],[3,5,9]),([3,10],[3,10]),([11,3],[11]),([12],[12]),([13,12],[12,13]),([12],[12]),([15,12],[12,15]),([16,12],[12,16]),([17,12],[12,17]),([14,18,12],[12,14,18]),([12,19],[12,19]),([20,12],[20]),([21],[21]),([22,21],[21,22]),([21],[21]),([24,21],[21,24]),([25,21],[21,25]),([26,21],[21,26]),([23,27,21],[21,23,27]),([21,28],[21,28])])
def pool_Play.B6 : List Nat:=[0,1,3,7,15,31,15,79,207,463,1023,2047,4095,8191,16383,8191,40959,106495,237567,524287,1048575,2097151,4194303,8388607,4194303,20971519,54525951,121634815,268435455,536870911]
theorem pool_Play.tab6 : rtab .any (opsOf Try.f9 6)=pool_Play.T6:=by kernel_rfl
theorem pool_Play.bits6 : waitsOk pool_Play.T6.2 pool_Play.B6=true:=by kernel_rfl
def pool_Play.T10 : Bool × List (List Nat × List Nat):=(true,[([],[]),([],[]),([1],[1]),([2],[2]),([3],[3]),([],[]),([5],[5]),([6],[6]),([7],[7]),([],[]),([9],[9]),([10],[10]),([11],[11]),([4,8,12],[4,8,12]),([13],[13]),([14],[14]),([14],[14]),([0,0,1,2,3,4,5,6,7,8,9,10,11,12,13,14,15],[0]),([17,0,1,2,3,4,5,6,7,8,9,10,11,12,13,14,15],[17]),([18,15,13,0,1,2,3,4,5,6,7,8,9,10,11,12,13,14,15],[15,18])])
def pool_Play.B10 : List Nat:=[0,0,2,6,14,0,32,96,224,0,512,1536,3584,8190,16382,32766,32766,65535,196607,458751]
theorem pool_Play.tab10 : rtab .any (opsOf Try.f9 10)=pool_Play.T10:=by kernel_rfl
theorem pool_Play.bits10 : waitsOk pool_Play.T10.2 pool_Play.B10=true:=by kernel_rfl
def pool_Play.T15 : Bool × List (List Nat × List Nat):=(true,[([],[]),([0],[0]),([1],[1]),([2],[2]),([],[]),([4],[4]),([5],[5]),([6],[6]),([],[]),([3,0,1,2,3],[3]),([7,9,0,1,2,3,4,5,6,7,9],[7]),([8,10,0,1,2,3,4,5,6,7,8,9,10],[8]),([11,0,1,2,3,4,5,6,7,8,9,10,11],[])])
def pool_Play.B15 : List Nat:=[0,1,3,7,0,16,48,112,0,15,767,2047,4095]
theorem pool_Play.tab15 : rtab .any (opsOf Try.f9 15)=pool_Play.T15:=by kernel_rfl
theorem pool_Play.bits15 : waitsOk pool_Play.T15.2 pool_Play.B15=true:=by kernel_rfl
def pool_Play.T19 : Bool × List (List Nat × List Nat):=(true,[([],[]),([],[]),([1],[1]),([2],[2]),([3],[3]),([],[]),([],[]),([5,6],[5,6]),([7],[7]),([4,8],[4,8]),([0,9],[0,9])])
def pool_Play.B19 : List Nat:=[0,0,2,6,14,0,0,96,224,510,1023]
theorem pool_Play.tab19 : rtab .any (opsOf Try.f9 19)=pool_Play.T19:=by kernel_rfl
theorem pool_Play.bits19 : waitsOk pool_Play.T19.2 pool_Play.B19=true:=by kernel_rfl
end X
open X
def good (H F : S27) : Bool:=chkF F && (F.f0 == H.f0) && (F.f1 == H.f1) && (F.f2 == H.f2)
def mayB (Fs : List S27) (k : Int) : Bool :=
 match Fs with
 | []=>false
 | H :: R=>decide ((H :: R).length≤4096) && decide (1≤k) && decide (k≤64) && (H :: R).all (good H)
theorem mayB_iff {Fs : List S27} {k : Int} (h0 : 0 < Fs.length) : mayB Fs k=true↔Fs.length≤4096∧1≤k∧k≤64 ∧ ∀ i (h : i < Fs.length),good Fs[0] Fs[i]=true:=by
 cases Fs with
 | nil=>exact absurd h0 (Nat.lt_irrefl _)
 | cons H R =>
  unfold mayB;simp only [Bool.and_eq_true,decide_eq_true_eq,List.all_eq_true,List.getElem_cons_zero,and_assoc]
  refine and_congr_right fun _=>and_congr_right fun _=>and_congr_right fun _=>?_
  constructor
  ·intro h i hi
   exact h _ (List.getElem_mem _)
  ·intro h F hF
   obtain ⟨i,hi,rfl⟩:=List.mem_iff_getElem.mp hF;exact h i hi
theorem at_film0 {Fs : List S27} {w : World} {A : Option Addr} {n : Nat} (hr : Kd.C k27 w A n Fs) {j : Nat} (hj : j < Fs.length) (hn : n=Fs.length) :
  ∃ ad A3 c3 A4 c4,A=some ad∧w.cell? (ad.add (j * 5))=some (.int .i64 Fs[j].f0)∧w.cell? ⟨(ad.add (j * 5)).block,(ad.add (j * 5)).off+1,none⟩=some (.int .i64 Fs[j].f1)∧w.cell? ⟨(ad.add (j * 5)).block,(ad.add (j * 5)).off+2,none⟩=some (.int .i64 Fs[j].f2) ∧
   w.cell? ⟨(ad.add (j * 5)).block,(ad.add (j * 5)).off+3,none⟩=some (.slice A3 Fs[j].f3.length c3)∧w.cell? ⟨(ad.add (j * 5)).block,(ad.add (j * 5)).off+4,none⟩=some (.slice A4 Fs[j].f4.length c4)∧Kd.C k63 w A3 Fs[j].f3.length Fs[j].f3∧Kd.C k63 w A4 Fs[j].f4.length Fs[j].f4:=by
 obtain ⟨ad,A3,c3,A4,c4,e,p0,p1,p2,p3,p4,l3,g3,l4,g4⟩:=at_T27 hr (j : Int) (by omega) (by omega);rw [Int.toNat_natCast] at p0 p1 p2 p3 p4
 have hx : rd_T27 Fs (j : Int)=Fs[j]:=by
  unfold rd_T27;rw [Int.toNat_natCast,List.getD_eq_getElem?_getD,List.getElem?_eq_getElem hj];rfl
 rw [hx] at p0 p1 p2 p3 p4 g3 g4 l3 l4;exact ⟨ad,A3,c3,A4,c4,e,p0,p1,p2,p3,p4,g3,g4⟩
theorem fcheckB {n : Nat} (hn : n < 10000000) (F : S27) (A3 : Option Addr) (c3 : Nat) (A4 : Option Addr) (c4 : Nat) (w : World) (h3 : Kd.C k63 w A3 F.f3.length F.f3) (h4 : Kd.C k63 w A4 F.f4.length F.f4) (hw : WfF n F) {b : Bool} (hb : chkF F=b) :
  Calls Try.prog 16 #[.agg #[.int .i64 F.f0,.int .i64 F.f1,.int .i64 F.f2,.slice A3 F.f3.length c3,.slice A4 F.f4.length c4]] w fun e w'=>e=.returned (.bool b)∧Below w.heap.size w w':=hb ▸ fcheck_sem hn F A3 c3 A4 c4 w h3 h4 hw
theorem info51 : (Try.prog.info? 51).map (fun i=>(i.zero,i.size,i.bytes))=some (some (.agg #[.int .i64 0,.int .i64 0]),2,16):=by kernel_rfl
theorem made51 (k : Nat) : (madeCells #[.int .i64 0,.int .i64 0] (k * 2))=(wcs (List.replicate k (0,0))).toArray:=by
 have e : wcs (List.replicate k (0,0))=List.replicate (k * 2) (.int .i64 0):=by
  induction k with
  | zero=>rfl
  | succ k ih =>
   rw [List.replicate_succ,show wcs ((0,0) :: List.replicate k (0,0))=.int .i64 (0 : Nat) :: .int .i64 (0 : Nat) :: wcs (List.replicate k (0,0)) from rfl,ih,show (k+1) * 2=k * 2+1+1 by omega,List.replicate_succ,List.replicate_succ];rfl
 rw [e];apply Array.ext
 ·simp [madeCells]
 ·intro i h1 h2
  have : i % 2=0∨i % 2=1:=by omega
  rcases this with h|h <;> simp [madeCells,h]
theorem make51 {k : Nat} (hk : k≤64) (W : World) : (Instr.makeSlice 43 (.int .i64 k) (.int .i64 k)).run Try.prog W=.ok (.slice (some ⟨W.heap.size,0,none⟩) k k) (W.alloc (.cells (wcs (List.replicate k (0,0))).toArray 51)):=by
 obtain ⟨i0,hi,hzz⟩:=Option.map_eq_some_iff.1 info51;simp only [Prod.mk.injEq] at hzz;obtain ⟨hz0,hz1,hz2⟩:=hzz;have hr:=run_make (P:=Try.prog) (w:=W) 43 51 i0 (.agg #[.int .i64 0,.int .i64 0]) Try.underlying43 hi hz0 .i64 .i64 (k : Int) (k : Int) (by omega) (by omega) (by rw [hz2];omega) (by omega);simp only [Int.toNat_natCast] at hr;rw [hz1] at hr;rw [hr,← made51];rfl
theorem IRow.at {w : World} {base : Nat} {A : Option Addr} {n c : Nat} {xs : List Nat} (h : IRow w base (.slice A n c) (xs.map Int.ofNat)) {i : Nat} (hi : i < xs.length) : ∃ g,A=some ⟨g,0,none⟩∧w.cell? ⟨g,i,none⟩=some (.int .i64 (xs.getD i 0 : Nat)):=by
 rcases h.2 with ⟨_,h2⟩|⟨g,cap,cur,e,_⟩
 ·rw [List.length_map] at h2
  omega
 ·injection e with e1 _ _
  subst e1
  have h3:=World.slackRow.cells h (g:=g) rfl i (.int .i64 (xs.getD i 0 : Nat)) (by
   unfold nums;rw [List.map_map,List.getElem?_map,List.getElem?_eq_getElem hi,List.getD_eq_getElem?_getD,List.getElem?_eq_getElem hi]
   rfl)
  rw [addz] at h3;exact ⟨g,rfl,h3⟩
theorem pick_val (p : Int) {l : Nat} (h : 0 < l) (h2 : l≤64) : Int.tmod (wrap64 (Int.tmod p l+l)) l=((p % (l : Int)).toNat : Nat):=by
 have h3:=Int.tmod_lt_of_pos p (b:=(l : Int)) (by omega)
 have h4 : -(l : Int) < Int.tmod p l:=by
  have:=Int.tmod_lt_of_pos (-p) (b:=(l : Int)) (by omega);rw [Int.neg_tmod] at this;omega
 have h5 : wrap64 (Int.tmod p l+l)=Int.tmod p l+l:=by unfold wrap64;omega
 have h6:=Int.emod_nonneg p (b:=(l : Int)) (by omega);rw [h5,Int.tmod_eq_emod_of_nonneg (by omega)]
 have h7 : (Int.tmod p l+l) % (l : Int)=p % l:=by
  rw [Int.add_emod_right];have h8:=Int.tmod_add_mul_tdiv p (l : Int)
  conv=>rhs;rw [← h8]
  rw [Int.add_mul_emod_self_left]
 rw [h7];omega
theorem ad_zero (ad : Addr) : ad.add (0 * 5)=ad:=by simp [Addr.add]
theorem enabled2 {w : World} {P : Nat} {v0 v1 v2 v3 v4 v9 : Value} {pA : Option Addr} {n pc : Nat} {s : PS} {qa : Addr} {k l : Nat} {en : List Nat} (hP : w.heap[P]? = some (.cells #[v0,v1,v2,v3,v4,.slice pA n pc,.int .i64 s.c,.bool s.l,.slice (some qa) k k,v9] 45 (0,0))) (hk : s.ws.length=k) (hk2 : k≤64) (hW : WRow w qa s.ws) (he : s.en n=en) (hl : en.length=l) :
  Calls Try.prog 18 #[.pointer (some ⟨P,0,none⟩)] w fun e w'=>∃ A c,e=.returned (.slice A l c)∧IRow w' w.heap.size (.slice A l c) (en.map Int.ofNat)∧Below w.heap.size w w':=by
 refine (enabled_sem hP hk hk2 hW).mono ?_;rintro e w' ⟨v,rfl,hi,hb⟩;obtain ⟨A,c,rfl⟩:=own_slice hi;rw [he] at hi ⊢;rw [List.length_map,hl] at hi ⊢;exact ⟨A,c,rfl,hi,hb⟩
theorem zero_add {M : Nat} {q : QF} {W h b : Int} (hM : (M : Int)=W * h * b) (hf : q.fits W h b) : (zeroQ M).add q=q:=by
 have h1 : ∀ l : List Rat,l.length=M→List.zipWith (· + ·) (List.replicate M 0) l=l:=fun l hl=>by
  subst hl;clear hM
  induction l with
  | nil=>rfl
  | cons a l ih=>rw [List.length_cons,List.replicate_succ,List.zipWith_cons_cons,ih,Rat.zero_add]
 unfold QF.add zeroQ;obtain ⟨a,b⟩:=q;dsimp only at hf ⊢;rw [h1 a (by have:=hf.1;simp only at this;omega),h1 b (by have:=hf.2;simp only at this;omega)]
theorem zero_fits {M : Nat} {W h b : Int} (hM : (M : Int)=W * h * b) : (zeroQ M).fits W h b:=⟨by unfold zeroQ;simp [hM],by unfold zeroQ;simp [hM]⟩
theorem zero_sz (M : Nat) : (zeroQ M).sz≤1:=by
 unfold QF.sz zeroQ
 refine Nat.max_le.mpr ⟨szL_le fun q hq=>?_,szL_le fun q hq=>?_⟩ <;> · rw [List.eq_of_mem_replicate hq];exact sz1_zero
theorem PlaySt.below {w0 w w1 : World} {P : Nat} {qa : Addr} {W h b : Int} {M : Nat} {A0 : Option Addr} {n pc k : Nat} {s : PS} {q : QF} (H : PlaySt w0 w P qa W h b M A0 n pc k s q) (hb : Below w.heap.size w w1) : PlaySt w0 w1 P qa W h b M A0 n pc k s q:=by
 obtain ⟨ad,c,ad2,c2,dv,hp,l1,l2,hr,hd⟩:=H.ex;exact ⟨below_step H.lo hb,H.pl,H.ql,⟨ad,c,ad2,c2,dv,blk_below hp hb,l1,l2,hr.below hb,pw_own_below hd hb⟩,H.wk.below hb⟩
theorem stepZ {w0 w : World} {P Q : Nat} {W h b : Int} {M : Nat} {A0 : Option Addr} {n pc k : Nat} {s : PS} {z : QF} {qs : List QF} (H : PlaySt w0 w P ⟨Q,0,none⟩ W h b M A0 n pc k s (filmOf z qs s.done)) (ok : s.Ok n k) {i : Nat} (hi : i < s.ws.length) (hs : szs W h b=true) (hM : (M : Int)=W * h * b) (hr : Kd.C k27 w0 A0 n (qs.map (mkF W h b))) (hn : n=qs.length) (hq : ∀ q∈qs,q.fits W h b) (hz : z.fits W h b) (hz1 : z.sz≤1) (ht : tot qs < 9000000) (hn4 : n≤4096) :
  Calls Try.prog 19 #[.pointer (some ⟨P,0,none⟩),.pointer (some ⟨Q,i * 2,none⟩)] w fun e w'=>e=.returned (.tuple #[])∧PlaySt w0 w' P ⟨Q,0,none⟩ W h b M A0 n pc k (s.step i) (filmOf z qs (s.step i).done):=by
 have h1:=step_sem H ok hi hs hM hr hn hq hz hz1 ht hn4;rw [addz] at h1;exact h1
def NoPlay (e : Ending) : Prop:=e=.returned (.tuple #[.agg #[.int .i64 0,.int .i64 0,.int .i64 0,.slice none 0 0,.slice none 0 0],.slice none 0 0,.int .i64 0,.bool false])
def Played (Fs : List S27) (k : Nat) (picks : List Int) (W h b : Int) (M : Nat) (w : World) (e : Ending) (w' : World) : Prop :=
 ∃ ad c ad2 c2 dv,e=.returned (.tuple #[.agg #[.int .i64 W,.int .i64 h,.int .i64 b,.slice (some ad) M c,.slice (some ad2) M c2],dv,.int .i64 ((4 * Fs.length : Nat) : Int),.bool true])∧M≤c∧M≤c2∧Rows w' w.heap.size (sumQ (Fs.map qF)) ad c ad2 c2∧IRow w' w.heap.size dv ((PS.after Fs.length k picks (4 * Fs.length)).done.map Int.ofNat)
set_option maxHeartbeats 4000000 in
set_option maxRecDepth 100000 in
theorem play_sem {n0 : Nat} {Fs : List S27} (hn0 : n0 < 10000000) (hw : ∀ F∈Fs,WfF n0 F) (k : Int) (hk0 : -9223372036854775808≤k∧k≤9223372036854775807) (hsz : tot (Fs.map qF) < 9000000) (A0 : Option Addr) (c0 : Nat) (w : World) (hr : Kd.C k27 w A0 Fs.length Fs) (picks : List Int) (Ap : Option Addr) (cp : Nat) (hp : (Kd.int .i64).C w Ap picks.length picks) :
  Calls Try.prog 9 #[.slice A0 Fs.length c0,.int .i64 k,.slice Ap picks.length cp] w fun e w'=>Below w.heap.size w w'∧((mayB Fs k=false∧NoPlay e)∨(mayB Fs k=true ∧ ∃ (W h b : Int) (M : Nat),szs W h b=true∧(M : Int)=W * h * b∧(∀ F∈Fs,F.f0=W∧F.f1=h∧F.f2=b)∧Played Fs k.toNat picks W h b M w e w')):=by
 have HR:=Aside0.mk hr;have HP:=Aside0.mk hp;have HW:=Aside0.mk hw
 have hmax : Fs.length≤9223372036854775807:=by have:=Kd.C_max hr;simpa using this
 clear hr hp hw
 go_enter Try.func9,Try.ntmps9
 rcases Nat.eq_zero_or_pos Fs.length with h0|h0
 ·have cz : ((Fs.length : Int) == 0)=true:=beq_iff_eq.mpr (by omega)
  have HZ : Aside0 (mayB Fs k=false):=⟨by rw [List.length_eq_zero_iff.mp h0];rfl⟩;clear h0
  go_wp2
  obtain ⟨w1,hw1⟩ : ∃ z,w.alloc (.cells #[.int .i64 0,.int .i64 0,.int .i64 0,.slice none 0 0,.slice none 0 0] 27)=z:=⟨_,rfl⟩;rw [hw1];have b0:=blk_new w (.cells #[.int .i64 0,.int .i64 0,.int .i64 0,.slice none 0 0,.slice none 0 0] 27);have b1:=below_alloc (Below.refl w.heap.size w) (.cells #[.int .i64 0,.int .i64 0,.int .i64 0,.slice none 0 0,.slice none 0 0] 27);rw [hw1] at b0 b1;clear hw1;refine bodyPost_ret (results_cttt rfl _ _ w.heap.size 27 _ (0,0) _ rfl b0 Try.underlying27 rfl (by kernel_rfl)) rfl ?_;exact ⟨b1,.inl ⟨HZ.out,rfl⟩⟩
 have cz : ((Fs.length : Int) == 0)=false:=beq_eq_false_iff_ne.mpr (by omega);have H0:=Aside0.mk h0;clear h0
 rcases Nat.lt_or_ge 4096 Fs.length with h1|h1
 ·have cz1 : decide (4096 < (Fs.length : Int))=true:=decide_eq_true (by omega)
  have HZ : Aside0 (mayB Fs k=false):=⟨by
   rw [← Bool.not_eq_true,mayB_iff H0.out]
   omega⟩
  clear h1
  go_wp2
  obtain ⟨w1,hw1⟩ : ∃ z,w.alloc (.cells #[.int .i64 0,.int .i64 0,.int .i64 0,.slice none 0 0,.slice none 0 0] 27)=z:=⟨_,rfl⟩;rw [hw1];have b0:=blk_new w (.cells #[.int .i64 0,.int .i64 0,.int .i64 0,.slice none 0 0,.slice none 0 0] 27);have b1:=below_alloc (Below.refl w.heap.size w) (.cells #[.int .i64 0,.int .i64 0,.int .i64 0,.slice none 0 0,.slice none 0 0] 27);rw [hw1] at b0 b1;clear hw1;refine bodyPost_ret (results_cttt rfl _ _ w.heap.size 27 _ (0,0) _ rfl b0 Try.underlying27 rfl (by kernel_rfl)) rfl ?_;exact ⟨b1,.inl ⟨HZ.out,rfl⟩⟩
 have cz1 : decide (4096 < (Fs.length : Int))=false:=decide_eq_false (by omega);have H1:=Aside0.mk h1;clear h1
 rcases Int.lt_or_le k 1 with h2|h2
 ·have cz2 : decide (k < 1)=true:=decide_eq_true h2
  have HZ : Aside0 (mayB Fs k=false):=⟨by
   rw [← Bool.not_eq_true,mayB_iff H0.out]
   omega⟩
  clear h2
  go_wp2
  obtain ⟨w1,hw1⟩ : ∃ z,w.alloc (.cells #[.int .i64 0,.int .i64 0,.int .i64 0,.slice none 0 0,.slice none 0 0] 27)=z:=⟨_,rfl⟩;rw [hw1];have b0:=blk_new w (.cells #[.int .i64 0,.int .i64 0,.int .i64 0,.slice none 0 0,.slice none 0 0] 27);have b1:=below_alloc (Below.refl w.heap.size w) (.cells #[.int .i64 0,.int .i64 0,.int .i64 0,.slice none 0 0,.slice none 0 0] 27);rw [hw1] at b0 b1;clear hw1;refine bodyPost_ret (results_cttt rfl _ _ w.heap.size 27 _ (0,0) _ rfl b0 Try.underlying27 rfl (by kernel_rfl)) rfl ?_;exact ⟨b1,.inl ⟨HZ.out,rfl⟩⟩
 have cz2 : decide (k < 1)=false:=decide_eq_false (by omega);have H2:=Aside0.mk h2;clear h2
 rcases Int.lt_or_le 64 k with h3|h3
 ·have cz3 : decide (64 < k)=true:=decide_eq_true h3
  have HZ : Aside0 (mayB Fs k=false):=⟨by
   rw [← Bool.not_eq_true,mayB_iff H0.out]
   omega⟩
  clear h3
  go_wp2
  obtain ⟨w1,hw1⟩ : ∃ z,w.alloc (.cells #[.int .i64 0,.int .i64 0,.int .i64 0,.slice none 0 0,.slice none 0 0] 27)=z:=⟨_,rfl⟩;rw [hw1];have b0:=blk_new w (.cells #[.int .i64 0,.int .i64 0,.int .i64 0,.slice none 0 0,.slice none 0 0] 27);have b1:=below_alloc (Below.refl w.heap.size w) (.cells #[.int .i64 0,.int .i64 0,.int .i64 0,.slice none 0 0,.slice none 0 0] 27);rw [hw1] at b0 b1;clear hw1;refine bodyPost_ret (results_cttt rfl _ _ w.heap.size 27 _ (0,0) _ rfl b0 Try.underlying27 rfl (by kernel_rfl)) rfl ?_;exact ⟨b1,.inl ⟨HZ.out,rfl⟩⟩
 have cz3 : decide (64 < k)=false:=decide_eq_false (by omega);have H3:=Aside0.mk h3;clear h3
 go_wp2
 clear cz cz1 cz2 cz3
 go_loopw [35] (fun x wr=>∃ j : Nat,j≤Fs.length∧x=.int .i64 j∧Aside0 (Below w.heap.size w wr∧wr.heap[w.heap.size]? = some (.cells #[.int .i64 0,.int .i64 0,.int .i64 0,.slice none 0 0,.slice none 0 0] 27 (0,0)))∧Aside0 (∀ i (h : i < Fs.length),i < j→good (Fs[0]'H0.out) Fs[i]=true)) (fun x _=>Fs.length - (intOf x).toNat)
 case atStart=>exact ⟨0,Nat.zero_le _,rfl,⟨below_alloc (Below.refl _ _) _,blk_new _ _⟩,⟨fun i _ h=>absurd h (Nat.not_lt_zero _)⟩⟩
 case round =>
  obtain ⟨j,hj,rfl,HB,HG⟩:=hrel
  by_cases hlt : j < Fs.length
  ·have hlb : decide ((j : Int) < (Fs.length : Int))=true:=decide_eq_true (by omega)
   obtain ⟨ad,A3,c3,A4,c4,e1,p0,p1,p2,p3,p4,g3,g4⟩:=at_film0 HR.out hlt rfl;obtain ⟨ad',_,_,_,_,e2,z0,z1,z2,_,_,_,_⟩:=at_film0 HR.out H0.out rfl;rw [e1] at e2
   injection e2 with e2
   subst e1 e2;replace p0:=keepc HB.out.1 p0;replace p1:=keepc HB.out.1 p1;replace p2:=keepc HB.out.1 p2;replace p3:=keepc HB.out.1 p3;replace p4:=keepc HB.out.1 p4;rw [ad_zero] at z0 z1 z2;replace z0:=keepc HB.out.1 z0;replace z1:=keepc HB.out.1 z1;replace z2:=keepc HB.out.1 z2;have hf:=HW.out Fs[j] (List.getElem_mem _)
   have hgd : good (Fs[0]'H0.out) Fs[j]=true → ∀ i (h : i < Fs.length),i < j+1→good (Fs[0]'H0.out) Fs[i]=true:=fun hg i h hi=>by
    rcases Nat.lt_or_ge i j with hi2|hi2
    ·exact HG.out i h hi2
    ·obtain rfl : i=j:=by omega
     exact hg
   have hbd : good (Fs[0]'H0.out) Fs[j]=false→mayB Fs k=false:=fun hg=>by
    rw [← Bool.not_eq_true,mayB_iff H0.out];rintro ⟨_,_,_,h⟩;exact absurd (h j hlt) (by rw [hg];exact Bool.false_ne_true)
   have HGB:=Aside0.mk (And.intro hgd hbd);obtain ⟨H,eH⟩ : ∃ z,Fs[0]'H0.out=z:=⟨_,rfl⟩;rw [eH] at HGB z0 z1 z2;obtain ⟨F,eF⟩ : ∃ z,Fs[j]=z:=⟨_,rfl⟩;rw [eF] at HGB p0 p1 p2 p3 p4 g3 g4 hf;have HF:=Aside0.mk hf;have HEH:=Aside0.mk eH;clear hgd hbd eF hf eH
   go_upto_region 6 with fail
   have HB1:=Aside0.mk (below_alloc HB.out.1 (.cells #[.int .i64 F.f0,.int .i64 F.f1,.int .i64 F.f2,.slice A3 F.f3.length c3,.slice A4 F.f4.length c4] 27));have B1:=Aside0.mk (blk_new wr (.cells #[.int .i64 F.f0,.int .i64 F.f1,.int .i64 F.f2,.slice A3 F.f3.length c3,.slice A4 F.f4.length c4] 27));have B0:=Aside0.mk (blk_alloc HB.out.2 (.cells #[.int .i64 F.f0,.int .i64 F.f1,.int .i64 F.f2,.slice A3 F.f3.length c3,.slice A4 F.f4.length c4] 27));have HWr:=below_alloc (Below.refl wr.heap.size wr) (.cells #[.int .i64 F.f0,.int .i64 F.f1,.int .i64 F.f2,.slice A3 F.f3.length c3,.slice A4 F.f4.length c4] 27);have HG3:=Aside0.mk (And.intro (Kd.C_below (Kd.C_below g3 HB.out.1) HWr) (Kd.C_below (Kd.C_below g4 HB.out.1) HWr));have HZ3:=Aside0.mk (And.intro (keepc HWr z0) (And.intro (keepc HWr z1) (keepc HWr z2)));clear p0 p1 p2 p3 p4 z0 z1 z2 g3 g4 HWr;obtain ⟨w1,hw1⟩ : ∃ z,wr.alloc (.cells #[.int .i64 F.f0,.int .i64 F.f1,.int .i64 F.f2,.slice A3 F.f3.length c3,.slice A4 F.f4.length c4] 27)=z:=⟨_,rfl⟩;rw [hw1] at HB1 B1 B0 HG3 HZ3 ⊢;clear hw1;obtain ⟨G,hG⟩ : ∃ z,wr.heap.size=z:=⟨_,rfl⟩;rw [hG] at B1 ⊢;clear hG
   rcases hc : chkF F with _|_
   rotate_left
   rcases Bool.eq_false_or_eq_true (F.f0 != H.f0) with hc0|hc0
   rotate_left
   rcases Bool.eq_false_or_eq_true (F.f1 != H.f1) with hc1|hc1
   rotate_left
   rcases Bool.eq_false_or_eq_true (F.f2 != H.f2) with hc2|hc2
   all_goals
    have HC:=Aside0.mk hc
    first
    | have HZ : Aside0 (mayB Fs k=false):=⟨HGB.out.2 (by unfold good;first|(rw [hc];rfl)|(rw [show (F.f0 == H.f0)=false by simpa [bne] using hc0];simp;done)|(rw [show (F.f1 == H.f1)=false by simpa [bne] using hc1];simp;done)|(rw [show (F.f2 == H.f2)=false by simpa [bne] using hc2];simp;done))⟩
    | have HOK:=Aside0.mk (HGB.out.1 (by unfold good;rw [hc,show (F.f0 == H.f0)=true by simpa [bne] using hc0,show (F.f1 == H.f1)=true by simpa [bne] using hc1,show (F.f2 == H.f2)=true by simpa [bne] using hc2];rfl))
    clear hc;have h0:=H0.out;refine sT (n:=30) (S:=fun w'=>w'.cell? ⟨G,0,none⟩=some (.int .i64 F.f0)∧w'.cell? ⟨G,1,none⟩=some (.int .i64 F.f1)∧w'.cell? ⟨G,2,none⟩=some (.int .i64 F.f2)∧w'.cell? ⟨G,3,none⟩=some (.slice A3 F.f3.length c3)∧w'.cell? ⟨G,4,none⟩=some (.slice A4 F.f4.length c4)∧w'.cell? ad=some (.int .i64 H.f0)∧w'.cell? ⟨ad.block,ad.off+1,none⟩=some (.int .i64 H.f1)∧w'.cell? ⟨ad.block,ad.off+2,none⟩=some (.int .i64 H.f2)) (ds:=[]) (by kernel_rfl) rfl ⟨(cells5 B1.out).1,(cells5 B1.out).2.1,(cells5 B1.out).2.2.1,(cells5 B1.out).2.2.2.1,(cells5 B1.out).2.2.2.2,HZ3.out.1,HZ3.out.2.1,HZ3.out.2.2⟩ (fun hHeld=>?_);refine with_tabW pool_Play.tab6 pool_Play.bits6 (fun HT_ HW_=>?_);refine zt 0 39 ?_
    refine oN 1 (some 40) rfl rfl fun K hK=>?_
    obtain ⟨wc,hwc⟩ : ∃ z,w1.drew=z:=⟨_,rfl⟩;have HWc : Aside0 (Below w1.heap.size w1 wc):=⟨by rw [← hwc];exact below_drew1 (Below.refl _ _)⟩;rw [hwc];clear hwc;refine goes_ Try.func16 (by kernel_rfl) rfl #[.agg #[.int .i64 F.f0,.int .i64 F.f1,.int .i64 F.f2,.slice A3 F.f3.length c3,.slice A4 F.f4.length c4]] (by rfl) rfl rfl (by simp only [List.map_toArray,List.map_cons,List.map_nil];rfl) ?_
    with_reducible refine (fcheckB hn0 F A3 c3 A4 c4 wc (Kd.C_below HG3.out.1 HWc.out) (Kd.C_below HG3.out.2 HWc.out) HF.out HC.out).mono ?_
    rintro e w2 ⟨rfl,hb⟩;refine ⟨_,rfl,?_⟩;replace HWc:=Aside0.mk (below_step HWc.out hb);clear hb;refine hK.out _ _ ⟨keepc HWc.out (cells5 B1.out).1,keepc HWc.out (cells5 B1.out).2.1,keepc HWc.out (cells5 B1.out).2.2.1,keepc HWc.out (cells5 B1.out).2.2.2.1,keepc HWc.out (cells5 B1.out).2.2.2.2,keepc HWc.out HZ3.out.1,keepc HWc.out HZ3.out.2.1,keepc HWc.out HZ3.out.2.2⟩ (fun hHeld=>?_);clear hK K;refine nZ ?_;refine zp 2 41 ?_;refine zp 3 42 ?_;refine zp 4 43 ?_;refine zp 6 45 ?_;refine zp 7 46 ?_;refine zp 8 47 ?_;refine zt 5 44 ?_;refine zt 9 48 ?_;refine zp 10 49 ?_;refine zp 11 50 ?_;refine zp 12 51 ?_;refine zp 13 52 ?_;refine zp 15 54 ?_;refine zp 16 55 ?_;refine zp 17 56 ?_;refine zt 14 53 ?_;refine zt 18 57 ?_;refine zp 19 58 ?_;refine zp 20 59 ?_;refine zp 21 60 ?_;refine zp 22 61 ?_;refine zp 24 63 ?_;refine zp 25 64 ?_;refine zp 26 65 ?_;refine zt 23 62 ?_;refine zt 27 66 ?_;refine zp 28 67 ?_;refine zp 29 68 ?_;refine dN ?_;have B02:=Aside0.mk (blk_below B0.out HWc.out);have HB2:=Aside0.mk (below_step HB1.out HWc.out);have q0:=cells5 B02.out;have q1:=free5 B02.out;clear hHeld
    go_wp2
    first
    | (go_roundw;(case rel=>exact ⟨j+1,hlt,by go_num,⟨HB2.out,B02.out⟩,⟨HEH.out ▸ HOK.out⟩⟩);(case measure=>simp [intOf];omega))
    | (refine bodyPost_ret (results_cttt rfl _ _ w.heap.size 27 _ (0,0) _ rfl (put5 B02.out (.int .i64 0) (.int .i64 0) (.int .i64 0) (.slice none 0 0) (.slice none 0 0)) Try.underlying27 rfl (by kernel_rfl)) rfl ?_;exact ⟨low5 (g:=w.heap.size) HB2.out (Nat.le_refl _) (.int .i64 0) (.int .i64 0) (.int .i64 0) (.slice none 0 0) (.slice none 0 0),.inl ⟨HZ.out,rfl⟩⟩)
  ·obtain rfl : j=Fs.length:=by omega
   have hlb : decide ((Fs.length : Int) < (Fs.length : Int))=false:=by simp
   have HM : Aside0 (mayB Fs k=true):=⟨(mayB_iff H0.out).mpr ⟨H1.out,H2.out,H3.out,fun i h=>HG.out i h h⟩⟩
   obtain ⟨W,h,b,hs,hf⟩ : ∃ W h b,szs W h b=true ∧ ∀ F∈Fs,F.f0=W∧F.f1=h∧F.f2=b:=by
    have h1:=HG.out 0 H0.out H0.out;refine ⟨_,_,_,(fits_of (F:=Fs[0]'H0.out) ?_).1,fun F hF=>?_⟩
    ·unfold good at h1
     simp only [Bool.and_eq_true] at h1;exact h1.1.1.1
    ·obtain ⟨i,hi,rfl⟩:=List.mem_iff_getElem.mp hF
     have h2:=HG.out i hi hi;unfold good at h2;simp only [Bool.and_eq_true,beq_iff_eq] at h2;exact ⟨h2.1.1.2,h2.1.2,h2.2⟩
   have hck : ∀ F∈Fs,chkF F=true:=fun F hF=>by
    obtain ⟨i,hi,rfl⟩:=List.mem_iff_getElem.mp hF;have h2:=HG.out i hi hi;unfold good at h2;simp only [Bool.and_eq_true] at h2;exact h2.1.1.1
   obtain ⟨qs,eqs⟩ : ∃ qs,Fs.map qF=qs:=⟨_,rfl⟩
   have hlen : qs.length=Fs.length:=by rw [← eqs,List.length_map]
   have hFs : Fs=qs.map (mkF W h b):=by
    rw [← eqs,List.map_map];refine (List.map_id' Fs).symm.trans (List.map_congr_left fun F hF=>?_);obtain ⟨e1,e2,e3⟩:=hf F hF
    show F=mkF W h b (qF F)
    rw [← e1,← e2,← e3,mkF_qF (hck F hF)]
   have hq : ∀ q∈qs,q.fits W h b:=fun q hq=>by
    rw [← eqs] at hq;obtain ⟨F,hF,rfl⟩:=List.mem_map.mp hq;obtain ⟨e1,e2,e3⟩:=hf F hF;rw [← e1,← e2,← e3];exact (fits_of (hck F hF)).2
   obtain ⟨M,hM⟩ : ∃ M : Nat,(M : Int)=W * h * b:=⟨(W * h * b).toNat,by have:=szs_pos hs;omega⟩;obtain ⟨k',rfl⟩ : ∃ k' : Nat,k=k':=⟨k.toNat,by have:=H2.out;omega⟩;have HQ:=Aside0.mk (show (∀ q∈qs,q.fits W h b)∧Fs=qs.map (mkF W h b)∧tot qs < 9000000∧qs.length=Fs.length∧Fs.map qF=qs∧(∀ F∈Fs,F.f0=W∧F.f1=h∧F.f2=b) from ⟨hq,hFs,eqs ▸ hsz,hlen,eqs,hf⟩);have hkk : 1≤k'∧k'≤64:=⟨by have:=H2.out;omega,by have:=H3.out;omega⟩;clear hq hFs hlen eqs hf hck hsz HG H2 H3;have hmk:=make51 hkk.2
   go_upto_region 10 with fail
   clear hmk;obtain ⟨ad,_,_,_,_,e1,z0,z1,z2,_,_,_,_⟩:=at_film0 HR.out H0.out rfl;subst e1;obtain ⟨e1,e2,e3⟩:=HQ.out.2.2.2.2.2 _ (List.getElem_mem (n:=0) H0.out);rw [e1,ad_zero] at z0;rw [e2,ad_zero] at z1;rw [e3,ad_zero] at z2;have hbq : Below wr.heap.size wr (wr.alloc (.cells (wcs (List.replicate k' (0,0))).toArray 51)):=below_alloc (Below.refl wr.heap.size wr) _;have hbp : Below wr.heap.size wr ((wr.alloc (.cells (wcs (List.replicate k' (0,0))).toArray 51)).alloc (.cells #[.int .i64 0,.int .i64 0,.int .i64 0,.slice none 0 0,.slice none 0 0,.slice (some ad) Fs.length c0,.int .i64 0,.bool false,.slice (some ⟨wr.heap.size,0,none⟩) k' k',.slice none 0 0] 45)):=below_alloc hbq _;have hBQ:=blk_alloc (blk_new wr (.cells (wcs (List.replicate k' (0,0))).toArray 51)) (.cells #[.int .i64 0,.int .i64 0,.int .i64 0,.slice none 0 0,.slice none 0 0,.slice (some ad) Fs.length c0,.int .i64 0,.bool false,.slice (some ⟨wr.heap.size,0,none⟩) k' k',.slice none 0 0] 45);have hBP:=blk_new (wr.alloc (.cells (wcs (List.replicate k' (0,0))).toArray 51)) (.cells #[.int .i64 0,.int .i64 0,.int .i64 0,.slice none 0 0,.slice none 0 0,.slice (some ad) Fs.length c0,.int .i64 0,.bool false,.slice (some ⟨wr.heap.size,0,none⟩) k' k',.slice none 0 0] 45);rw [show (wr.alloc (.cells (wcs (List.replicate k' (0,0))).toArray 51)).heap.size=wr.heap.size+1 by simp] at hBP;obtain ⟨P,eP⟩ : ∃ P,wr.heap.size+1=P:=⟨_,rfl⟩;obtain ⟨Q,eQ⟩ : ∃ Q,wr.heap.size=Q:=⟨_,rfl⟩;have HE:=Aside0.mk (show wr.heap.size≤P∧wr.heap.size≤Q∧w.heap.size < Q from ⟨by omega,by omega,by rw [← eQ];exact blk_lt HB.out.2⟩)
   obtain ⟨wp,hwp⟩ : ∃ z,(wr.alloc (.cells (wcs (List.replicate k' (0,0))).toArray 51)).alloc (.cells #[.int .i64 0,.int .i64 0,.int .i64 0,.slice none 0 0,.slice none 0 0,.slice (some ad) Fs.length c0,.int .i64 0,.bool false,.slice (some ⟨wr.heap.size,0,none⟩) k' k',.slice none 0 0] 45)=z:=⟨_,rfl⟩;rw [hwp] at hBQ hBP hbp ⊢;rw [eP] at hBP ⊢;have HBP : Aside0 (Below wr.heap.size wr wp):=⟨hbp⟩;rw [eQ] at hBP hBQ ⊢;have BP:=Aside0.mk hBP;have BQ:=Aside0.mk hBQ;have HZS:=Aside0.mk (And.intro (keepc hbp (keepc HB.out.1 z0)) (And.intro (keepc hbp (keepc HB.out.1 z1)) (keepc hbp (keepc HB.out.1 z2))));have HKK:=Aside0.mk hkk;clear z0 z1 z2 hbq hbp hBP hBQ eP eQ hwp e1 e2 e3 hkk hlt hj;have h0:=H0.out;refine sT (n:=20) (S:=fun w'=>w'.cell? ad=some (.int .i64 W)∧w'.cell? ⟨ad.block,ad.off+1,none⟩=some (.int .i64 h)∧w'.cell? ⟨ad.block,ad.off+2,none⟩=some (.int .i64 b)) (ds:=[19]) (by kernel_rfl) rfl HZS.out (fun hHeld=>?_);refine with_tabW pool_Play.tab10 pool_Play.bits10 (fun HT_ HW_=>?_);refine zp 0 77 ?_;refine zp 1 78 ?_;refine zp 2 79 ?_;refine zp 3 80 ?_;refine zp 5 82 ?_;refine zp 6 83 ?_;refine zp 7 84 ?_;refine zp 9 86 ?_;refine zp 10 87 ?_;refine zp 11 88 ?_;refine zt 4 81 ?_;refine zt 8 85 ?_;refine zt 12 89 ?_
   refine oN 13 (some 90) rfl rfl fun K hK=>?_
   obtain ⟨wc,hwc⟩ : ∃ z,wp.drew=z:=⟨_,rfl⟩;have HWc : Aside0 (Below wp.heap.size wp wc):=⟨by rw [← hwc];exact below_drew1 (Below.refl _ _)⟩;rw [hwc];clear hwc;refine goes_ Try.func17 (by kernel_rfl) rfl #[.int .i64 W,.int .i64 h,.int .i64 b] (by rfl) rfl rfl (by simp only [List.map_toArray,List.map_cons,List.map_nil];rfl) ?_
   with_reducible refine (new_sem hs hM wc).mono ?_
   rintro e w1 ⟨ae,ce,ae2,ce2,rfl,lce,lce2,hrw,hb⟩;refine ⟨_,rfl,?_⟩;have HRW:=Aside0.mk (hrw.lower (Nat.le_trans HBP.out.size HWc.out.size));have HLC:=Aside0.mk (And.intro lce lce2);replace HWc:=Aside0.mk (below_step HWc.out hb);clear hb hrw lce lce2;refine hK.out _ _ (kE HWc.out HZS.out) (fun hHeld=>?_);clear hK K;refine nZ ?_;refine zp 14 76 ?_;refine zp 15 91 ?_;refine zp 16 92 ?_;refine zp 17 93 ?_;refine zp 18 94 ?_
   refine lN 19 (none) rfl rfl fun K hK=>?_
   have q0:=cells10 (blk_below BP.out HWc.out);have q1:=free10 (blk_below BP.out HWc.out);refine skip_ (w1:=?_) (by rfl) rfl ?_ ?_;rotate_left
   ·go_simp
    rfl
   clear q0 q1;refine hK.out _ _ ?_;clear hK K;refine dN ?_
   have HSt : Aside0 (PlaySt wr (((((w1.setCell ⟨P,0,none⟩ (.int .i64 W)).setCell ⟨P,1,none⟩ (.int .i64 h)).setCell ⟨P,2,none⟩ (.int .i64 b)).setCell ⟨P,3,none⟩ (.slice (some ae) M ce)).setCell ⟨P,4,none⟩ (.slice (some ae2) M ce2)) P ⟨Q,0,none⟩ W h b M (some ad) Fs.length c0 k' (PS.after Fs.length k' picks 0) (filmOf (zeroQ M) qs (PS.after Fs.length k' picks 0).done)):=⟨by
    have hp1:=blk_below BP.out HWc.out;have hq1:=blk_below BQ.out HWc.out
    have hne : Q≠P:=fun e=>by
     rw [e,hp1] at hq1
     injection hq1 with h1
     injection h1 with _ h2 _
     exact absurd h2 (by decide)
    exact ⟨low5 (g:=P) (below_step HBP.out HWc.out) HE.out.1 _ _ _ _ _,HE.out.1,HE.out.2.1,⟨ae,ce,ae2,ce2,.slice none 0 0,put10 hp1 _ _ _ _ _,HLC.out.1,HLC.out.2,HRW.out.tk (tk_set5 hp1 (by decide) _ _ _ _ _ inferInstance),own_nil _ _ _ _⟩,⟨rfl,far5 hq1 hne _ _ _ _ _⟩⟩⟩
   clear HRW HLC HWc BP BQ HBP HZS hHeld;obtain ⟨w3,hw3⟩ : ∃ z,((((w1.setCell ⟨P,0,none⟩ (.int .i64 W)).setCell ⟨P,1,none⟩ (.int .i64 h)).setCell ⟨P,2,none⟩ (.int .i64 b)).setCell ⟨P,3,none⟩ (.slice (some ae) M ce)).setCell ⟨P,4,none⟩ (.slice (some ae2) M ce2)=z:=⟨_,rfl⟩;rw [hw3] at HSt ⊢;clear hw3
   go_wp2
   go_loopw [13] (fun x ws=>∃ t : Nat,t≤4 * Fs.length∧x=.int .i64 t∧Aside0 (PlaySt wr ws P ⟨Q,0,none⟩ W h b M (some ad) Fs.length c0 k' (PS.after Fs.length k' picks t) (filmOf (zeroQ M) qs (PS.after Fs.length k' picks t).done))) (fun x _=>4 * Fs.length - (intOf x).toNat)
   case atStart=>exact ⟨0,Nat.zero_le _,rfl,HSt⟩
   case round =>
    obtain ⟨t,ht,rfl,HS⟩:=hrel;clear HSt;obtain ⟨hok,hrest⟩:=after_ok Fs.length k' picks t HKK.out.1 ht;obtain ⟨s,es⟩ : ∃ s,PS.after Fs.length k' picks t=s:=⟨_,rfl⟩;rw [es] at HS hok hrest;obtain ⟨ax,cx,ax2,cx2,dv,hp,hl1,hl2,hrx,hdx⟩:=HS.out.ex
    have hen : (s.en Fs.length).length≤64:=by
     have h1 : (s.en Fs.length).length≤(List.range s.ws.length).length:=List.length_filter_le _ _;rw [List.length_range,hok.len] at h1;have:=HKK.out.2;omega
    have HC:=Aside0.mk (And.intro hp (And.intro hok.len HS.out.wk));have HOK:=Aside0.mk (And.intro hok (And.intro hrest es));obtain ⟨en,een⟩ : ∃ en,s.en Fs.length=en:=⟨_,rfl⟩;obtain ⟨l,el⟩ : ∃ l,en.length=l:=⟨_,rfl⟩;have HEN:=Aside0.mk (And.intro een el);rw [een,el] at hen
    by_cases hl0 : l=0
    ·have hnil : s.en Fs.length=[]:=by rw [een];exact List.length_eq_zero_iff.mp (el.trans hl0)
     obtain ⟨r0,r1,_⟩:=rest_of_stuck hok HKK.out.1 hnil;have HT : Aside0 (t=4 * Fs.length∧s.done.Perm (List.range Fs.length)):=⟨by omega,r1⟩;have cl : ((l : Int) == 0)=true:=beq_iff_eq.mpr (by omega);obtain ⟨Ad,cd,edv⟩:=own_slice hdx;rw [List.length_map] at edv;subst edv;have HX:=Aside0.mk (And.intro hl1 (And.intro hl2 (And.intro hrx hdx)));clear hp hok hrest es een el hl0 hnil r0 r1 ht hl1 hl2 hrx hdx
     go_upto_region 15 with (first
      | (go_at_call 18;(with_reducible refine (enabled2 HC.out.1 HC.out.2.1 HKK.out.2 HC.out.2.2 HEN.out.1 HEN.out.2).mono ?_);rintro e w1 ⟨Ae,cE,rfl,hi,hb⟩;have HB1:=Aside0.mk hb;clear hi hb))
     have HNP:=Aside0.mk (show P≠w.heap.size by have h1:=HE.out.1;have h2:=blk_lt HB.out.2;omega);have BX:=Aside0.mk (blk_below (blk_below HB.out.2 HS.out.lo) HB1.out);refine sT (n:=13) (S:=fun w'=>w'.cell? ⟨P,0,none⟩=some (.int .i64 W)∧w'.cell? ⟨P,1,none⟩=some (.int .i64 h)∧w'.cell? ⟨P,2,none⟩=some (.int .i64 b)∧w'.cell? ⟨P,3,none⟩=some (.slice (some ax) M cx)∧w'.cell? ⟨P,4,none⟩=some (.slice (some ax2) M cx2)∧w'.cell? ⟨P,9,none⟩=some (.slice Ad s.done.length cd)) (ds:=[]) (by kernel_rfl) rfl ⟨(cells10 (blk_below HC.out.1 HB1.out)).1,(cells10 (blk_below HC.out.1 HB1.out)).2.1,(cells10 (blk_below HC.out.1 HB1.out)).2.2.1,(cells10 (blk_below HC.out.1 HB1.out)).2.2.2.1,(cells10 (blk_below HC.out.1 HB1.out)).2.2.2.2.1,(cells10 (blk_below HC.out.1 HB1.out)).2.2.2.2.2.2.2.2.2⟩ (fun hHeld=>?_);refine with_tabW pool_Play.tab15 pool_Play.bits15 (fun HT_ HW_=>?_);refine zp 0 102 ?_;refine zp 1 103 ?_;refine zp 2 104 ?_;refine zp 4 106 ?_;refine zp 5 107 ?_;refine zp 6 108 ?_;refine zp 8 110 ?_;refine zt 3 105 ?_;refine zt 7 109 ?_
     refine oN 9 (none) rfl rfl fun K hK=>?_
     obtain ⟨wc,hwc⟩ : ∃ z,w1.drew=z:=⟨_,rfl⟩;have HWc : Aside0 (Below w1.heap.size w1 wc):=⟨by rw [← hwc];exact below_drew1 (Below.refl _ _)⟩;rw [hwc];clear hwc;have q0:=cells5 (blk_below BX.out HWc.out);have q1:=free5 (blk_below BX.out HWc.out);refine skip_ (w1:=?_) (by rfl) rfl ?_ ?_;rotate_left
     ·go_simp
      rfl
     clear q0 q1;refine hK.out _ _ ⟨(cells10 (far5 (blk_below (blk_below HC.out.1 HB1.out) HWc.out) HNP.out _ _ _ _ _)).1,(cells10 (far5 (blk_below (blk_below HC.out.1 HB1.out) HWc.out) HNP.out _ _ _ _ _)).2.1,(cells10 (far5 (blk_below (blk_below HC.out.1 HB1.out) HWc.out) HNP.out _ _ _ _ _)).2.2.1,(cells10 (far5 (blk_below (blk_below HC.out.1 HB1.out) HWc.out) HNP.out _ _ _ _ _)).2.2.2.1,(cells10 (far5 (blk_below (blk_below HC.out.1 HB1.out) HWc.out) HNP.out _ _ _ _ _)).2.2.2.2.1,(cells10 (far5 (blk_below (blk_below HC.out.1 HB1.out) HWc.out) HNP.out _ _ _ _ _)).2.2.2.2.2.2.2.2.2⟩ (fun hHeld=>?_);clear hK K;refine zp 10 7 ?_;refine zp 11 8 ?_;refine zp 12 9 ?_;refine dN ?_;clear hHeld
     go_wp2
     refine bodyPost_ret (results_cttt rfl _ _ w.heap.size 27 _ (0,0) _ rfl (put5 (blk_below BX.out HWc.out) (.int .i64 W) (.int .i64 h) (.int .i64 b) (.slice (some ax) M cx) (.slice (some ax2) M cx2)) Try.underlying27 rfl (by kernel_rfl)) rfl ?_;have hbw : Below w.heap.size w wc:=below_step HB.out.1 (below_step (below_step HS.out.lo HB1.out) HWc.out);have k5 : Tk [3,63,82] wc (set5 wc w.heap.size (.int .i64 W) (.int .i64 h) (.int .i64 b) (.slice (some ax) M cx) (.slice (some ax2) M cx2)):=tk_set5 (blk_below BX.out HWc.out) (by decide) _ _ _ _ _ inferInstance
     have hne : qs≠[]:=fun e=>by
      have h1:=HQ.out.2.2.2.1;rw [e] at h1;have h2:=H0.out;rw [← h1] at h2;exact absurd h2 (by decide)
     refine ⟨low5 (g:=w.heap.size) hbw (Nat.le_refl _) (.int .i64 W) (.int .i64 h) (.int .i64 b) (.slice (some ax) M cx) (.slice (some ax2) M cx2),.inr ⟨HM.out,W,h,b,M,hs,hM,HQ.out.2.2.2.2.2,ax,cx,ax2,cx2,.slice Ad s.done.length cd,by rw [← HT.out.1];rfl,HX.out.1,HX.out.2.1,?_,?_⟩⟩
     ·rw [HQ.out.2.2.2.2.1,← filmOf_all HQ.out.2.2.2.1.symm hne HT.out.2 (fun q hq=>zero_add hM (HQ.out.1 q hq))]
      exact (((HX.out.2.2.1.below HB1.out).below HWc.out).tk (k5.less (by simp))).lower HB.out.1.size
     ·rw [Int.toNat_natCast,← HT.out.1,HOK.out.2.2]
      exact own_weaken (IRow.tk (pw_own_below (pw_own_below HX.out.2.2.2 HB1.out) HWc.out) (k5.less (by simp))) HB.out.1.size
    ·have hnil : s.en Fs.length≠[]:=fun e=>hl0 (by rw [← el,← een,e];rfl)
     obtain ⟨_,r1⟩:=next_ok (picks:=picks) (t:=t) hok hnil
     have hl1 : 0 < l:=by omega
     have hgo:=pick_en (picks:=picks) (t:=t) hnil;unfold PS.pick at hgo;rw [een,el] at hgo;obtain ⟨a,ea⟩ : ∃ a,pickAt picks t l=a:=⟨_,rfl⟩
     have hal : a < l:=by rw [← ea];exact pickAt_lt hl1
     obtain ⟨i,ei⟩ : ∃ i,en.getD a 0=i:=⟨_,rfl⟩;rw [ea,ei] at hgo
     have hik : i < k':=by have:=hok.len;omega
     have HT : Aside0 (t+1≤4 * Fs.length∧PS.after Fs.length k' picks (t+1)=s.step i∧i < s.ws.length∧en.getD a 0=i∧a < en.length):=⟨by omega,by show (PS.after Fs.length k' picks t).next Fs.length picks t=s.step i;rw [es];unfold PS.next PS.pick;rw [een,el,ea,ei],hgo.1,ei,by omega⟩;have cl : ((l : Int) == 0)=false:=beq_eq_false_iff_ne.mpr (by omega);have hc8:=(cells10 hp).2.2.2.2.2.2.2.2.1
     by_cases hp : t < picks.length
     ·have cp1 : decide ((t : Int) < (picks.length : Int))=true:=decide_eq_true (by omega)
      have hpa : (picks.getD t 0 % (l : Int)).toNat=a:=by rw [← ea];unfold pickAt;rw [if_pos hp]
      have hpv:=pick_val (picks.getD t 0) hl1 hen;rw [hpa] at hpv;obtain ⟨p,ep⟩ : ∃ p,picks.getD t 0=p:=⟨_,rfl⟩;rw [ep] at hpv;have HEP:=Aside0.mk ep;have clb : ((l : Int) != 0)=true:=bne_iff_ne.mpr (by omega);clear hok hrest es een el hl0 hnil r1 ht hgo ea ei hpa ep
      go_upto_region 19 with (first
       | (go_at_call 18;(with_reducible refine (enabled2 HC.out.1 HC.out.2.1 HKK.out.2 HC.out.2.2 HEN.out.1 HEN.out.2).mono ?_);rintro e w1 ⟨Ae,cE,rfl,hi,hb⟩;have HB1:=Aside0.mk hb;obtain ⟨g,eg,hga⟩:=IRow.at hi HT.out.2.2.2.2;rw [HT.out.2.2.2.1] at hga;subst eg;obtain ⟨pd,epd,hpd⟩:=Kd.at_int (Kd.C_below (Kd.C_below (Kd.C_below HP.out HB.out.1) HS.out.lo) hb) (t : Int) (by omega) (by omega);subst epd;rw [Int.toNat_natCast,show rd picks (t : Int)=picks.getD t 0 by unfold rd;rw [Int.toNat_natCast],HEP.out] at hpd;replace hc8:=keepc hb hc8;clear hi hb))
      refine sT (n:=11) (S:=fun w'=>w'.cell? ⟨P,8,none⟩=some (.slice (some ⟨Q,0,none⟩) k' k')∧w'.cell? ⟨g,a,none⟩=some (.int .i64 i)) (ds:=[10]) (by kernel_rfl) rfl ⟨hc8,hga⟩ (fun hHeld=>?_);refine with_tabW pool_Play.tab19 pool_Play.bits19 (fun HT_ HW_=>?_);refine zp 0 128 ?_;refine zp 1 129 ?_;refine zp 2 130 ?_;refine zp 3 131 ?_;refine zp 5 133 ?_;refine zp 6 134 ?_;refine zp 7 135 ?_;refine zt 4 132 ?_;refine zt 8 136 ?_;refine zp 9 137 ?_
      refine lN 10 (some 138) rfl rfl fun K hK=>?_
      obtain ⟨wc,hwc⟩ : ∃ z,w1.drew=z:=⟨_,rfl⟩;have HWc : Aside0 (Below wr.heap.size wr wc):=⟨by rw [← hwc];exact below_drew1 HB1.out⟩;rw [hwc];clear hwc;refine goes_ Try.func19 (by kernel_rfl) rfl #[.pointer (some ⟨P,0,none⟩),.pointer (some ⟨Q,i * 2,none⟩)] (by rfl) rfl rfl (by simp only [List.map_toArray,List.map_cons,List.map_nil];rfl) ?_
      with_reducible refine (stepZ (HS.out.below HWc.out) HOK.out.1 HT.out.2.2.1 hs hM (HQ.out.2.1 ▸ Kd.C_below HR.out HB.out.1) HQ.out.2.2.2.1.symm HQ.out.1 (zero_fits hM) (zero_sz M) HQ.out.2.2.1 H1.out).mono ?_
      rintro e w2 ⟨rfl,hps⟩;refine ⟨_,rfl,?_⟩;have HPS:=Aside0.mk hps;clear hps;refine hK.out _ _ ?_;clear hK K;refine nZ ?_;refine dN ?_;clear hHeld
      go_wp2
      have g1:=HT.out.1;have g2:=H1.out
      have g3 : wrap64 ((t : Int)+1)=((t+1 : Nat) : Int):=by unfold wrap64;omega
      clear g2
      go_roundw
      case rel=>exact ⟨t+1,HT.out.1,by rw [g3],⟨by rw [HT.out.2.1];exact HPS.out⟩⟩
      case measure=>rw [g3];clear g3;simp only [intOf,Int.toNat_natCast];omega
     ·have cp1 : decide ((t : Int) < (picks.length : Int))=false:=decide_eq_false (by omega)
      have ha0 : a=0:=by rw [← ea];unfold pickAt;rw [if_neg hp]
      subst ha0;clear hok hrest es een el hl0 hnil r1 ht hgo ea ei
      go_upto_region 19 with (first
       | (go_at_call 18;(with_reducible refine (enabled2 HC.out.1 HC.out.2.1 HKK.out.2 HC.out.2.2 HEN.out.1 HEN.out.2).mono ?_);rintro e w1 ⟨Ae,cE,rfl,hi,hb⟩;have HB1:=Aside0.mk hb;obtain ⟨g,eg,hga⟩:=IRow.at hi HT.out.2.2.2.2;rw [HT.out.2.2.2.1] at hga;subst eg;replace hc8:=keepc hb hc8;clear hi hb))
      refine sT (n:=11) (S:=fun w'=>w'.cell? ⟨P,8,none⟩=some (.slice (some ⟨Q,0,none⟩) k' k')∧w'.cell? ⟨g,0,none⟩=some (.int .i64 i)) (ds:=[10]) (by kernel_rfl) rfl ⟨hc8,hga⟩ (fun hHeld=>?_);refine with_tabW pool_Play.tab19 pool_Play.bits19 (fun HT_ HW_=>?_);refine zp 0 128 ?_;refine zp 1 129 ?_;refine zp 2 130 ?_;refine zp 3 131 ?_;refine zp 5 133 ?_;refine zp 6 134 ?_;refine zp 7 135 ?_;refine zt 4 132 ?_;refine zt 8 136 ?_;refine zp 9 137 ?_
      refine lN 10 (some 138) rfl rfl fun K hK=>?_
      obtain ⟨wc,hwc⟩ : ∃ z,w1.drew=z:=⟨_,rfl⟩;have HWc : Aside0 (Below wr.heap.size wr wc):=⟨by rw [← hwc];exact below_drew1 HB1.out⟩;rw [hwc];clear hwc;refine goes_ Try.func19 (by kernel_rfl) rfl #[.pointer (some ⟨P,0,none⟩),.pointer (some ⟨Q,i * 2,none⟩)] (by rfl) rfl rfl (by simp only [List.map_toArray,List.map_cons,List.map_nil];rfl) ?_
      with_reducible refine (stepZ (HS.out.below HWc.out) HOK.out.1 HT.out.2.2.1 hs hM (HQ.out.2.1 ▸ Kd.C_below HR.out HB.out.1) HQ.out.2.2.2.1.symm HQ.out.1 (zero_fits hM) (zero_sz M) HQ.out.2.2.1 H1.out).mono ?_
      rintro e w2 ⟨rfl,hps⟩;refine ⟨_,rfl,?_⟩;have HPS:=Aside0.mk hps;clear hps;refine hK.out _ _ ?_;clear hK K;refine nZ ?_;refine dN ?_;clear hHeld
      go_wp2
      have g1:=HT.out.1;have g2:=H1.out
      have g3 : wrap64 ((t : Int)+1)=((t+1 : Nat) : Int):=by unfold wrap64;omega
      clear g2
      go_roundw
      case rel=>exact ⟨t+1,HT.out.1,by rw [g3],⟨by rw [HT.out.2.1];exact HPS.out⟩⟩
      case measure=>rw [g3];clear g3;simp only [intOf,Int.toNat_natCast];omega
end Go.Proofs.Ytjiaobcoeegioaa.Pq
end
section
namespace Go.Proofs.Ytjiaobcoeegioaa.Pq
open Go.RowKit Go.Proofs.YtjiaobcoeegioaaW.PrintWords Go.Proofs.YtjiaobcoeegioaaW.PrintLast Go.Proofs.YtjiaobcoeegioaaW.PrintMore Go.Proofs.Ytjiaobcoeegioaa.N
namespace X
def film_Add.T5 : Bool × List (List Nat × List Nat):=(true,[([],[]),([0],[0]),([],[]),([],[]),([3],[3]),([],[]),([],[]),([6],[6]),([],[]),([7,8],[7,8]),([9],[9]),([],[]),([10,11],[10,11]),([12],[12]),([],[]),([14],[14]),([],[]),([15,16],[15,16]),([17],[17]),([],[]),([18,19],[18,19]),([20,13],[20]),([1,2,0,1,2,6,7,8,9,10,11,12,13,18,21],[1,2]),([22,13,21,0,1,2,6,7,8,9,10,11,12,13,18,21],[13,22]),([4,5,0,1,2,3,4,5,6,7,8,9,10,11,12,13,14,15,16,17,18,19,20,21,22,23],[4,5]),([24,21,23,0,1,2,3,4,5,6,7,8,9,10,11,12,13,14,15,16,17,18,19,20,21,22,23],[21,24])])
def film_Add.B5 : List Nat:=[0,1,0,0,8,0,0,64,0,448,960,0,4032,8128,0,16384,0,114688,245760,0,1032192,2097088,4194247,8388551,16777215,33554431]
theorem film_Add.tab5 : rtab .any (opsOf Try.f28 5)=film_Add.T5:=by kernel_rfl
theorem film_Add.bits5 : waitsOk film_Add.T5.2 film_Add.B5=true:=by kernel_rfl
end X
open X
theorem four (w : World) (a b c d : Obj) : Below w.heap.size w ((((w.alloc a).alloc b).alloc c).alloc d)∧((((w.alloc a).alloc b).alloc c).alloc d).heap[w.heap.size]? = some a∧((((w.alloc a).alloc b).alloc c).alloc d).heap[w.heap.size+1]? = some b∧((((w.alloc a).alloc b).alloc c).alloc d).heap[w.heap.size+1+1]? = some c∧((((w.alloc a).alloc b).alloc c).alloc d).heap[w.heap.size+1+1+1]? = some d:=by
 have s1 : (w.alloc a).heap.size=w.heap.size+1:=by simp
 have s2 : ((w.alloc a).alloc b).heap.size=w.heap.size+1+1:=by simp
 have s3 : (((w.alloc a).alloc b).alloc c).heap.size=w.heap.size+1+1+1:=by simp
 refine ⟨below_alloc (below_alloc (below_alloc (below_alloc (Below.refl _ _) _) _) _) _,blk_alloc (blk_alloc (blk_alloc (blk_new _ _) _) _) _,?_,?_,?_⟩
 ·rw [← s1];exact blk_alloc (blk_alloc (blk_new _ _) _) _
 ·rw [← s2];exact blk_alloc (blk_new _ _) _
 ·rw [← s3];exact blk_new _ _
set_option maxHeartbeats 4000000 in
set_option maxRecDepth 100000 in
theorem add_sem {q : QF} {W h b : Int} {M : Nat} (hs : szs W h b=true) (hM : (M : Int)=W * h * b) (hf : q.fits W h b) (hq : q.sz < 10000000) {p r : Rat} (hp : sz1 p < 10000000) (hr : sz1 r < 10000000) {px bin : Int} {i : Nat} (hp0 : 0≤px) (hp1 : px < W * h) (hb0 : 0≤bin) (hb1 : bin < b) (hi : px * b+bin=i) (hiM : i < M) {A3 A4 U1 U2 V1 V2 : Option Addr} {c3 c4 u1 u2 v1 v2 : Nat} {u v : S63} (eu : mkR p=u) (ev : mkR r=v) (w : World) (h3 : Kd.C k63 w A3 M (q.a.map mkR)) (h4 : Kd.C k63 w A4 M (q.b.map mkR)) (hu : XK w u [.bool u.f0,.slice U1 u.f1.length u1,.slice U2 u.f2.length u2]) (hv : XK w v [.bool v.f0,.slice V1 v.f1.length v1,.slice V2 v.f2.length v2]) :
  Calls Try.prog 28 #[.agg #[.int .i64 W,.int .i64 h,.int .i64 b,.slice A3 M c3,.slice A4 M c4],.int .i64 px,.int .i64 bin,.agg #[.bool u.f0,.slice U1 u.f1.length u1,.slice U2 u.f2.length u2],.agg #[.bool v.f0,.slice V1 v.f1.length v1,.slice V2 v.f2.length v2]] w fun e w'=>∃ ad c ad2 c2,e=.returned (.tuple #[.agg #[.int .i64 W,.int .i64 h,.int .i64 b,.slice (some ad) M c,.slice (some ad2) M c2],.bool true])∧M≤c∧M≤c2∧Rows w' w.heap.size ⟨q.a.set i (q.a.getD i 0+p),q.b.set i (q.b.getD i 0+r)⟩ ad c ad2 c2∧Below w.heap.size w w':=by
 have H34:=Aside0.mk (And.intro h3 h4);have HUV:=Aside0.mk (And.intro hu hv);have HF:=Aside0.mk (And.intro hf hq);have HPR:=Aside0.mk (And.intro hp (And.intro hr (And.intro eu ev)));have hpr:=szs_prod hs
 have cw : wrap64 (W * h)=W * h:=by have h1:=hpr.1;have h2:=hpr.2.1;clear hpr;unfold wrap64;omega
 have hpb : 0≤px * b∧px * b≤i:=⟨Int.mul_nonneg hp0 (by omega),by omega⟩
 have hi2 : (i : Int)≤2048:=by have:=hpr.2.2.2;omega
 have cw2 : wrap64 (px * b)=px * b:=by clear hpr cw hM;unfold wrap64;omega
 have cw3 : wrap64 (px * b+bin)=(i : Int):=by rw [hi];clear hpr cw cw2 hM hi;unfold wrap64;omega
 have d1 : decide (px < 0)=false:=decide_eq_false (by omega);have d2 : decide (W * h≤px)=false:=decide_eq_false (by omega);have d3 : decide (bin < 0)=false:=decide_eq_false (by omega);have d4 : decide (b≤bin)=false:=decide_eq_false (by omega);have HM:=Aside0.mk hM;clear h3 h4 hu hv hf hq hpr hpb hi2 hp hr hp0 hp1 hb0 hb1 hi eu ev hM
 go_enter Try.func28,Try.ntmps28
 go_upto_region 1 with fail
 obtain ⟨hB,b5,b8,b9,b10⟩:=four w (.cells #[.int .i64 W,.int .i64 h,.int .i64 b,.slice A3 M c3,.slice A4 M c4] 27) (.cells #[.bool u.f0,.slice U1 u.f1.length u1,.slice U2 u.f2.length u2] 63) (.cells #[.bool v.f0,.slice V1 v.f1.length v1,.slice V2 v.f2.length v2] 63) (.cells #[.int .i64 0,.int .i64 0,.int .i64 0,.slice none 0 0,.slice none 0 0] 27);obtain ⟨w4,hw4⟩ : ∃ z,(((w.alloc (.cells #[.int .i64 W,.int .i64 h,.int .i64 b,.slice A3 M c3,.slice A4 M c4] 27)).alloc (.cells #[.bool u.f0,.slice U1 u.f1.length u1,.slice U2 u.f2.length u2] 63)).alloc (.cells #[.bool v.f0,.slice V1 v.f1.length v1,.slice V2 v.f2.length v2] 63)).alloc (.cells #[.int .i64 0,.int .i64 0,.int .i64 0,.slice none 0 0,.slice none 0 0] 27)=z:=⟨_,rfl⟩;rw [hw4] at hB b5 b8 b9 b10 ⊢;have H4:=Aside0.mk (And.intro (Kd.C_below H34.out.1 hB) (And.intro (Kd.C_below H34.out.2 hB) (And.intro (HUV.out.1.below hB) (HUV.out.2.below hB))));obtain ⟨g10,e10⟩ : ∃ g,w.heap.size+1+1+1=g:=⟨_,rfl⟩;obtain ⟨g9,e9⟩ : ∃ g,w.heap.size+1+1=g:=⟨_,rfl⟩;obtain ⟨g8,e8⟩ : ∃ g,w.heap.size+1=g:=⟨_,rfl⟩;have hl10:=blk_lt b10;have HG:=Aside0.mk (show g8=w.heap.size+1∧g9=w.heap.size+2∧g10=w.heap.size+3∧w.heap.size+4≤w4.heap.size from ⟨by omega,by omega,by omega,by omega⟩);rw [e10] at b10 ⊢;rw [e9] at b9 ⊢;rw [e8] at b8 ⊢;have HB4:=Aside0.mk (And.intro hB (And.intro b5 (And.intro b8 (And.intro b9 b10))));have q0:=cells5 b5;clear hw4 hB b5 b8 b9 b10 e10 e9 e8 hl10 H34 HUV
 go_upto_region 5 with (first
  | (go_at_call 16;(with_reducible refine (checkM hs HM.out HF.out.1 HF.out.2 H4.out.1 H4.out.2.1).mono ?_);rintro e w1 ⟨rfl,hb⟩;have HB1:=Aside0.mk hb;clear q0;have q0:=cells5 (blk_below HB4.out.2.1 hb);clear hb)
  | (go_at_call 26;(with_reducible refine (copiedM hs HM.out HF.out.1 HF.out.2 (Kd.C_below H4.out.1 HB1.out) (Kd.C_below H4.out.2.1 HB1.out)).mono ?_);rintro e w2 ⟨ad,c,ad2,c2,rfl,lc,lc2,hrows,hb⟩;have HB2:=Aside0.mk (below_step HB1.out hb);have HRW:=Aside0.mk (hrows.lower (Nat.le_trans HG.out.2.2.2 HB1.out.size));have HLC:=Aside0.mk (And.intro lc lc2);clear q0;have q0:=cells5 (blk_below HB4.out.2.1 HB2.out);have q1:=free5 (blk_below HB4.out.2.1 HB2.out);clear hb hrows lc lc2))
 rw [cw3];clear q0 q1 cw cw2 cw3 d1 d2 d3 d4;have hbw : Below w.heap.size w w2:=below_step HB4.out.1 HB2.out;have k5 : Tk [3,63,82] w2 (((((w2.setCell ⟨w.heap.size,0,none⟩ (.int .i64 W)).setCell ⟨w.heap.size,1,none⟩ (.int .i64 h)).setCell ⟨w.heap.size,2,none⟩ (.int .i64 b)).setCell ⟨w.heap.size,3,none⟩ (.slice (some ad) M c)).setCell ⟨w.heap.size,4,none⟩ (.slice (some ad2) M c2)):=tk_set5 (blk_below HB4.out.2.1 HB2.out) (by decide) _ _ _ _ _ inferInstance
 have n8 : g8≠w.heap.size:=by have:=HG.out.1;omega
 have n9 : g9≠w.heap.size:=by have:=HG.out.2.1;omega
 have n10 : g10≠w.heap.size:=by have:=HG.out.2.2.1;omega
 have HB : Aside0 (Below w.heap.size w (((((w2.setCell ⟨w.heap.size,0,none⟩ (.int .i64 W)).setCell ⟨w.heap.size,1,none⟩ (.int .i64 h)).setCell ⟨w.heap.size,2,none⟩ (.int .i64 b)).setCell ⟨w.heap.size,3,none⟩ (.slice (some ad) M c)).setCell ⟨w.heap.size,4,none⟩ (.slice (some ad2) M c2))∧(((((w2.setCell ⟨w.heap.size,0,none⟩ (.int .i64 W)).setCell ⟨w.heap.size,1,none⟩ (.int .i64 h)).setCell ⟨w.heap.size,2,none⟩ (.int .i64 b)).setCell ⟨w.heap.size,3,none⟩ (.slice (some ad) M c)).setCell ⟨w.heap.size,4,none⟩ (.slice (some ad2) M c2)).heap[w.heap.size]? = some (.cells #[.int .i64 W,.int .i64 h,.int .i64 b,.slice (some ad) M c,.slice (some ad2) M c2] 27 (0,0))∧(((((w2.setCell ⟨w.heap.size,0,none⟩ (.int .i64 W)).setCell ⟨w.heap.size,1,none⟩ (.int .i64 h)).setCell ⟨w.heap.size,2,none⟩ (.int .i64 b)).setCell ⟨w.heap.size,3,none⟩ (.slice (some ad) M c)).setCell ⟨w.heap.size,4,none⟩ (.slice (some ad2) M c2)).heap[g10]? = some (.cells #[.int .i64 0,.int .i64 0,.int .i64 0,.slice none 0 0,.slice none 0 0] 27 (0,0))):=⟨low5 (g:=w.heap.size) hbw (Nat.le_refl _) _ _ _ _ _,put5 (blk_below HB4.out.2.1 HB2.out) _ _ _ _ _,far5 (blk_below HB4.out.2.2.2.2 HB2.out) n10 _ _ _ _ _⟩;have B8 : (((((w2.setCell ⟨w.heap.size,0,none⟩ (.int .i64 W)).setCell ⟨w.heap.size,1,none⟩ (.int .i64 h)).setCell ⟨w.heap.size,2,none⟩ (.int .i64 b)).setCell ⟨w.heap.size,3,none⟩ (.slice (some ad) M c)).setCell ⟨w.heap.size,4,none⟩ (.slice (some ad2) M c2)).heap[g8]? = some (.cells #[.bool u.f0,.slice U1 u.f1.length u1,.slice U2 u.f2.length u2] 63 (0,0)):=far5 (blk_below HB4.out.2.2.1 HB2.out) n8 _ _ _ _ _
 have B9 : (((((w2.setCell ⟨w.heap.size,0,none⟩ (.int .i64 W)).setCell ⟨w.heap.size,1,none⟩ (.int .i64 h)).setCell ⟨w.heap.size,2,none⟩ (.int .i64 b)).setCell ⟨w.heap.size,3,none⟩ (.slice (some ad) M c)).setCell ⟨w.heap.size,4,none⟩ (.slice (some ad2) M c2)).heap[g9]? = some (.cells #[.bool v.f0,.slice V1 v.f1.length v1,.slice V2 v.f2.length v2] 63 (0,0)):=far5 (blk_below HB4.out.2.2.2.1 HB2.out) n9 _ _ _ _ _;have HO : Aside0 (ORow (((((w2.setCell ⟨w.heap.size,0,none⟩ (.int .i64 W)).setCell ⟨w.heap.size,1,none⟩ (.int .i64 h)).setCell ⟨w.heap.size,2,none⟩ (.int .i64 b)).setCell ⟨w.heap.size,3,none⟩ (.slice (some ad) M c)).setCell ⟨w.heap.size,4,none⟩ (.slice (some ad2) M c2)) (w.heap.size+4) ad c (q.a.map mkR)∧ORow (((((w2.setCell ⟨w.heap.size,0,none⟩ (.int .i64 W)).setCell ⟨w.heap.size,1,none⟩ (.int .i64 h)).setCell ⟨w.heap.size,2,none⟩ (.int .i64 b)).setCell ⟨w.heap.size,3,none⟩ (.slice (some ad) M c)).setCell ⟨w.heap.size,4,none⟩ (.slice (some ad2) M c2)) (w.heap.size+4) ad2 c2 (q.b.map mkR)∧ad.block≠ad2.block):=⟨(HRW.out.tk (k5.less (by simp))).a,(HRW.out.tk (k5.less (by simp))).b,HRW.out.ne⟩;have KU : Aside0 (k63.K (((((w2.setCell ⟨w.heap.size,0,none⟩ (.int .i64 W)).setCell ⟨w.heap.size,1,none⟩ (.int .i64 h)).setCell ⟨w.heap.size,2,none⟩ (.int .i64 b)).setCell ⟨w.heap.size,3,none⟩ (.slice (some ad) M c)).setCell ⟨w.heap.size,4,none⟩ (.slice (some ad2) M c2)) u [.bool u.f0,.slice U1 u.f1.length u1,.slice U2 u.f2.length u2]):=⟨(H4.out.2.2.1.below HB2.out).out _ (k5.less (by simp))⟩
 have KV : Aside0 (k63.K (((((w2.setCell ⟨w.heap.size,0,none⟩ (.int .i64 W)).setCell ⟨w.heap.size,1,none⟩ (.int .i64 h)).setCell ⟨w.heap.size,2,none⟩ (.int .i64 b)).setCell ⟨w.heap.size,3,none⟩ (.slice (some ad) M c)).setCell ⟨w.heap.size,4,none⟩ (.slice (some ad2) M c2)) v [.bool v.f0,.slice V1 v.f1.length v1,.slice V2 v.f2.length v2]):=⟨(H4.out.2.2.2.below HB2.out).out _ (k5.less (by simp))⟩;obtain ⟨wr,hwr⟩ : ∃ z,((((w2.setCell ⟨w.heap.size,0,none⟩ (.int .i64 W)).setCell ⟨w.heap.size,1,none⟩ (.int .i64 h)).setCell ⟨w.heap.size,2,none⟩ (.int .i64 b)).setCell ⟨w.heap.size,3,none⟩ (.slice (some ad) M c)).setCell ⟨w.heap.size,4,none⟩ (.slice (some ad2) M c2)=z:=⟨_,rfl⟩;rw [hwr] at HB B8 B9 HO KU KV ⊢;clear hwr k5 hbw HRW HB1 HB2 H4;obtain ⟨la,lb⟩:=q_len HM.out HF.out.1;rw [List.length_map] at la lb;obtain ⟨K1,k1,K2,k2,a0,a1,a2,hx⟩:=ORow.num HO.out.1 (i:=i) (by omega);obtain ⟨N1,n1,N2,n2,z7,z8,z9,hy⟩:=ORow.num HO.out.2.1 (i:=i) (by omega)
 have e2 : (ad2.add (i * 3)).block≠(ad.add (i * 3)).block:=by
  rw [add_block,add_block]
  exact fun e=>HO.out.2.2 e.symm
 have e1 : w.heap.size≠(ad.add (i * 3)).block:=blk_ne HO.out.1 HB.out.2.1 (by decide) _
 have e8 : g8≠(ad.add (i * 3)).block:=by rw [add_block];have h1:=HO.out.1.from_;have h2:=HG.out.1;omega
 have e9 : g9≠(ad.add (i * 3)).block:=by rw [add_block];have h1:=HO.out.1.from_;have h2:=HG.out.2.1;omega
 have sx : SumTo (mkR (q.a[i]'(by omega))) u (mkR (q.a[i]'(by omega)+p)):=by
  rw [← HPR.out.2.2.1];exact sumR (by have h1:=szL_mem (List.getElem_mem (l:=q.a) (n:=i) (by omega));have h2 : szL q.a≤q.sz:=Nat.le_max_left _ _;have h3:=HF.out.2;omega) HPR.out.1
 have sy : SumTo (mkR (q.b[i]'(by omega))) v (mkR (q.b[i]'(by omega)+r)):=by
  rw [← HPR.out.2.2.2];exact sumR (by have h1:=szL_mem (List.getElem_mem (l:=q.b) (n:=i) (by omega));have h2 : szL q.b≤q.sz:=Nat.le_max_right _ _;have h3:=HF.out.2;omega) HPR.out.2.1
 have na2 : i < (q.a.map mkR).length:=by rw [List.length_map];omega
 have nb2 : i < (q.b.map mkR).length:=by rw [List.length_map];omega
 obtain ⟨x,ex⟩ : ∃ x,mkR (q.a[i]'(by omega))=x:=⟨_,rfl⟩;obtain ⟨y,ey⟩ : ∃ x,mkR (q.b[i]'(by omega))=x:=⟨_,rfl⟩
 have eX0 : q.a.getD i 0=q.a[i]'(by omega):=by rw [List.getD_eq_getElem?_getD,List.getElem?_eq_getElem (by omega)];rfl
 have eY0 : q.b.getD i 0=q.b[i]'(by omega):=by rw [List.getD_eq_getElem?_getD,List.getElem?_eq_getElem (by omega)];rfl
 rw [ex] at a0 a1 a2 hx sx;rw [ey] at z7 z8 z9 hy sy;rw [← eX0] at sx;rw [← eY0] at sy;obtain ⟨X,eX⟩ : ∃ x,mkR (q.a.getD i 0+p)=x:=⟨_,rfl⟩;obtain ⟨Y,eY⟩ : ∃ x,mkR (q.b.getD i 0+r)=x:=⟨_,rfl⟩;rw [eX] at sx;rw [eY] at sy;have FX:=Aside0.mk (And.intro a0 (And.intro a1 a2));have KX:=Aside0.mk hx;have KY:=Aside0.mk hy;have SX:=Aside0.mk sx;have SY:=Aside0.mk sy;have TA:=Aside0.mk (And.intro na2 eX);have TB:=Aside0.mk (And.intro nb2 eY);have NE:=Aside0.mk (And.intro e1 (And.intro e2 (And.intro e8 e9)));have ZZ:=Aside0.mk (show wr.cell? ⟨w.heap.size,3,none⟩=some (.slice (some ad) M c)∧wr.cell? ⟨w.heap.size,4,none⟩=some (.slice (some ad2) M c2)∧wr.cell? ⟨g8,0,none⟩=some (.bool u.f0)∧wr.cell? ⟨g8,1,none⟩=some (.slice U1 u.f1.length u1)∧wr.cell? ⟨g8,2,none⟩=some (.slice U2 u.f2.length u2)∧wr.cell? (ad2.add (i * 3))=some (.bool y.f0)∧wr.cell? ⟨(ad2.add (i * 3)).block,(ad2.add (i * 3)).off+1,none⟩=some (.slice N1 y.f1.length n1)∧wr.cell? ⟨(ad2.add (i * 3)).block,(ad2.add (i * 3)).off+2,none⟩=some (.slice N2 y.f2.length n2)∧wr.cell? ⟨g9,0,none⟩=some (.bool v.f0)∧wr.cell? ⟨g9,1,none⟩=some (.slice V1 v.f1.length v1)∧wr.cell? ⟨g9,2,none⟩=some (.slice V2 v.f2.length v2) from ⟨(cells5 HB.out.2.1).2.2.2.1,(cells5 HB.out.2.1).2.2.2.2,blk_cell B8 0,blk_cell B8 1,blk_cell B8 2,z7,z8,z9,blk_cell B9 0,blk_cell B9 1,blk_cell B9 2⟩);clear a0 a1 a2 hx hy sx sy na2 nb2 e1 e2 e8 e9 z7 z8 z9 ex ey eX eY eX0 eY0 la lb B8 B9 n8 n9 n10;have HW : Aside0 (Below wr.heap.size wr wr.drew):=⟨below_drew1 (Below.refl _ _)⟩
 refine start_ (n:=26) (S:=fun w'=>w'.cell? ⟨w.heap.size,3,none⟩=some (.slice (some ad) M c)∧w'.cell? ⟨w.heap.size,4,none⟩=some (.slice (some ad2) M c2)∧w'.cell? ⟨g8,0,none⟩=some (.bool u.f0)∧w'.cell? ⟨g8,1,none⟩=some (.slice U1 u.f1.length u1)∧w'.cell? ⟨g8,2,none⟩=some (.slice U2 u.f2.length u2)∧w'.cell? (ad2.add (i * 3))=some (.bool y.f0)∧w'.cell? ⟨(ad2.add (i * 3)).block,(ad2.add (i * 3)).off+1,none⟩=some (.slice N1 y.f1.length n1)∧w'.cell? ⟨(ad2.add (i * 3)).block,(ad2.add (i * 3)).off+2,none⟩=some (.slice N2 y.f2.length n2)∧w'.cell? ⟨g9,0,none⟩=some (.bool v.f0)∧w'.cell? ⟨g9,1,none⟩=some (.slice V1 v.f1.length v1)∧w'.cell? ⟨g9,2,none⟩=some (.slice V2 v.f2.length v2)) (ds:=[25]) #[false,false,false,false,false,false,false,false,false,false,false,false,false,false,false,false,false,false,false,false,false,false,false,false,false,false] (by kernel_rfl) rfl rfl ZZ.out (fun hHeld=>?_);refine with_tabW film_Add.tab5 film_Add.bits5 (fun HT_ HW_=>?_);refine zp 0 48 ?_;refine zp 2 50 ?_;refine zp 3 51 ?_;refine zp 5 53 ?_;refine zp 6 54 ?_;refine zp 8 56 ?_;refine zp 14 62 ?_;refine zp 16 64 ?_;refine zt 1 49 ?_;refine zt 4 52 ?_;refine zt 7 55 ?_;refine zp 9 57 ?_;refine zt 11 59 ?_;refine zt 15 63 ?_;refine zp 17 65 ?_;refine zt 18 66 ?_;refine zt 19 67 ?_;refine join_ (σ:=Nat × Nat × Option Addr × Nat × Option Addr × Nat) 5 #[true,true,true,true,true,true,true,true,true,true,true,true,true,true,true,true,true,true,true,true,true,false,false,false,false,false] (fun s_=>[(58,.agg #[.bool x.f0,.slice K1 x.f1.length k1,.slice K2 x.f2.length k2]),(60,.slice (some ⟨s_.1,0,none⟩) 2 2),(61,.agg #[.bool X.f0,.slice s_.2.2.1 X.f1.length s_.2.2.2.1,.slice s_.2.2.2.2.1 X.f2.length s_.2.2.2.2.2]),(68,.slice (some ⟨s_.2.1,0,none⟩) 2 2)]) (fun s_ w'=>(w'.cell? ⟨w.heap.size,3,none⟩=some (.slice (some ad) M c)∧w'.cell? ⟨w.heap.size,4,none⟩=some (.slice (some ad2) M c2)∧w'.cell? ⟨g8,0,none⟩=some (.bool u.f0)∧w'.cell? ⟨g8,1,none⟩=some (.slice U1 u.f1.length u1)∧w'.cell? ⟨g8,2,none⟩=some (.slice U2 u.f2.length u2)∧w'.cell? (ad2.add (i * 3))=some (.bool y.f0)∧w'.cell? ⟨(ad2.add (i * 3)).block,(ad2.add (i * 3)).off+1,none⟩=some (.slice N1 y.f1.length n1)∧w'.cell? ⟨(ad2.add (i * 3)).block,(ad2.add (i * 3)).off+2,none⟩=some (.slice N2 y.f2.length n2)∧w'.cell? ⟨g9,0,none⟩=some (.bool v.f0)∧w'.cell? ⟨g9,1,none⟩=some (.slice V1 v.f1.length v1)∧w'.cell? ⟨g9,2,none⟩=some (.slice V2 v.f2.length v2))∧Below wr.heap.size wr w'∧XK w' X [.bool X.f0,.slice s_.2.2.1 X.f1.length s_.2.2.2.1,.slice s_.2.2.2.2.1 X.f2.length s_.2.2.2.2.2]∧Kd.C k63 w' (some ⟨s_.2.1,0,none⟩) 2 [y,v]) ?_ ?_
 rotate_left
 ·intro hCont
  refine two_ (i:=10) (j:=20) (Ni:=some 58) (Nj:=some 68) #[true,true,true,true,true,true,true,true,true,true,true,true,false,false,true,true,true,true,true,true,false,false,false,false,false,false] #[true,true,true,true,true,true,true,true,true,true,false,true,false,false,true,true,true,true,true,true,true,false,false,false,false,false] rfl rfl rfl rfl (two_of HT_.out (by kernel_rfl)) (by decide) (by decide) (fun K hK=>?_) (fun K hK=>?_)
  ·skip
   try (obtain ⟨wc,hwc⟩ : ∃ z,wr.drew=z:=⟨_,rfl⟩;rw [hwc] at HW ⊢;clear hwc)
   have q0:=keepc HW.out FX.out.1;have q1:=keepc HW.out FX.out.2.1;have q2:=keepc HW.out FX.out.2.2;refine value_ (w1:=?_) (v:=?_) (by rfl) rfl ?_ ?_;rotate_left 2
   ·go_simp
    constructor
    ·rfl
    ·rfl
   clear q0 q1 q2;refine hK.out _ _ (kE HW.out ZZ.out) (fun hHeld=>?_);clear hK K;refine nZ ?_;refine two_ (i:=12) (j:=20) (Ni:=some 60) (Nj:=some 68) #[true,true,true,true,true,true,true,true,true,true,true,true,true,false,true,true,true,true,true,true,false,false,false,false,false,false] #[true,true,true,true,true,true,true,true,true,true,true,true,false,false,true,true,true,true,true,true,true,false,false,false,false,false] rfl rfl rfl rfl (two_of HT_.out (by kernel_rfl)) (by decide) (by decide) (fun K hK=>?_) (fun K hK=>?_)
   ·skip
    try (obtain ⟨wc,hwc⟩ : ∃ z,wr.drew=z:=⟨_,rfl⟩;rw [hwc] at HW ⊢;clear hwc)
    refine value_ (w1:=?_) (v:=?_) (by rfl) rfl ?_ ?_;rotate_left 2
    ·go_simp
     constructor
     ·rfl
     ·rfl
    obtain ⟨ga,hga⟩ : ∃ g,wc.heap.size=g:=⟨_,rfl⟩;have H16 : Aside0 (Kd.C k63 (wc.alloc (.cells #[.bool x.f0,.slice K1 x.f1.length k1,.slice K2 x.f2.length k2,.bool u.f0,.slice U1 u.f1.length u1,.slice U2 u.f2.length u2] 63)) (some ⟨ga,0,none⟩) 2 [x,u]):=⟨by rw [← hga];exact pair_lit (k63.K_below HW.out KX.out) (k63.K_below HW.out KU.out)⟩;rw [hga];clear hga;have HA_ : Below wc.heap.size wc (wc.alloc (.cells #[.bool x.f0,.slice K1 x.f1.length k1,.slice K2 x.f2.length k2,.bool u.f0,.slice U1 u.f1.length u1,.slice U2 u.f2.length u2] 63)):=below_alloc (Below.refl _ _) _;replace HW:=Aside0.mk (below_step HW.out HA_)
    try replace H28:=Aside0.mk (Kd.C_below H28.out HA_)
    obtain ⟨wc,hwd⟩ : ∃ wd,wc.alloc (.cells #[.bool x.f0,.slice K1 x.f1.length k1,.slice K2 x.f2.length k2,.bool u.f0,.slice U1 u.f1.length u1,.slice U2 u.f2.length u2] 63)=wd:=⟨_,rfl⟩;rw [hwd] at HW H16 ⊢
    try rw [hwd] at H28
    clear HA_ hwd;refine hK.out _ _ (kE HW.out ZZ.out) (fun hHeld=>?_);clear hK K;refine nZ ?_;refine two_ (i:=13) (j:=20) (Ni:=some 61) (Nj:=some 68) #[true,true,true,true,true,true,true,true,true,true,true,true,true,true,true,true,true,true,true,true,false,false,false,false,false,false] #[true,true,true,true,true,true,true,true,true,true,true,true,true,false,true,true,true,true,true,true,true,false,false,false,false,false] rfl rfl rfl rfl (two_of HT_.out (by kernel_rfl)) (by decide) (by decide) (fun K hK=>?_) (fun K hK=>?_)
    ·skip
     try (obtain ⟨wc,hwc⟩ : ∃ z,wr.drew=z:=⟨_,rfl⟩;rw [hwc] at HW ⊢;clear hwc)
     refine goes_ Try.func27 (by kernel_rfl) rfl #[.slice (some ⟨ga,0,none⟩) 2 2] (by rfl) rfl rfl (by simp only [List.map_toArray,List.map_cons,List.map_nil];rfl) ?_
     with_reducible refine (SX.out.go H16.out).mono ?_
     rintro e wc ⟨P1,p1,P2,p2,rfl,hxk,hb⟩;refine ⟨_,rfl,?_⟩;have H17:=Aside0.mk hxk;replace HW:=Aside0.mk (below_step HW.out hb)
     try replace H28:=Aside0.mk (Kd.C_below H28.out hb)
     clear hxk hb;refine hK.out _ _ (kE HW.out ZZ.out) (fun hHeld=>?_);clear hK K;refine nZ ?_
     refine oN 20 (some 68) rfl rfl fun K hK=>?_
     try (obtain ⟨wc,hwc⟩ : ∃ z,wr.drew=z:=⟨_,rfl⟩;rw [hwc] at HW ⊢;clear hwc)
     refine value_ (w1:=?_) (v:=?_) (by rfl) rfl ?_ ?_;rotate_left 2
     ·go_simp
      constructor
      ·rfl
      ·rfl
     obtain ⟨gb,hga⟩ : ∃ g,wc.heap.size=g:=⟨_,rfl⟩;have H28 : Aside0 (Kd.C k63 (wc.alloc (.cells #[.bool y.f0,.slice N1 y.f1.length n1,.slice N2 y.f2.length n2,.bool v.f0,.slice V1 v.f1.length v1,.slice V2 v.f2.length v2] 63)) (some ⟨gb,0,none⟩) 2 [y,v]):=⟨by rw [← hga];exact pair_lit (k63.K_below HW.out KY.out) (k63.K_below HW.out KV.out)⟩;rw [hga];clear hga;have HA_ : Below wc.heap.size wc (wc.alloc (.cells #[.bool y.f0,.slice N1 y.f1.length n1,.slice N2 y.f2.length n2,.bool v.f0,.slice V1 v.f1.length v1,.slice V2 v.f2.length v2] 63)):=below_alloc (Below.refl _ _) _;replace HW:=Aside0.mk (below_step HW.out HA_)
     try replace H16:=Aside0.mk (Kd.C_below H16.out HA_)
     try replace H17:=Aside0.mk (H17.out.below HA_)
     obtain ⟨wc,hwd⟩ : ∃ wd,wc.alloc (.cells #[.bool y.f0,.slice N1 y.f1.length n1,.slice N2 y.f2.length n2,.bool v.f0,.slice V1 v.f1.length v1,.slice V2 v.f2.length v2] 63)=wd:=⟨_,rfl⟩;rw [hwd] at HW H28 ⊢
     try rw [hwd] at H16
     try rw [hwd] at H17
     clear HA_ hwd;refine hK.out _ _ (kE HW.out ZZ.out) (fun hHeld=>?_);clear hK K;refine nZ ?_;exact norm_ (by simp only [putAll,Act.put,s0,s1,s2]) (hCont (ga,gb,P1,p1,P2,p2) _ ⟨hHeld,HW.out,H17.out,H28.out⟩)
    ·skip
     try (obtain ⟨wc,hwc⟩ : ∃ z,wr.drew=z:=⟨_,rfl⟩;rw [hwc] at HW ⊢;clear hwc)
     refine value_ (w1:=?_) (v:=?_) (by rfl) rfl ?_ ?_;rotate_left 2
     ·go_simp
      constructor
      ·rfl
      ·rfl
     obtain ⟨gb,hga⟩ : ∃ g,wc.heap.size=g:=⟨_,rfl⟩;have H28 : Aside0 (Kd.C k63 (wc.alloc (.cells #[.bool y.f0,.slice N1 y.f1.length n1,.slice N2 y.f2.length n2,.bool v.f0,.slice V1 v.f1.length v1,.slice V2 v.f2.length v2] 63)) (some ⟨gb,0,none⟩) 2 [y,v]):=⟨by rw [← hga];exact pair_lit (k63.K_below HW.out KY.out) (k63.K_below HW.out KV.out)⟩;rw [hga];clear hga;have HA_ : Below wc.heap.size wc (wc.alloc (.cells #[.bool y.f0,.slice N1 y.f1.length n1,.slice N2 y.f2.length n2,.bool v.f0,.slice V1 v.f1.length v1,.slice V2 v.f2.length v2] 63)):=below_alloc (Below.refl _ _) _;replace HW:=Aside0.mk (below_step HW.out HA_)
     try replace H16:=Aside0.mk (Kd.C_below H16.out HA_)
     try replace H17:=Aside0.mk (H17.out.below HA_)
     obtain ⟨wc,hwd⟩ : ∃ wd,wc.alloc (.cells #[.bool y.f0,.slice N1 y.f1.length n1,.slice N2 y.f2.length n2,.bool v.f0,.slice V1 v.f1.length v1,.slice V2 v.f2.length v2] 63)=wd:=⟨_,rfl⟩;rw [hwd] at HW H28 ⊢
     try rw [hwd] at H16
     try rw [hwd] at H17
     clear HA_ hwd;refine hK.out _ _ (kE HW.out ZZ.out) (fun hHeld=>?_);clear hK K;refine nZ ?_
     refine oN 13 (some 61) rfl rfl fun K hK=>?_
     try (obtain ⟨wc,hwc⟩ : ∃ z,wr.drew=z:=⟨_,rfl⟩;rw [hwc] at HW ⊢;clear hwc)
     refine goes_ Try.func27 (by kernel_rfl) rfl #[.slice (some ⟨ga,0,none⟩) 2 2] (by rfl) rfl rfl (by simp only [List.map_toArray,List.map_cons,List.map_nil];rfl) ?_
     with_reducible refine (SX.out.go H16.out).mono ?_
     rintro e wc ⟨P1,p1,P2,p2,rfl,hxk,hb⟩;refine ⟨_,rfl,?_⟩;have H17:=Aside0.mk hxk;replace HW:=Aside0.mk (below_step HW.out hb)
     try replace H28:=Aside0.mk (Kd.C_below H28.out hb)
     clear hxk hb;refine hK.out _ _ (kE HW.out ZZ.out) (fun hHeld=>?_);clear hK K;refine nZ ?_;exact norm_ (by simp only [putAll,Act.put,s0,s1,s2]) (hCont (ga,gb,P1,p1,P2,p2) _ ⟨hHeld,HW.out,H17.out,H28.out⟩)
   ·skip
    try (obtain ⟨wc,hwc⟩ : ∃ z,wr.drew=z:=⟨_,rfl⟩;rw [hwc] at HW ⊢;clear hwc)
    refine value_ (w1:=?_) (v:=?_) (by rfl) rfl ?_ ?_;rotate_left 2
    ·go_simp
     constructor
     ·rfl
     ·rfl
    obtain ⟨gb,hga⟩ : ∃ g,wc.heap.size=g:=⟨_,rfl⟩;have H28 : Aside0 (Kd.C k63 (wc.alloc (.cells #[.bool y.f0,.slice N1 y.f1.length n1,.slice N2 y.f2.length n2,.bool v.f0,.slice V1 v.f1.length v1,.slice V2 v.f2.length v2] 63)) (some ⟨gb,0,none⟩) 2 [y,v]):=⟨by rw [← hga];exact pair_lit (k63.K_below HW.out KY.out) (k63.K_below HW.out KV.out)⟩;rw [hga];clear hga;have HA_ : Below wc.heap.size wc (wc.alloc (.cells #[.bool y.f0,.slice N1 y.f1.length n1,.slice N2 y.f2.length n2,.bool v.f0,.slice V1 v.f1.length v1,.slice V2 v.f2.length v2] 63)):=below_alloc (Below.refl _ _) _;replace HW:=Aside0.mk (below_step HW.out HA_)
    try replace H16:=Aside0.mk (Kd.C_below H16.out HA_)
    try replace H17:=Aside0.mk (H17.out.below HA_)
    obtain ⟨wc,hwd⟩ : ∃ wd,wc.alloc (.cells #[.bool y.f0,.slice N1 y.f1.length n1,.slice N2 y.f2.length n2,.bool v.f0,.slice V1 v.f1.length v1,.slice V2 v.f2.length v2] 63)=wd:=⟨_,rfl⟩;rw [hwd] at HW H28 ⊢
    try rw [hwd] at H16
    try rw [hwd] at H17
    clear HA_ hwd;refine hK.out _ _ (kE HW.out ZZ.out) (fun hHeld=>?_);clear hK K;refine nZ ?_
    refine oN 12 (some 60) rfl rfl fun K hK=>?_
    try (obtain ⟨wc,hwc⟩ : ∃ z,wr.drew=z:=⟨_,rfl⟩;rw [hwc] at HW ⊢;clear hwc)
    refine value_ (w1:=?_) (v:=?_) (by rfl) rfl ?_ ?_;rotate_left 2
    ·go_simp
     constructor
     ·rfl
     ·rfl
    obtain ⟨ga,hga⟩ : ∃ g,wc.heap.size=g:=⟨_,rfl⟩;have H16 : Aside0 (Kd.C k63 (wc.alloc (.cells #[.bool x.f0,.slice K1 x.f1.length k1,.slice K2 x.f2.length k2,.bool u.f0,.slice U1 u.f1.length u1,.slice U2 u.f2.length u2] 63)) (some ⟨ga,0,none⟩) 2 [x,u]):=⟨by rw [← hga];exact pair_lit (k63.K_below HW.out KX.out) (k63.K_below HW.out KU.out)⟩;rw [hga];clear hga;have HA_ : Below wc.heap.size wc (wc.alloc (.cells #[.bool x.f0,.slice K1 x.f1.length k1,.slice K2 x.f2.length k2,.bool u.f0,.slice U1 u.f1.length u1,.slice U2 u.f2.length u2] 63)):=below_alloc (Below.refl _ _) _;replace HW:=Aside0.mk (below_step HW.out HA_)
    try replace H28:=Aside0.mk (Kd.C_below H28.out HA_)
    obtain ⟨wc,hwd⟩ : ∃ wd,wc.alloc (.cells #[.bool x.f0,.slice K1 x.f1.length k1,.slice K2 x.f2.length k2,.bool u.f0,.slice U1 u.f1.length u1,.slice U2 u.f2.length u2] 63)=wd:=⟨_,rfl⟩;rw [hwd] at HW H16 ⊢
    try rw [hwd] at H28
    clear HA_ hwd;refine hK.out _ _ (kE HW.out ZZ.out) (fun hHeld=>?_);clear hK K;refine nZ ?_
    refine oN 13 (some 61) rfl rfl fun K hK=>?_
    try (obtain ⟨wc,hwc⟩ : ∃ z,wr.drew=z:=⟨_,rfl⟩;rw [hwc] at HW ⊢;clear hwc)
    refine goes_ Try.func27 (by kernel_rfl) rfl #[.slice (some ⟨ga,0,none⟩) 2 2] (by rfl) rfl rfl (by simp only [List.map_toArray,List.map_cons,List.map_nil];rfl) ?_
    with_reducible refine (SX.out.go H16.out).mono ?_
    rintro e wc ⟨P1,p1,P2,p2,rfl,hxk,hb⟩;refine ⟨_,rfl,?_⟩;have H17:=Aside0.mk hxk;replace HW:=Aside0.mk (below_step HW.out hb)
    try replace H28:=Aside0.mk (Kd.C_below H28.out hb)
    clear hxk hb;refine hK.out _ _ (kE HW.out ZZ.out) (fun hHeld=>?_);clear hK K;refine nZ ?_;exact norm_ (by simp only [putAll,Act.put,s0,s1,s2]) (hCont (ga,gb,P1,p1,P2,p2) _ ⟨hHeld,HW.out,H17.out,H28.out⟩)
  ·skip
   try (obtain ⟨wc,hwc⟩ : ∃ z,wr.drew=z:=⟨_,rfl⟩;rw [hwc] at HW ⊢;clear hwc)
   refine value_ (w1:=?_) (v:=?_) (by rfl) rfl ?_ ?_;rotate_left 2
   ·go_simp
    constructor
    ·rfl
    ·rfl
   obtain ⟨gb,hga⟩ : ∃ g,wc.heap.size=g:=⟨_,rfl⟩;have H28 : Aside0 (Kd.C k63 (wc.alloc (.cells #[.bool y.f0,.slice N1 y.f1.length n1,.slice N2 y.f2.length n2,.bool v.f0,.slice V1 v.f1.length v1,.slice V2 v.f2.length v2] 63)) (some ⟨gb,0,none⟩) 2 [y,v]):=⟨by rw [← hga];exact pair_lit (k63.K_below HW.out KY.out) (k63.K_below HW.out KV.out)⟩;rw [hga];clear hga;have HA_ : Below wc.heap.size wc (wc.alloc (.cells #[.bool y.f0,.slice N1 y.f1.length n1,.slice N2 y.f2.length n2,.bool v.f0,.slice V1 v.f1.length v1,.slice V2 v.f2.length v2] 63)):=below_alloc (Below.refl _ _) _;replace HW:=Aside0.mk (below_step HW.out HA_)
   try replace H16:=Aside0.mk (Kd.C_below H16.out HA_)
   try replace H17:=Aside0.mk (H17.out.below HA_)
   obtain ⟨wc,hwd⟩ : ∃ wd,wc.alloc (.cells #[.bool y.f0,.slice N1 y.f1.length n1,.slice N2 y.f2.length n2,.bool v.f0,.slice V1 v.f1.length v1,.slice V2 v.f2.length v2] 63)=wd:=⟨_,rfl⟩;rw [hwd] at HW H28 ⊢
   try rw [hwd] at H16
   try rw [hwd] at H17
   clear HA_ hwd;refine hK.out _ _ (kE HW.out ZZ.out) (fun hHeld=>?_);clear hK K;refine nZ ?_
   refine oN 10 (some 58) rfl rfl fun K hK=>?_
   try (obtain ⟨wc,hwc⟩ : ∃ z,wr.drew=z:=⟨_,rfl⟩;rw [hwc] at HW ⊢;clear hwc)
   have q0:=keepc HW.out FX.out.1;have q1:=keepc HW.out FX.out.2.1;have q2:=keepc HW.out FX.out.2.2;refine value_ (w1:=?_) (v:=?_) (by rfl) rfl ?_ ?_;rotate_left 2
   ·go_simp
    constructor
    ·rfl
    ·rfl
   clear q0 q1 q2;refine hK.out _ _ (kE HW.out ZZ.out) (fun hHeld=>?_);clear hK K;refine nZ ?_
   refine oN 12 (some 60) rfl rfl fun K hK=>?_
   try (obtain ⟨wc,hwc⟩ : ∃ z,wr.drew=z:=⟨_,rfl⟩;rw [hwc] at HW ⊢;clear hwc)
   refine value_ (w1:=?_) (v:=?_) (by rfl) rfl ?_ ?_;rotate_left 2
   ·go_simp
    constructor
    ·rfl
    ·rfl
   obtain ⟨ga,hga⟩ : ∃ g,wc.heap.size=g:=⟨_,rfl⟩;have H16 : Aside0 (Kd.C k63 (wc.alloc (.cells #[.bool x.f0,.slice K1 x.f1.length k1,.slice K2 x.f2.length k2,.bool u.f0,.slice U1 u.f1.length u1,.slice U2 u.f2.length u2] 63)) (some ⟨ga,0,none⟩) 2 [x,u]):=⟨by rw [← hga];exact pair_lit (k63.K_below HW.out KX.out) (k63.K_below HW.out KU.out)⟩;rw [hga];clear hga;have HA_ : Below wc.heap.size wc (wc.alloc (.cells #[.bool x.f0,.slice K1 x.f1.length k1,.slice K2 x.f2.length k2,.bool u.f0,.slice U1 u.f1.length u1,.slice U2 u.f2.length u2] 63)):=below_alloc (Below.refl _ _) _;replace HW:=Aside0.mk (below_step HW.out HA_)
   try replace H28:=Aside0.mk (Kd.C_below H28.out HA_)
   obtain ⟨wc,hwd⟩ : ∃ wd,wc.alloc (.cells #[.bool x.f0,.slice K1 x.f1.length k1,.slice K2 x.f2.length k2,.bool u.f0,.slice U1 u.f1.length u1,.slice U2 u.f2.length u2] 63)=wd:=⟨_,rfl⟩;rw [hwd] at HW H16 ⊢
   try rw [hwd] at H28
   clear HA_ hwd;refine hK.out _ _ (kE HW.out ZZ.out) (fun hHeld=>?_);clear hK K;refine nZ ?_
   refine oN 13 (some 61) rfl rfl fun K hK=>?_
   try (obtain ⟨wc,hwc⟩ : ∃ z,wr.drew=z:=⟨_,rfl⟩;rw [hwc] at HW ⊢;clear hwc)
   refine goes_ Try.func27 (by kernel_rfl) rfl #[.slice (some ⟨ga,0,none⟩) 2 2] (by rfl) rfl rfl (by simp only [List.map_toArray,List.map_cons,List.map_nil];rfl) ?_
   with_reducible refine (SX.out.go H16.out).mono ?_
   rintro e wc ⟨P1,p1,P2,p2,rfl,hxk,hb⟩;refine ⟨_,rfl,?_⟩;have H17:=Aside0.mk hxk;replace HW:=Aside0.mk (below_step HW.out hb)
   try replace H28:=Aside0.mk (Kd.C_below H28.out hb)
   clear hxk hb;refine hK.out _ _ (kE HW.out ZZ.out) (fun hHeld=>?_);clear hK K;refine nZ ?_;exact norm_ (by simp only [putAll,Act.put,s0,s1,s2]) (hCont (ga,gb,P1,p1,P2,p2) _ ⟨hHeld,HW.out,H17.out,H28.out⟩)
 rintro ⟨ga,gb,P1,p1,P2,p2⟩ wc ⟨hHeld,h1,h2,h3⟩;replace HW:=Aside0.mk h1;have H17:=Aside0.mk h2;have H28:=Aside0.mk h3;clear h1 h2 h3;refine norm_ (a':=?_) ?_ ?_;rotate_left
 ·simp only [putAll,Act.put,s0,s1,s2]
  rfl
 refine oN 21 (some 69) rfl rfl fun K hK=>?_
 refine goes_ Try.func27 (by kernel_rfl) rfl #[.slice (some ⟨gb,0,none⟩) 2 2] (by rfl) rfl rfl (by simp only [List.map_toArray,List.map_cons,List.map_nil];rfl) ?_
 with_reducible refine (SY.out.go H28.out).mono ?_
 rintro e wc ⟨Q1,q1,Q2,q2,rfl,hxk,hb⟩;refine ⟨_,rfl,?_⟩;have H29:=Aside0.mk hxk;replace HW:=Aside0.mk (below_step HW.out hb);replace H17:=Aside0.mk (H17.out.below hb);clear hxk hb H28;clear hHeld;refine hK.out _ _ (kE HW.out ZZ.out) (fun hHeld=>?_);clear hK K;refine nZ ?_;refine zp 22 70 ?_
 refine oN 23 (none) rfl rfl fun K hK=>?_
 have q0:=keepc HW.out FX.out.1;have q1:=keepc HW.out FX.out.2.1;have q2:=keepc HW.out FX.out.2.2;have q3:=(HO.out.1.below HW.out).free (i * 3);have q4:=next_cells (a:=.bool X.f0) (b:=.slice P1 X.f1.length p1) q1 q2;refine skip_ (w1:=?_) (by rfl) rfl ?_ ?_;rotate_left
 ·go_simp
  rfl
 clear q0 q1 q2 q3 q4;have HB2 : Aside0 (Below w.heap.size w (((wc.setCell (ad.add (i * 3)) (.bool X.f0)).setCell ⟨(ad.add (i * 3)).block,(ad.add (i * 3)).off+1,none⟩ (.slice P1 X.f1.length p1)).setCell ⟨(ad.add (i * 3)).block,(ad.add (i * 3)).off+2,none⟩ (.slice P2 X.f2.length p2))∧(((wc.setCell (ad.add (i * 3)) (.bool X.f0)).setCell ⟨(ad.add (i * 3)).block,(ad.add (i * 3)).off+1,none⟩ (.slice P1 X.f1.length p1)).setCell ⟨(ad.add (i * 3)).block,(ad.add (i * 3)).off+2,none⟩ (.slice P2 X.f2.length p2)).heap[w.heap.size]? = some (.cells #[.int .i64 W,.int .i64 h,.int .i64 b,.slice (some ad) M c,.slice (some ad2) M c2] 27 (0,0))∧(((wc.setCell (ad.add (i * 3)) (.bool X.f0)).setCell ⟨(ad.add (i * 3)).block,(ad.add (i * 3)).off+1,none⟩ (.slice P1 X.f1.length p1)).setCell ⟨(ad.add (i * 3)).block,(ad.add (i * 3)).off+2,none⟩ (.slice P2 X.f2.length p2)).heap[g10]? = some (.cells #[.int .i64 0,.int .i64 0,.int .i64 0,.slice none 0 0,.slice none 0 0] 27 (0,0))):=⟨low_st3 (below_step HB.out.1 HW.out) (by rw [add_block];exact Nat.le_trans (Nat.le_add_right _ 4) HO.out.1.from_) _ _ _,blk_st3 (blk_below HB.out.2.1 HW.out) NE.out.1,blk_st3 (blk_below HB.out.2.2 HW.out) (blk_ne HO.out.1 HB.out.2.2 (by decide) _)⟩;have HO2 : Aside0 (ORow (((wc.setCell (ad.add (i * 3)) (.bool X.f0)).setCell ⟨(ad.add (i * 3)).block,(ad.add (i * 3)).off+1,none⟩ (.slice P1 X.f1.length p1)).setCell ⟨(ad.add (i * 3)).block,(ad.add (i * 3)).off+2,none⟩ (.slice P2 X.f2.length p2)) (w.heap.size+4) ad c ((q.a.map mkR).set i X)∧ORow (((wc.setCell (ad.add (i * 3)) (.bool X.f0)).setCell ⟨(ad.add (i * 3)).block,(ad.add (i * 3)).off+1,none⟩ (.slice P1 X.f1.length p1)).setCell ⟨(ad.add (i * 3)).block,(ad.add (i * 3)).off+2,none⟩ (.slice P2 X.f2.length p2)) (w.heap.size+4) ad2 c2 (q.b.map mkR)∧XK (((wc.setCell (ad.add (i * 3)) (.bool X.f0)).setCell ⟨(ad.add (i * 3)).block,(ad.add (i * 3)).off+1,none⟩ (.slice P1 X.f1.length p1)).setCell ⟨(ad.add (i * 3)).block,(ad.add (i * 3)).off+2,none⟩ (.slice P2 X.f2.length p2)) Y [.bool Y.f0,.slice Q1 Y.f1.length q1,.slice Q2 Y.f2.length q2]):=⟨(HO.out.1.below HW.out).store TA.out.1 H17.out,(HO.out.2.1.below HW.out).beside (HO.out.1.below HW.out) HO.out.2.2 i _ _ _,XK.st3 H29.out (HO.out.1.below HW.out) (i * 3) _ _ _⟩
 have HH : Aside0 ((((wc.setCell (ad.add (i * 3)) (.bool X.f0)).setCell ⟨(ad.add (i * 3)).block,(ad.add (i * 3)).off+1,none⟩ (.slice P1 X.f1.length p1)).setCell ⟨(ad.add (i * 3)).block,(ad.add (i * 3)).off+2,none⟩ (.slice P2 X.f2.length p2)).cell? ⟨w.heap.size,3,none⟩=some (.slice (some ad) M c)∧(((wc.setCell (ad.add (i * 3)) (.bool X.f0)).setCell ⟨(ad.add (i * 3)).block,(ad.add (i * 3)).off+1,none⟩ (.slice P1 X.f1.length p1)).setCell ⟨(ad.add (i * 3)).block,(ad.add (i * 3)).off+2,none⟩ (.slice P2 X.f2.length p2)).cell? ⟨w.heap.size,4,none⟩=some (.slice (some ad2) M c2)∧(((wc.setCell (ad.add (i * 3)) (.bool X.f0)).setCell ⟨(ad.add (i * 3)).block,(ad.add (i * 3)).off+1,none⟩ (.slice P1 X.f1.length p1)).setCell ⟨(ad.add (i * 3)).block,(ad.add (i * 3)).off+2,none⟩ (.slice P2 X.f2.length p2)).cell? ⟨g8,0,none⟩=some (.bool u.f0)∧(((wc.setCell (ad.add (i * 3)) (.bool X.f0)).setCell ⟨(ad.add (i * 3)).block,(ad.add (i * 3)).off+1,none⟩ (.slice P1 X.f1.length p1)).setCell ⟨(ad.add (i * 3)).block,(ad.add (i * 3)).off+2,none⟩ (.slice P2 X.f2.length p2)).cell? ⟨g8,1,none⟩=some (.slice U1 u.f1.length u1)∧(((wc.setCell (ad.add (i * 3)) (.bool X.f0)).setCell ⟨(ad.add (i * 3)).block,(ad.add (i * 3)).off+1,none⟩ (.slice P1 X.f1.length p1)).setCell ⟨(ad.add (i * 3)).block,(ad.add (i * 3)).off+2,none⟩ (.slice P2 X.f2.length p2)).cell? ⟨g8,2,none⟩=some (.slice U2 u.f2.length u2)∧(((wc.setCell (ad.add (i * 3)) (.bool X.f0)).setCell ⟨(ad.add (i * 3)).block,(ad.add (i * 3)).off+1,none⟩ (.slice P1 X.f1.length p1)).setCell ⟨(ad.add (i * 3)).block,(ad.add (i * 3)).off+2,none⟩ (.slice P2 X.f2.length p2)).cell? (ad2.add (i * 3))=some (.bool y.f0)∧(((wc.setCell (ad.add (i * 3)) (.bool X.f0)).setCell ⟨(ad.add (i * 3)).block,(ad.add (i * 3)).off+1,none⟩ (.slice P1 X.f1.length p1)).setCell ⟨(ad.add (i * 3)).block,(ad.add (i * 3)).off+2,none⟩ (.slice P2 X.f2.length p2)).cell? ⟨(ad2.add (i * 3)).block,(ad2.add (i * 3)).off+1,none⟩=some (.slice N1 y.f1.length n1)∧(((wc.setCell (ad.add (i * 3)) (.bool X.f0)).setCell ⟨(ad.add (i * 3)).block,(ad.add (i * 3)).off+1,none⟩ (.slice P1 X.f1.length p1)).setCell ⟨(ad.add (i * 3)).block,(ad.add (i * 3)).off+2,none⟩ (.slice P2 X.f2.length p2)).cell? ⟨(ad2.add (i * 3)).block,(ad2.add (i * 3)).off+2,none⟩=some (.slice N2 y.f2.length n2)∧(((wc.setCell (ad.add (i * 3)) (.bool X.f0)).setCell ⟨(ad.add (i * 3)).block,(ad.add (i * 3)).off+1,none⟩ (.slice P1 X.f1.length p1)).setCell ⟨(ad.add (i * 3)).block,(ad.add (i * 3)).off+2,none⟩ (.slice P2 X.f2.length p2)).cell? ⟨g9,0,none⟩=some (.bool v.f0)∧(((wc.setCell (ad.add (i * 3)) (.bool X.f0)).setCell ⟨(ad.add (i * 3)).block,(ad.add (i * 3)).off+1,none⟩ (.slice P1 X.f1.length p1)).setCell ⟨(ad.add (i * 3)).block,(ad.add (i * 3)).off+2,none⟩ (.slice P2 X.f2.length p2)).cell? ⟨g9,1,none⟩=some (.slice V1 v.f1.length v1)∧(((wc.setCell (ad.add (i * 3)) (.bool X.f0)).setCell ⟨(ad.add (i * 3)).block,(ad.add (i * 3)).off+1,none⟩ (.slice P1 X.f1.length p1)).setCell ⟨(ad.add (i * 3)).block,(ad.add (i * 3)).off+2,none⟩ (.slice P2 X.f2.length p2)).cell? ⟨g9,2,none⟩=some (.slice V2 v.f2.length v2)):=⟨cell_st3 (keepc HW.out ZZ.out.1) NE.out.1,cell_st3 (keepc HW.out ZZ.out.2.1) NE.out.1,cell_st3 (keepc HW.out ZZ.out.2.2.1) NE.out.2.2.1,cell_st3 (keepc HW.out ZZ.out.2.2.2.1) NE.out.2.2.1,cell_st3 (keepc HW.out ZZ.out.2.2.2.2.1) NE.out.2.2.1,cell_st3 (keepc HW.out ZZ.out.2.2.2.2.2.1) NE.out.2.1,cell_st3 (keepc HW.out ZZ.out.2.2.2.2.2.2.1) NE.out.2.1,cell_st3 (keepc HW.out ZZ.out.2.2.2.2.2.2.2.1) NE.out.2.1,cell_st3 (keepc HW.out ZZ.out.2.2.2.2.2.2.2.2.1) NE.out.2.2.2,cell_st3 (keepc HW.out ZZ.out.2.2.2.2.2.2.2.2.2.1) NE.out.2.2.2,cell_st3 (keepc HW.out ZZ.out.2.2.2.2.2.2.2.2.2.2) NE.out.2.2.2⟩
 obtain ⟨wc,hwd⟩ : ∃ wd,((wc.setCell (ad.add (i * 3)) (.bool X.f0)).setCell ⟨(ad.add (i * 3)).block,(ad.add (i * 3)).off+1,none⟩ (.slice P1 X.f1.length p1)).setCell ⟨(ad.add (i * 3)).block,(ad.add (i * 3)).off+2,none⟩ (.slice P2 X.f2.length p2)=wd:=⟨_,rfl⟩;rw [hwd] at HB2 HO2 HH ⊢;clear hwd HW;refine hK.out _ _ HH.out (fun hHeld=>?_);clear hK K;refine zp 24 71 ?_
 refine lN 25 (none) rfl rfl fun K hK=>?_
 have q0:=HH.out.2.2.2.2.2.1;have k1_:=HH.out.2.2.2.2.2.2.1;have k2_:=HH.out.2.2.2.2.2.2.2.1;have q3:=HO2.out.2.1.free (i * 3);have q4:=next_cells (a:=.bool Y.f0) (b:=.slice Q1 Y.f1.length q1) k1_ k2_;refine skip_ (w1:=?_) (by rfl) rfl ?_ ?_;rotate_left
 ·go_simp
  rfl
 clear q4;refine hK.out _ _ ?_;clear hK K;refine dN ?_;have HB3 : Aside0 (Below w.heap.size w (((wc.setCell (ad2.add (i * 3)) (.bool Y.f0)).setCell ⟨(ad2.add (i * 3)).block,(ad2.add (i * 3)).off+1,none⟩ (.slice Q1 Y.f1.length q1)).setCell ⟨(ad2.add (i * 3)).block,(ad2.add (i * 3)).off+2,none⟩ (.slice Q2 Y.f2.length q2))∧(((wc.setCell (ad2.add (i * 3)) (.bool Y.f0)).setCell ⟨(ad2.add (i * 3)).block,(ad2.add (i * 3)).off+1,none⟩ (.slice Q1 Y.f1.length q1)).setCell ⟨(ad2.add (i * 3)).block,(ad2.add (i * 3)).off+2,none⟩ (.slice Q2 Y.f2.length q2)).heap[w.heap.size]? = some (.cells #[.int .i64 W,.int .i64 h,.int .i64 b,.slice (some ad) M c,.slice (some ad2) M c2] 27 (0,0))∧(((wc.setCell (ad2.add (i * 3)) (.bool Y.f0)).setCell ⟨(ad2.add (i * 3)).block,(ad2.add (i * 3)).off+1,none⟩ (.slice Q1 Y.f1.length q1)).setCell ⟨(ad2.add (i * 3)).block,(ad2.add (i * 3)).off+2,none⟩ (.slice Q2 Y.f2.length q2)).heap[g10]? = some (.cells #[.int .i64 0,.int .i64 0,.int .i64 0,.slice none 0 0,.slice none 0 0] 27 (0,0))):=⟨low_st3 HB2.out.1 (by rw [add_block];exact Nat.le_trans (Nat.le_add_right _ 4) HO2.out.2.1.from_) _ _ _,blk_st3 HB2.out.2.1 (blk_ne HO2.out.2.1 HB2.out.2.1 (by decide) _),blk_st3 HB2.out.2.2 (blk_ne HO2.out.2.1 HB2.out.2.2 (by decide) _)⟩;have HO3 : Aside0 (ORow (((wc.setCell (ad2.add (i * 3)) (.bool Y.f0)).setCell ⟨(ad2.add (i * 3)).block,(ad2.add (i * 3)).off+1,none⟩ (.slice Q1 Y.f1.length q1)).setCell ⟨(ad2.add (i * 3)).block,(ad2.add (i * 3)).off+2,none⟩ (.slice Q2 Y.f2.length q2)) (w.heap.size+4) ad c ((q.a.map mkR).set i X)∧ORow (((wc.setCell (ad2.add (i * 3)) (.bool Y.f0)).setCell ⟨(ad2.add (i * 3)).block,(ad2.add (i * 3)).off+1,none⟩ (.slice Q1 Y.f1.length q1)).setCell ⟨(ad2.add (i * 3)).block,(ad2.add (i * 3)).off+2,none⟩ (.slice Q2 Y.f2.length q2)) (w.heap.size+4) ad2 c2 ((q.b.map mkR).set i Y)):=⟨HO2.out.1.beside HO2.out.2.1 (fun e=>HO.out.2.2 e.symm) i _ _ _,HO2.out.2.1.store TB.out.1 HO2.out.2.2⟩
 obtain ⟨wc,hwd⟩ : ∃ wd,((wc.setCell (ad2.add (i * 3)) (.bool Y.f0)).setCell ⟨(ad2.add (i * 3)).block,(ad2.add (i * 3)).off+1,none⟩ (.slice Q1 Y.f1.length q1)).setCell ⟨(ad2.add (i * 3)).block,(ad2.add (i * 3)).off+2,none⟩ (.slice Q2 Y.f2.length q2)=wd:=⟨_,rfl⟩;rw [hwd] at HB3 HO3 ⊢;clear hwd;have q0:=cells5 HB3.out.2.1;have q1:=cells5 HB3.out.2.2;have q2:=free5 HB3.out.2.2
 have q3 : w.heap.size≠g10:=by have:=HG.out.2.2.1;omega
 go_wp2
 have hR : Rows wc (w.heap.size+4) ⟨q.a.set i (q.a.getD i 0+p),q.b.set i (q.b.getD i 0+r)⟩ ad c ad2 c2:=⟨by rw [List.map_set,TA.out.2];exact HO3.out.1,by rw [List.map_set,TB.out.2];exact HO3.out.2,HO.out.2.2⟩;have k5 : Tk [3,63,82] wc (set5 wc g10 (.int .i64 W) (.int .i64 h) (.int .i64 b) (.slice (some ad) M c) (.slice (some ad2) M c2)):=tk_set5 HB3.out.2.2 (by decide) _ _ _ _ _ inferInstance;refine bodyPost_ret (results_ct rfl _ _ g10 27 _ (0,0) _ rfl (put5 HB3.out.2.2 (.int .i64 W) (.int .i64 h) (.int .i64 b) (.slice (some ad) M c) (.slice (some ad2) M c2)) Try.underlying27 rfl (by kernel_rfl)) rfl ⟨ad,c,ad2,c2,rfl,HLC.out.1,HLC.out.2,(hR.tk (k5.less (by simp))).lower (Nat.le_add_right _ 4),low5 (g:=g10) HB3.out.1 (by have:=HG.out.2.2.1;omega) (.int .i64 W) (.int .i64 h) (.int .i64 b) (.slice (some ad) M c) (.slice (some ad2) M c2)⟩
end Go.Proofs.Ytjiaobcoeegioaa.Pq
end
section
namespace Go.Proofs.Ytjiaobcoeegioaa.Pq
open Go.RowKit Go.Proofs.YtjiaobcoeegioaaW.PrintWords Go.Proofs.YtjiaobcoeegioaaW.PrintLast Go.Proofs.YtjiaobcoeegioaaW.PrintMore Go.Proofs.Ytjiaobcoeegioaa.N
namespace X
def two.T2 : Bool × List (List Nat × List Nat):=(true,[([],[]),([],[]),([1],[]),([0,1,2,2],[0,1,2]),([3],[3]),([4],[4]),([4],[4]),([],[]),([7,5,3,0,1,2,3,4,5,7],[5,7]),([6,8,0,1,2,3,4,5,6,7,8],[6])])
def two.B2 : List Nat:=[0,0,2,7,15,31,31,0,191,511]
theorem two.tab2 : rtab .any (opsOf Try.f15 2)=two.T2:=by kernel_rfl
theorem two.bits2 : waitsOk two.T2.2 two.B2=true:=by kernel_rfl
def two.T3 : Bool × List (List Nat × List Nat):=(true,[([],[]),([],[]),([1],[]),([0,1,2,2],[0,1,2]),([3],[3]),([4],[4]),([4],[4]),([],[]),([7,5,3,0,1,2,3,4,5,7],[5,7]),([6,8,0,1,2,3,4,5,6,7,8],[6])])
def two.B3 : List Nat:=[0,0,2,7,15,31,31,0,191,511]
theorem two.tab3 : rtab .any (opsOf Try.f15 3)=two.T3:=by kernel_rfl
theorem two.bits3 : waitsOk two.T3.2 two.B3=true:=by kernel_rfl
end X
open X
def addQ (q : QF) (i : Nat) (p r : Rat) : QF:=⟨q.a.set i (q.a.getD i 0+p),q.b.set i (q.b.getD i 0+r)⟩
theorem of_x {a b : Int} {u : S63} (w : World) (a0 : 0≤a) (a1 : a < 9223372036854775808) (b0 : 0≤b) (b1 : b < 9223372036854775808) (hu : mkR (qv false a b)=u) :
  Calls Try.prog 29 #[.int .i64 a,.int .i64 b] w fun e w'=>∃ A1 c1 A2 c2,e=.returned (.agg #[.bool u.f0,.slice A1 u.f1.length c1,.slice A2 u.f2.length c2])∧XK w' u [.bool u.f0,.slice A1 u.f1.length c1,.slice A2 u.f2.length c2]∧Below w.heap.size w w':=hu ▸ of_sem a b w a0 a1 b0 b1
theorem s111 : szs 1 1 1=true:=by decide
theorem add111 {wr wc : World} {ae ae2 : Addr} {ce ce2 : Nat} {p r : Rat} {U1 U2 V1 V2 : Option Addr} {u1 u2 v1 v2 : Nat} {u v : S63} (hr : Rows wr 0 (zeroQ 1) ae ce ae2 ce2) (hb : Below wr.heap.size wr wc) (hp : mkR p=u∧sz1 p < 10000000) (hq : mkR r=v∧sz1 r < 10000000) (hu : XK wc u [.bool u.f0,.slice U1 u.f1.length u1,.slice U2 u.f2.length u2]) (hv : XK wc v [.bool v.f0,.slice V1 v.f1.length v1,.slice V2 v.f2.length v2]) :
  Calls Try.prog 28 #[.agg #[.int .i64 1,.int .i64 1,.int .i64 1,.slice (some ae) 1 ce,.slice (some ae2) 1 ce2],.int .i64 0,.int .i64 0,.agg #[.bool u.f0,.slice U1 u.f1.length u1,.slice U2 u.f2.length u2],.agg #[.bool v.f0,.slice V1 v.f1.length v1,.slice V2 v.f2.length v2]] wc fun e w'=>∃ ad c ad2 c2,e=.returned (.tuple #[.agg #[.int .i64 1,.int .i64 1,.int .i64 1,.slice (some ad) 1 c,.slice (some ad2) 1 c2],.bool true])∧1≤c∧1≤c2∧Rows w' wc.heap.size (addQ (zeroQ 1) 0 p r) ad c ad2 c2∧Below wc.heap.size wc w' :=
 add_sem (W:=1) (h:=1) (b:=1) (M:=1) (px:=0) (bin:=0) (i:=0) s111 (by decide) (zero_fits (by decide)) (Nat.lt_of_le_of_lt (zero_sz 1) (by decide)) hp.2 hq.2 (by decide) (by decide) (by decide) (by decide) (by decide) (by decide) hp.1 hq.1 wc (ORow.reads (hr.a.below hb)).2.now (ORow.reads (hr.b.below hb)).2.now hu hv
set_option maxHeartbeats 4000000 in
set_option maxRecDepth 100000 in
theorem two_sem {p r p2 r2 : Rat} {u v u2 v2 : S63} (hu : mkR (qv false 1 2)=u∧mkR p=u∧sz1 p < 10000000) (hv : mkR (qv false 0 1)=v∧mkR r=v∧sz1 r < 10000000) (hu2 : mkR (qv false 1 3)=u2∧mkR p2=u2∧sz1 p2 < 10000000) (hv2 : mkR (qv false 2 1)=v2∧mkR r2=v2∧sz1 r2 < 10000000) (w : World) :
  Calls Try.prog 15 #[] w fun e w'=>∃ g,e=.returned (.slice (some ⟨g,0,none⟩) 2 2)∧Kd.C k27 w' (some ⟨g,0,none⟩) 2 ([addQ (zeroQ 1) 0 p r,addQ (zeroQ 1) 0 p2 r2].map (mkF 1 1 1))∧Below w.heap.size w w':=by
 have HU:=Aside0.mk hu;have HV:=Aside0.mk hv;have HU2:=Aside0.mk hu2;have HV2:=Aside0.mk hv2;clear hu hv hu2 hv2
 go_enter Try.func15,Try.ntmps15
 go_upto_region 2 with (first
  | (go_at_call 17;(with_reducible refine (new_sem (M:=1) s111 (by decide) _).mono ?_);rintro e w1 ⟨ae,ce,ae2,ce2,rfl,lce,lce2,hrw,hb⟩;have HRW:=Aside0.mk hrw;have HB:=Aside0.mk hb;clear hrw hb lce lce2))
 have HB1:=Aside0.mk (below_alloc HB.out (.cells #[.int .i64 1,.int .i64 1,.int .i64 1,.slice (some ae) 1 ce,.slice (some ae2) 1 ce2] 27));have BF:=Aside0.mk (blk_new w1 (.cells #[.int .i64 1,.int .i64 1,.int .i64 1,.slice (some ae) 1 ce,.slice (some ae2) 1 ce2] 27));have HRF:=Aside0.mk ((HRW.out.lower (Nat.zero_le _)).below (below_alloc (Below.refl w1.heap.size w1) (.cells #[.int .i64 1,.int .i64 1,.int .i64 1,.slice (some ae) 1 ce,.slice (some ae2) 1 ce2] 27)));obtain ⟨wr,hwr⟩ : ∃ z,w1.alloc (.cells #[.int .i64 1,.int .i64 1,.int .i64 1,.slice (some ae) 1 ce,.slice (some ae2) 1 ce2] 27)=z:=⟨_,rfl⟩;obtain ⟨g1,hg1⟩ : ∃ z,w1.heap.size=z:=⟨_,rfl⟩;rw [hwr] at HB1 BF HRF ⊢;rw [hg1] at BF ⊢;clear hwr hg1 HB HRW;have HW : Aside0 (Below wr.heap.size wr wr.drew):=⟨below_drew1 (Below.refl _ _)⟩;refine start_ (n:=10) (S:=fun w'=>w'.cell? ⟨g1,0,none⟩=some (.int .i64 1)∧w'.cell? ⟨g1,1,none⟩=some (.int .i64 1)∧w'.cell? ⟨g1,2,none⟩=some (.int .i64 1)∧w'.cell? ⟨g1,3,none⟩=some (.slice (some ae) 1 ce)∧w'.cell? ⟨g1,4,none⟩=some (.slice (some ae2) 1 ce2)) (ds:=[]) #[false,false,false,false,false,false,false,false,false,false] (by kernel_rfl) rfl rfl (cells5 BF.out) (fun hHeld=>?_);refine with_tabW two.tab2 two.bits2 (fun HT_ HW_=>?_);refine zt 0 12 ?_;refine join_ (σ:=Option Addr × Nat × Option Addr × Nat × Option Addr × Nat × Option Addr × Nat × Addr × Nat × Addr × Nat × Nat) 2 #[true,true,true,true,true,true,true,true,false,false] (fun s_=>[(13,.agg #[.bool u.f0,.slice s_.1 u.f1.length s_.2.1,.slice s_.2.2.1 u.f2.length s_.2.2.2.1]),(14,.agg #[.bool v.f0,.slice s_.2.2.2.2.1 v.f1.length s_.2.2.2.2.2.1,.slice s_.2.2.2.2.2.2.1 v.f2.length s_.2.2.2.2.2.2.2.1]),(15,.tuple #[.agg #[.int .i64 1,.int .i64 1,.int .i64 1,.slice (some s_.2.2.2.2.2.2.2.2.1) 1 s_.2.2.2.2.2.2.2.2.2.1,.slice (some s_.2.2.2.2.2.2.2.2.2.2.1) 1 s_.2.2.2.2.2.2.2.2.2.2.2.1],.bool true]),(11,.tuple #[.agg #[.int .i64 1,.int .i64 1,.int .i64 1,.slice (some s_.2.2.2.2.2.2.2.2.1) 1 s_.2.2.2.2.2.2.2.2.2.1,.slice (some s_.2.2.2.2.2.2.2.2.2.2.1) 1 s_.2.2.2.2.2.2.2.2.2.2.2.1],.bool true]),(16,.agg #[.int .i64 1,.int .i64 1,.int .i64 1,.slice (some s_.2.2.2.2.2.2.2.2.1) 1 s_.2.2.2.2.2.2.2.2.2.1,.slice (some s_.2.2.2.2.2.2.2.2.2.2.1) 1 s_.2.2.2.2.2.2.2.2.2.2.2.1]),(17,.bool true),(3,.pointer (some ⟨s_.2.2.2.2.2.2.2.2.2.2.2.2,0,none⟩))]) (fun s_ w'=>(w'.cell? ⟨g1,0,none⟩=some (.int .i64 1)∧w'.cell? ⟨g1,1,none⟩=some (.int .i64 1)∧w'.cell? ⟨g1,2,none⟩=some (.int .i64 1)∧w'.cell? ⟨g1,3,none⟩=some (.slice (some ae) 1 ce)∧w'.cell? ⟨g1,4,none⟩=some (.slice (some ae2) 1 ce2))∧Below wr.heap.size wr w'∧(Rows w' wr.heap.size (addQ (zeroQ 1) 0 p r) s_.2.2.2.2.2.2.2.2.1 s_.2.2.2.2.2.2.2.2.2.1 s_.2.2.2.2.2.2.2.2.2.2.1 s_.2.2.2.2.2.2.2.2.2.2.2.1∧1≤s_.2.2.2.2.2.2.2.2.2.1∧1≤s_.2.2.2.2.2.2.2.2.2.2.2.1)∧w'.heap[s_.2.2.2.2.2.2.2.2.2.2.2.2]? = some (.cells #[.int .i64 0,.int .i64 0,.int .i64 0,.slice none 0 0,.slice none 0 0] 27 (0,0))∧wr.heap.size≤s_.2.2.2.2.2.2.2.2.2.2.2.2) ?_ ?_
 rotate_left
 ·intro hCont
  refine two_ (i:=1) (j:=7) (Ni:=some 13) (Nj:=some 3) #[true,true,false,false,false,false,false,false,false,false] #[true,false,false,false,false,false,false,true,false,false] rfl rfl rfl rfl (two_of HT_.out (by kernel_rfl)) (by decide) (by decide) (fun K hK=>?_) (fun K hK=>?_)
  ·skip
   try (obtain ⟨wc,hwc⟩ : ∃ z,wr.drew=z:=⟨_,rfl⟩;rw [hwc] at HW ⊢;clear hwc)
   refine goes_ Try.func29 (by kernel_rfl) rfl #[.int .i64 1,.int .i64 2] (by rfl) rfl rfl (by simp only [List.map_toArray,List.map_cons,List.map_nil];rfl) ?_
   with_reducible refine (of_x wc (by decide) (by decide) (by decide) (by decide) HU.out.1).mono ?_
   rintro e wc ⟨A1,a1,A2,a2,rfl,hx,hb⟩;refine ⟨_,rfl,?_⟩;have H1:=Aside0.mk hx;replace HW:=Aside0.mk (below_step HW.out hb)
   try replace H7:=Aside0.mk (And.intro (blk_below H7.out.1 hb) H7.out.2)
   clear hx hb;refine hK.out _ _ (cells5 (blk_below BF.out HW.out)) (fun hHeld=>?_);clear hK K;refine nZ ?_;refine two_ (i:=2) (j:=7) (Ni:=some 14) (Nj:=some 3) #[true,true,true,false,false,false,false,false,false,false] #[true,true,false,false,false,false,false,true,false,false] rfl rfl rfl rfl (two_of HT_.out (by kernel_rfl)) (by decide) (by decide) (fun K hK=>?_) (fun K hK=>?_)
   ·skip
    try (obtain ⟨wc,hwc⟩ : ∃ z,wr.drew=z:=⟨_,rfl⟩;rw [hwc] at HW ⊢;clear hwc)
    refine goes_ Try.func29 (by kernel_rfl) rfl #[.int .i64 0,.int .i64 1] (by rfl) rfl rfl (by simp only [List.map_toArray,List.map_cons,List.map_nil];rfl) ?_
    with_reducible refine (of_x wc (by decide) (by decide) (by decide) (by decide) HV.out.1).mono ?_
    rintro e wc ⟨B1,b1,B2,b2,rfl,hx,hb⟩;refine ⟨_,rfl,?_⟩;have H2:=Aside0.mk hx;replace HW:=Aside0.mk (below_step HW.out hb)
    try replace H1:=Aside0.mk (H1.out.below hb)
    try replace H7:=Aside0.mk (And.intro (blk_below H7.out.1 hb) H7.out.2)
    clear hx hb;refine hK.out _ _ (cells5 (blk_below BF.out HW.out)) (fun hHeld=>?_);clear hK K;refine nZ ?_;refine two_ (i:=3) (j:=7) (Ni:=some 15) (Nj:=some 3) #[true,true,true,true,false,false,false,false,false,false] #[true,true,true,false,false,false,false,true,false,false] rfl rfl rfl rfl (two_of HT_.out (by kernel_rfl)) (by decide) (by decide) (fun K hK=>?_) (fun K hK=>?_)
    ·skip
     refine goes_ Try.func28 (by kernel_rfl) rfl #[.agg #[.int .i64 1,.int .i64 1,.int .i64 1,.slice (some ae) 1 ce,.slice (some ae2) 1 ce2],.int .i64 0,.int .i64 0,.agg #[.bool u.f0,.slice A1 u.f1.length a1,.slice A2 u.f2.length a2],.agg #[.bool v.f0,.slice B1 v.f1.length b1,.slice B2 v.f2.length b2]] (by rfl) rfl rfl (by simp only [List.map_toArray,List.map_cons,List.map_nil];rfl) ?_
     with_reducible refine (add111 HRF.out HW.out HU.out.2 HV.out.2 H1.out H2.out).mono ?_
     rintro e wc ⟨ad,c,ad2,c2,rfl,lc,lc2,hrw,hb⟩;refine ⟨_,rfl,?_⟩;have H3:=Aside0.mk (And.intro (hrw.lower HW.out.size) (And.intro lc lc2));replace HW:=Aside0.mk (below_step HW.out hb)
     try replace H7:=Aside0.mk (And.intro (blk_below H7.out.1 hb) H7.out.2)
     clear lc lc2 hrw hb
     try clear H1 H2
     refine hK.out _ _ (cells5 (blk_below BF.out HW.out)) (fun hHeld=>?_);clear hK K;refine nZ ?_;refine zp 4 11 ?_;refine zp 5 16 ?_;refine zp 6 17 ?_
     refine oN 7 (some 3) rfl rfl fun K hK=>?_
     try (obtain ⟨wc,hwc⟩ : ∃ z,wr.drew=z:=⟨_,rfl⟩;rw [hwc] at HW ⊢;clear hwc)
     refine value_ (w1:=?_) (v:=?_) (by rfl) rfl ?_ ?_;rotate_left 2
     ·go_simp
      constructor
      ·rfl
      ·rfl
     obtain ⟨gz,hga⟩ : ∃ g,wc.heap.size=g:=⟨_,rfl⟩;have H7 : Aside0 ((wc.alloc (.cells #[.int .i64 0,.int .i64 0,.int .i64 0,.slice none 0 0,.slice none 0 0] 27)).heap[gz]? = some (.cells #[.int .i64 0,.int .i64 0,.int .i64 0,.slice none 0 0,.slice none 0 0] 27 (0,0))∧wr.heap.size≤gz):=⟨by rw [← hga];exact ⟨blk_new _ _,HW.out.size⟩⟩;rw [hga];clear hga;have HA_ : Below wc.heap.size wc (wc.alloc (.cells #[.int .i64 0,.int .i64 0,.int .i64 0,.slice none 0 0,.slice none 0 0] 27)):=below_alloc (Below.refl _ _) _;replace HW:=Aside0.mk (below_step HW.out HA_)
     try replace H1:=Aside0.mk (H1.out.below HA_)
     try replace H2:=Aside0.mk (H2.out.below HA_)
     try replace H3:=Aside0.mk (And.intro (H3.out.1.below HA_) H3.out.2)
     obtain ⟨wc,hwd⟩ : ∃ wd,wc.alloc (.cells #[.int .i64 0,.int .i64 0,.int .i64 0,.slice none 0 0,.slice none 0 0] 27)=wd:=⟨_,rfl⟩;rw [hwd] at HW H7 ⊢
     try rw [hwd] at H1
     try rw [hwd] at H2
     try rw [hwd] at H3
     clear HA_ hwd;refine hK.out _ _ (cells5 (blk_below BF.out HW.out)) (fun hHeld=>?_);clear hK K;refine nZ ?_;exact norm_ (by simp only [putAll,Act.put,s0,s1,s2]) (hCont (A1,a1,A2,a2,B1,b1,B2,b2,ad,c,ad2,c2,gz) _ ⟨hHeld,HW.out,H3.out,H7.out⟩)
    ·skip
     try (obtain ⟨wc,hwc⟩ : ∃ z,wr.drew=z:=⟨_,rfl⟩;rw [hwc] at HW ⊢;clear hwc)
     refine value_ (w1:=?_) (v:=?_) (by rfl) rfl ?_ ?_;rotate_left 2
     ·go_simp
      constructor
      ·rfl
      ·rfl
     obtain ⟨gz,hga⟩ : ∃ g,wc.heap.size=g:=⟨_,rfl⟩;have H7 : Aside0 ((wc.alloc (.cells #[.int .i64 0,.int .i64 0,.int .i64 0,.slice none 0 0,.slice none 0 0] 27)).heap[gz]? = some (.cells #[.int .i64 0,.int .i64 0,.int .i64 0,.slice none 0 0,.slice none 0 0] 27 (0,0))∧wr.heap.size≤gz):=⟨by rw [← hga];exact ⟨blk_new _ _,HW.out.size⟩⟩;rw [hga];clear hga;have HA_ : Below wc.heap.size wc (wc.alloc (.cells #[.int .i64 0,.int .i64 0,.int .i64 0,.slice none 0 0,.slice none 0 0] 27)):=below_alloc (Below.refl _ _) _;replace HW:=Aside0.mk (below_step HW.out HA_)
     try replace H1:=Aside0.mk (H1.out.below HA_)
     try replace H2:=Aside0.mk (H2.out.below HA_)
     try replace H3:=Aside0.mk (And.intro (H3.out.1.below HA_) H3.out.2)
     obtain ⟨wc,hwd⟩ : ∃ wd,wc.alloc (.cells #[.int .i64 0,.int .i64 0,.int .i64 0,.slice none 0 0,.slice none 0 0] 27)=wd:=⟨_,rfl⟩;rw [hwd] at HW H7 ⊢
     try rw [hwd] at H1
     try rw [hwd] at H2
     try rw [hwd] at H3
     clear HA_ hwd;refine hK.out _ _ (cells5 (blk_below BF.out HW.out)) (fun hHeld=>?_);clear hK K;refine nZ ?_
     refine oN 3 (some 15) rfl rfl fun K hK=>?_
     refine goes_ Try.func28 (by kernel_rfl) rfl #[.agg #[.int .i64 1,.int .i64 1,.int .i64 1,.slice (some ae) 1 ce,.slice (some ae2) 1 ce2],.int .i64 0,.int .i64 0,.agg #[.bool u.f0,.slice A1 u.f1.length a1,.slice A2 u.f2.length a2],.agg #[.bool v.f0,.slice B1 v.f1.length b1,.slice B2 v.f2.length b2]] (by rfl) rfl rfl (by simp only [List.map_toArray,List.map_cons,List.map_nil];rfl) ?_
     with_reducible refine (add111 HRF.out HW.out HU.out.2 HV.out.2 H1.out H2.out).mono ?_
     rintro e wc ⟨ad,c,ad2,c2,rfl,lc,lc2,hrw,hb⟩;refine ⟨_,rfl,?_⟩;have H3:=Aside0.mk (And.intro (hrw.lower HW.out.size) (And.intro lc lc2));replace HW:=Aside0.mk (below_step HW.out hb)
     try replace H7:=Aside0.mk (And.intro (blk_below H7.out.1 hb) H7.out.2)
     clear lc lc2 hrw hb
     try clear H1 H2
     refine hK.out _ _ (cells5 (blk_below BF.out HW.out)) (fun hHeld=>?_);clear hK K;refine nZ ?_;refine zp 4 11 ?_;refine zp 5 16 ?_;refine zp 6 17 ?_;exact norm_ (by simp only [putAll,Act.put,s0,s1,s2]) (hCont (A1,a1,A2,a2,B1,b1,B2,b2,ad,c,ad2,c2,gz) _ ⟨hHeld,HW.out,H3.out,H7.out⟩)
   ·skip
    try (obtain ⟨wc,hwc⟩ : ∃ z,wr.drew=z:=⟨_,rfl⟩;rw [hwc] at HW ⊢;clear hwc)
    refine value_ (w1:=?_) (v:=?_) (by rfl) rfl ?_ ?_;rotate_left 2
    ·go_simp
     constructor
     ·rfl
     ·rfl
    obtain ⟨gz,hga⟩ : ∃ g,wc.heap.size=g:=⟨_,rfl⟩;have H7 : Aside0 ((wc.alloc (.cells #[.int .i64 0,.int .i64 0,.int .i64 0,.slice none 0 0,.slice none 0 0] 27)).heap[gz]? = some (.cells #[.int .i64 0,.int .i64 0,.int .i64 0,.slice none 0 0,.slice none 0 0] 27 (0,0))∧wr.heap.size≤gz):=⟨by rw [← hga];exact ⟨blk_new _ _,HW.out.size⟩⟩;rw [hga];clear hga;have HA_ : Below wc.heap.size wc (wc.alloc (.cells #[.int .i64 0,.int .i64 0,.int .i64 0,.slice none 0 0,.slice none 0 0] 27)):=below_alloc (Below.refl _ _) _;replace HW:=Aside0.mk (below_step HW.out HA_)
    try replace H1:=Aside0.mk (H1.out.below HA_)
    try replace H2:=Aside0.mk (H2.out.below HA_)
    try replace H3:=Aside0.mk (And.intro (H3.out.1.below HA_) H3.out.2)
    obtain ⟨wc,hwd⟩ : ∃ wd,wc.alloc (.cells #[.int .i64 0,.int .i64 0,.int .i64 0,.slice none 0 0,.slice none 0 0] 27)=wd:=⟨_,rfl⟩;rw [hwd] at HW H7 ⊢
    try rw [hwd] at H1
    try rw [hwd] at H2
    try rw [hwd] at H3
    clear HA_ hwd;refine hK.out _ _ (cells5 (blk_below BF.out HW.out)) (fun hHeld=>?_);clear hK K;refine nZ ?_
    refine oN 2 (some 14) rfl rfl fun K hK=>?_
    try (obtain ⟨wc,hwc⟩ : ∃ z,wr.drew=z:=⟨_,rfl⟩;rw [hwc] at HW ⊢;clear hwc)
    refine goes_ Try.func29 (by kernel_rfl) rfl #[.int .i64 0,.int .i64 1] (by rfl) rfl rfl (by simp only [List.map_toArray,List.map_cons,List.map_nil];rfl) ?_
    with_reducible refine (of_x wc (by decide) (by decide) (by decide) (by decide) HV.out.1).mono ?_
    rintro e wc ⟨B1,b1,B2,b2,rfl,hx,hb⟩;refine ⟨_,rfl,?_⟩;have H2:=Aside0.mk hx;replace HW:=Aside0.mk (below_step HW.out hb)
    try replace H1:=Aside0.mk (H1.out.below hb)
    try replace H7:=Aside0.mk (And.intro (blk_below H7.out.1 hb) H7.out.2)
    clear hx hb;refine hK.out _ _ (cells5 (blk_below BF.out HW.out)) (fun hHeld=>?_);clear hK K;refine nZ ?_
    refine oN 3 (some 15) rfl rfl fun K hK=>?_
    refine goes_ Try.func28 (by kernel_rfl) rfl #[.agg #[.int .i64 1,.int .i64 1,.int .i64 1,.slice (some ae) 1 ce,.slice (some ae2) 1 ce2],.int .i64 0,.int .i64 0,.agg #[.bool u.f0,.slice A1 u.f1.length a1,.slice A2 u.f2.length a2],.agg #[.bool v.f0,.slice B1 v.f1.length b1,.slice B2 v.f2.length b2]] (by rfl) rfl rfl (by simp only [List.map_toArray,List.map_cons,List.map_nil];rfl) ?_
    with_reducible refine (add111 HRF.out HW.out HU.out.2 HV.out.2 H1.out H2.out).mono ?_
    rintro e wc ⟨ad,c,ad2,c2,rfl,lc,lc2,hrw,hb⟩;refine ⟨_,rfl,?_⟩;have H3:=Aside0.mk (And.intro (hrw.lower HW.out.size) (And.intro lc lc2));replace HW:=Aside0.mk (below_step HW.out hb)
    try replace H7:=Aside0.mk (And.intro (blk_below H7.out.1 hb) H7.out.2)
    clear lc lc2 hrw hb
    try clear H1 H2
    refine hK.out _ _ (cells5 (blk_below BF.out HW.out)) (fun hHeld=>?_);clear hK K;refine nZ ?_;refine zp 4 11 ?_;refine zp 5 16 ?_;refine zp 6 17 ?_;exact norm_ (by simp only [putAll,Act.put,s0,s1,s2]) (hCont (A1,a1,A2,a2,B1,b1,B2,b2,ad,c,ad2,c2,gz) _ ⟨hHeld,HW.out,H3.out,H7.out⟩)
  ·skip
   try (obtain ⟨wc,hwc⟩ : ∃ z,wr.drew=z:=⟨_,rfl⟩;rw [hwc] at HW ⊢;clear hwc)
   refine value_ (w1:=?_) (v:=?_) (by rfl) rfl ?_ ?_;rotate_left 2
   ·go_simp
    constructor
    ·rfl
    ·rfl
   obtain ⟨gz,hga⟩ : ∃ g,wc.heap.size=g:=⟨_,rfl⟩;have H7 : Aside0 ((wc.alloc (.cells #[.int .i64 0,.int .i64 0,.int .i64 0,.slice none 0 0,.slice none 0 0] 27)).heap[gz]? = some (.cells #[.int .i64 0,.int .i64 0,.int .i64 0,.slice none 0 0,.slice none 0 0] 27 (0,0))∧wr.heap.size≤gz):=⟨by rw [← hga];exact ⟨blk_new _ _,HW.out.size⟩⟩;rw [hga];clear hga;have HA_ : Below wc.heap.size wc (wc.alloc (.cells #[.int .i64 0,.int .i64 0,.int .i64 0,.slice none 0 0,.slice none 0 0] 27)):=below_alloc (Below.refl _ _) _;replace HW:=Aside0.mk (below_step HW.out HA_)
   try replace H1:=Aside0.mk (H1.out.below HA_)
   try replace H2:=Aside0.mk (H2.out.below HA_)
   try replace H3:=Aside0.mk (And.intro (H3.out.1.below HA_) H3.out.2)
   obtain ⟨wc,hwd⟩ : ∃ wd,wc.alloc (.cells #[.int .i64 0,.int .i64 0,.int .i64 0,.slice none 0 0,.slice none 0 0] 27)=wd:=⟨_,rfl⟩;rw [hwd] at HW H7 ⊢
   try rw [hwd] at H1
   try rw [hwd] at H2
   try rw [hwd] at H3
   clear HA_ hwd;refine hK.out _ _ (cells5 (blk_below BF.out HW.out)) (fun hHeld=>?_);clear hK K;refine nZ ?_
   refine oN 1 (some 13) rfl rfl fun K hK=>?_
   try (obtain ⟨wc,hwc⟩ : ∃ z,wr.drew=z:=⟨_,rfl⟩;rw [hwc] at HW ⊢;clear hwc)
   refine goes_ Try.func29 (by kernel_rfl) rfl #[.int .i64 1,.int .i64 2] (by rfl) rfl rfl (by simp only [List.map_toArray,List.map_cons,List.map_nil];rfl) ?_
   with_reducible refine (of_x wc (by decide) (by decide) (by decide) (by decide) HU.out.1).mono ?_
   rintro e wc ⟨A1,a1,A2,a2,rfl,hx,hb⟩;refine ⟨_,rfl,?_⟩;have H1:=Aside0.mk hx;replace HW:=Aside0.mk (below_step HW.out hb)
   try replace H7:=Aside0.mk (And.intro (blk_below H7.out.1 hb) H7.out.2)
   clear hx hb;refine hK.out _ _ (cells5 (blk_below BF.out HW.out)) (fun hHeld=>?_);clear hK K;refine nZ ?_
   refine oN 2 (some 14) rfl rfl fun K hK=>?_
   try (obtain ⟨wc,hwc⟩ : ∃ z,wr.drew=z:=⟨_,rfl⟩;rw [hwc] at HW ⊢;clear hwc)
   refine goes_ Try.func29 (by kernel_rfl) rfl #[.int .i64 0,.int .i64 1] (by rfl) rfl rfl (by simp only [List.map_toArray,List.map_cons,List.map_nil];rfl) ?_
   with_reducible refine (of_x wc (by decide) (by decide) (by decide) (by decide) HV.out.1).mono ?_
   rintro e wc ⟨B1,b1,B2,b2,rfl,hx,hb⟩;refine ⟨_,rfl,?_⟩;have H2:=Aside0.mk hx;replace HW:=Aside0.mk (below_step HW.out hb)
   try replace H1:=Aside0.mk (H1.out.below hb)
   try replace H7:=Aside0.mk (And.intro (blk_below H7.out.1 hb) H7.out.2)
   clear hx hb;refine hK.out _ _ (cells5 (blk_below BF.out HW.out)) (fun hHeld=>?_);clear hK K;refine nZ ?_
   refine oN 3 (some 15) rfl rfl fun K hK=>?_
   refine goes_ Try.func28 (by kernel_rfl) rfl #[.agg #[.int .i64 1,.int .i64 1,.int .i64 1,.slice (some ae) 1 ce,.slice (some ae2) 1 ce2],.int .i64 0,.int .i64 0,.agg #[.bool u.f0,.slice A1 u.f1.length a1,.slice A2 u.f2.length a2],.agg #[.bool v.f0,.slice B1 v.f1.length b1,.slice B2 v.f2.length b2]] (by rfl) rfl rfl (by simp only [List.map_toArray,List.map_cons,List.map_nil];rfl) ?_
   with_reducible refine (add111 HRF.out HW.out HU.out.2 HV.out.2 H1.out H2.out).mono ?_
   rintro e wc ⟨ad,c,ad2,c2,rfl,lc,lc2,hrw,hb⟩;refine ⟨_,rfl,?_⟩;have H3:=Aside0.mk (And.intro (hrw.lower HW.out.size) (And.intro lc lc2));replace HW:=Aside0.mk (below_step HW.out hb)
   try replace H7:=Aside0.mk (And.intro (blk_below H7.out.1 hb) H7.out.2)
   clear lc lc2 hrw hb
   try clear H1 H2
   refine hK.out _ _ (cells5 (blk_below BF.out HW.out)) (fun hHeld=>?_);clear hK K;refine nZ ?_;refine zp 4 11 ?_;refine zp 5 16 ?_;refine zp 6 17 ?_;exact norm_ (by simp only [putAll,Act.put,s0,s1,s2]) (hCont (A1,a1,A2,a2,B1,b1,B2,b2,ad,c,ad2,c2,gz) _ ⟨hHeld,HW.out,H3.out,H7.out⟩)
 rintro ⟨A1,a1,A2,a2,B1,b1,B2,b2,ad,c,ad2,c2,gz⟩ wc ⟨hHeld,h1,h2,h3,h4⟩;dsimp only at h1 h2 h3 h4;replace HW:=Aside0.mk h1;have H3:=Aside0.mk h2;have H7:=Aside0.mk (And.intro h3 h4);clear h1 h2 h3 h4;refine norm_ (a':=?_) ?_ ?_;rotate_left
 ·simp only [putAll,Act.put,s0,s1,s2]
  rfl
 refine oN 8 (none) rfl rfl fun K hK=>?_
 have q0:=cells5 H7.out.1;have q1:=free5 H7.out.1;refine skip_ (w1:=?_) (by rfl) rfl ?_ ?_;rotate_left
 ·go_simp
  rfl
 clear q0 q1
 have hne : g1≠gz:=fun e=>by have h1:=blk_lt BF.out;have h2:=H7.out.2;omega
 refine hK.out _ _ (cells5 (far5 (blk_below BF.out HW.out) hne _ _ _ _ _)) (fun hHeld=>?_);clear hK K;refine zp 9 4 ?_;refine dN ?_;have k5 : Tk [3,63,82] wc (((((wc.setCell ⟨gz,0,none⟩ (.int .i64 1)).setCell ⟨gz,1,none⟩ (.int .i64 1)).setCell ⟨gz,2,none⟩ (.int .i64 1)).setCell ⟨gz,3,none⟩ (.slice (some ad) 1 c)).setCell ⟨gz,4,none⟩ (.slice (some ad2) 1 c2)):=tk_set5 H7.out.1 (by decide) _ _ _ _ _ inferInstance;have HB2 : Aside0 (Below w.heap.size w (((((wc.setCell ⟨gz,0,none⟩ (.int .i64 1)).setCell ⟨gz,1,none⟩ (.int .i64 1)).setCell ⟨gz,2,none⟩ (.int .i64 1)).setCell ⟨gz,3,none⟩ (.slice (some ad) 1 c)).setCell ⟨gz,4,none⟩ (.slice (some ad2) 1 c2))):=⟨low5 (g:=gz) (below_step HB1.out HW.out) (Nat.le_trans HB1.out.size H7.out.2) _ _ _ _ _⟩;have B12 : Aside0 ((((((wc.setCell ⟨gz,0,none⟩ (.int .i64 1)).setCell ⟨gz,1,none⟩ (.int .i64 1)).setCell ⟨gz,2,none⟩ (.int .i64 1)).setCell ⟨gz,3,none⟩ (.slice (some ad) 1 c)).setCell ⟨gz,4,none⟩ (.slice (some ad2) 1 c2)).heap[g1]? = some (.cells #[.int .i64 1,.int .i64 1,.int .i64 1,.slice (some ae) 1 ce,.slice (some ae2) 1 ce2] 27 (0,0))):=⟨far5 (blk_below BF.out HW.out) hne _ _ _ _ _⟩;have B3 : Aside0 ((((((wc.setCell ⟨gz,0,none⟩ (.int .i64 1)).setCell ⟨gz,1,none⟩ (.int .i64 1)).setCell ⟨gz,2,none⟩ (.int .i64 1)).setCell ⟨gz,3,none⟩ (.slice (some ad) 1 c)).setCell ⟨gz,4,none⟩ (.slice (some ad2) 1 c2)).heap[gz]? = some (.cells #[.int .i64 1,.int .i64 1,.int .i64 1,.slice (some ad) 1 c,.slice (some ad2) 1 c2] 27 (0,0))):=⟨put5 H7.out.1 _ _ _ _ _⟩
 have HRF2 : Aside0 (Rows (((((wc.setCell ⟨gz,0,none⟩ (.int .i64 1)).setCell ⟨gz,1,none⟩ (.int .i64 1)).setCell ⟨gz,2,none⟩ (.int .i64 1)).setCell ⟨gz,3,none⟩ (.slice (some ad) 1 c)).setCell ⟨gz,4,none⟩ (.slice (some ad2) 1 c2)) 0 (zeroQ 1) ae ce ae2 ce2):=⟨(HRF.out.below HW.out).tk (k5.less (by simp))⟩;have HR3 : Aside0 (Rows (((((wc.setCell ⟨gz,0,none⟩ (.int .i64 1)).setCell ⟨gz,1,none⟩ (.int .i64 1)).setCell ⟨gz,2,none⟩ (.int .i64 1)).setCell ⟨gz,3,none⟩ (.slice (some ad) 1 c)).setCell ⟨gz,4,none⟩ (.slice (some ad2) 1 c2)) 0 (addQ (zeroQ 1) 0 p r) ad c ad2 c2):=⟨(H3.out.1.lower (Nat.zero_le _)).tk (k5.less (by simp))⟩;clear k5 HRF BF H3 H7 HW hne HB1 hHeld;obtain ⟨wr',hwr⟩ : ∃ z,((((wc.setCell ⟨gz,0,none⟩ (.int .i64 1)).setCell ⟨gz,1,none⟩ (.int .i64 1)).setCell ⟨gz,2,none⟩ (.int .i64 1)).setCell ⟨gz,3,none⟩ (.slice (some ad) 1 c)).setCell ⟨gz,4,none⟩ (.slice (some ad2) 1 c2)=z:=⟨_,rfl⟩;rw [hwr] at HB2 B12 B3 HRF2 HR3 ⊢;clear hwr;obtain ⟨wr,ewr⟩ : ∃ z,z=wr':=⟨_,rfl⟩;subst ewr;obtain ⟨xd,ex⟩ : ∃ z,z=ad:=⟨_,rfl⟩;subst ex;obtain ⟨xc,ex⟩ : ∃ z,z=c:=⟨_,rfl⟩;subst ex;obtain ⟨xd2,ex⟩ : ∃ z,z=ad2:=⟨_,rfl⟩;subst ex;obtain ⟨xc2,ex⟩ : ∃ z,z=c2:=⟨_,rfl⟩;subst ex;obtain ⟨g3,ex⟩ : ∃ z,z=gz:=⟨_,rfl⟩;subst ex;have BF:=B12;have HRF:=HRF2;clear B12 HRF2
 go_upto_region 3 with fail
 have HW : Aside0 (Below wr.heap.size wr wr.drew):=⟨below_drew1 (Below.refl _ _)⟩;refine start_ (n:=10) (S:=fun w'=>w'.cell? ⟨g1,0,none⟩=some (.int .i64 1)∧w'.cell? ⟨g1,1,none⟩=some (.int .i64 1)∧w'.cell? ⟨g1,2,none⟩=some (.int .i64 1)∧w'.cell? ⟨g1,3,none⟩=some (.slice (some ae) 1 ce)∧w'.cell? ⟨g1,4,none⟩=some (.slice (some ae2) 1 ce2)) (ds:=[]) #[false,false,false,false,false,false,false,false,false,false] (by kernel_rfl) rfl rfl (cells5 BF.out) (fun hHeld=>?_);refine with_tabW two.tab3 two.bits3 (fun HT_ HW_=>?_);refine zt 0 19 ?_;refine join_ (σ:=Option Addr × Nat × Option Addr × Nat × Option Addr × Nat × Option Addr × Nat × Addr × Nat × Addr × Nat × Nat) 2 #[true,true,true,true,true,true,true,true,false,false] (fun s_=>[(20,.agg #[.bool u2.f0,.slice s_.1 u2.f1.length s_.2.1,.slice s_.2.2.1 u2.f2.length s_.2.2.2.1]),(21,.agg #[.bool v2.f0,.slice s_.2.2.2.2.1 v2.f1.length s_.2.2.2.2.2.1,.slice s_.2.2.2.2.2.2.1 v2.f2.length s_.2.2.2.2.2.2.2.1]),(22,.tuple #[.agg #[.int .i64 1,.int .i64 1,.int .i64 1,.slice (some s_.2.2.2.2.2.2.2.2.1) 1 s_.2.2.2.2.2.2.2.2.2.1,.slice (some s_.2.2.2.2.2.2.2.2.2.2.1) 1 s_.2.2.2.2.2.2.2.2.2.2.2.1],.bool true]),(18,.tuple #[.agg #[.int .i64 1,.int .i64 1,.int .i64 1,.slice (some s_.2.2.2.2.2.2.2.2.1) 1 s_.2.2.2.2.2.2.2.2.2.1,.slice (some s_.2.2.2.2.2.2.2.2.2.2.1) 1 s_.2.2.2.2.2.2.2.2.2.2.2.1],.bool true]),(23,.agg #[.int .i64 1,.int .i64 1,.int .i64 1,.slice (some s_.2.2.2.2.2.2.2.2.1) 1 s_.2.2.2.2.2.2.2.2.2.1,.slice (some s_.2.2.2.2.2.2.2.2.2.2.1) 1 s_.2.2.2.2.2.2.2.2.2.2.2.1]),(24,.bool true),(5,.pointer (some ⟨s_.2.2.2.2.2.2.2.2.2.2.2.2,0,none⟩))]) (fun s_ w'=>(w'.cell? ⟨g1,0,none⟩=some (.int .i64 1)∧w'.cell? ⟨g1,1,none⟩=some (.int .i64 1)∧w'.cell? ⟨g1,2,none⟩=some (.int .i64 1)∧w'.cell? ⟨g1,3,none⟩=some (.slice (some ae) 1 ce)∧w'.cell? ⟨g1,4,none⟩=some (.slice (some ae2) 1 ce2))∧Below wr.heap.size wr w'∧(Rows w' wr.heap.size (addQ (zeroQ 1) 0 p2 r2) s_.2.2.2.2.2.2.2.2.1 s_.2.2.2.2.2.2.2.2.2.1 s_.2.2.2.2.2.2.2.2.2.2.1 s_.2.2.2.2.2.2.2.2.2.2.2.1∧1≤s_.2.2.2.2.2.2.2.2.2.1∧1≤s_.2.2.2.2.2.2.2.2.2.2.2.1)∧w'.heap[s_.2.2.2.2.2.2.2.2.2.2.2.2]? = some (.cells #[.int .i64 0,.int .i64 0,.int .i64 0,.slice none 0 0,.slice none 0 0] 27 (0,0))∧wr.heap.size≤s_.2.2.2.2.2.2.2.2.2.2.2.2) ?_ ?_
 rotate_left
 ·intro hCont
  refine two_ (i:=1) (j:=7) (Ni:=some 20) (Nj:=some 5) #[true,true,false,false,false,false,false,false,false,false] #[true,false,false,false,false,false,false,true,false,false] rfl rfl rfl rfl (two_of HT_.out (by kernel_rfl)) (by decide) (by decide) (fun K hK=>?_) (fun K hK=>?_)
  ·skip
   try (obtain ⟨wc,hwc⟩ : ∃ z,wr.drew=z:=⟨_,rfl⟩;rw [hwc] at HW ⊢;clear hwc)
   refine goes_ Try.func29 (by kernel_rfl) rfl #[.int .i64 1,.int .i64 3] (by rfl) rfl rfl (by simp only [List.map_toArray,List.map_cons,List.map_nil];rfl) ?_
   with_reducible refine (of_x wc (by decide) (by decide) (by decide) (by decide) HU2.out.1).mono ?_
   rintro e wc ⟨A1,a1,A2,a2,rfl,hx,hb⟩;refine ⟨_,rfl,?_⟩;have H1:=Aside0.mk hx;replace HW:=Aside0.mk (below_step HW.out hb)
   try replace H7:=Aside0.mk (And.intro (blk_below H7.out.1 hb) H7.out.2)
   clear hx hb;refine hK.out _ _ (cells5 (blk_below BF.out HW.out)) (fun hHeld=>?_);clear hK K;refine nZ ?_;refine two_ (i:=2) (j:=7) (Ni:=some 21) (Nj:=some 5) #[true,true,true,false,false,false,false,false,false,false] #[true,true,false,false,false,false,false,true,false,false] rfl rfl rfl rfl (two_of HT_.out (by kernel_rfl)) (by decide) (by decide) (fun K hK=>?_) (fun K hK=>?_)
   ·skip
    try (obtain ⟨wc,hwc⟩ : ∃ z,wr.drew=z:=⟨_,rfl⟩;rw [hwc] at HW ⊢;clear hwc)
    refine goes_ Try.func29 (by kernel_rfl) rfl #[.int .i64 2,.int .i64 1] (by rfl) rfl rfl (by simp only [List.map_toArray,List.map_cons,List.map_nil];rfl) ?_
    with_reducible refine (of_x wc (by decide) (by decide) (by decide) (by decide) HV2.out.1).mono ?_
    rintro e wc ⟨B1,b1,B2,b2,rfl,hx,hb⟩;refine ⟨_,rfl,?_⟩;have H2:=Aside0.mk hx;replace HW:=Aside0.mk (below_step HW.out hb)
    try replace H1:=Aside0.mk (H1.out.below hb)
    try replace H7:=Aside0.mk (And.intro (blk_below H7.out.1 hb) H7.out.2)
    clear hx hb;refine hK.out _ _ (cells5 (blk_below BF.out HW.out)) (fun hHeld=>?_);clear hK K;refine nZ ?_;refine two_ (i:=3) (j:=7) (Ni:=some 22) (Nj:=some 5) #[true,true,true,true,false,false,false,false,false,false] #[true,true,true,false,false,false,false,true,false,false] rfl rfl rfl rfl (two_of HT_.out (by kernel_rfl)) (by decide) (by decide) (fun K hK=>?_) (fun K hK=>?_)
    ·skip
     refine goes_ Try.func28 (by kernel_rfl) rfl #[.agg #[.int .i64 1,.int .i64 1,.int .i64 1,.slice (some ae) 1 ce,.slice (some ae2) 1 ce2],.int .i64 0,.int .i64 0,.agg #[.bool u2.f0,.slice A1 u2.f1.length a1,.slice A2 u2.f2.length a2],.agg #[.bool v2.f0,.slice B1 v2.f1.length b1,.slice B2 v2.f2.length b2]] (by rfl) rfl rfl (by simp only [List.map_toArray,List.map_cons,List.map_nil];rfl) ?_
     with_reducible refine (add111 HRF.out HW.out HU2.out.2 HV2.out.2 H1.out H2.out).mono ?_
     rintro e wc ⟨ad,c,ad2,c2,rfl,lc,lc2,hrw,hb⟩;refine ⟨_,rfl,?_⟩;have H3:=Aside0.mk (And.intro (hrw.lower HW.out.size) (And.intro lc lc2));replace HW:=Aside0.mk (below_step HW.out hb)
     try replace H7:=Aside0.mk (And.intro (blk_below H7.out.1 hb) H7.out.2)
     clear lc lc2 hrw hb
     try clear H1 H2
     refine hK.out _ _ (cells5 (blk_below BF.out HW.out)) (fun hHeld=>?_);clear hK K;refine nZ ?_;refine zp 4 18 ?_;refine zp 5 23 ?_;refine zp 6 24 ?_
     refine oN 7 (some 5) rfl rfl fun K hK=>?_
     try (obtain ⟨wc,hwc⟩ : ∃ z,wr.drew=z:=⟨_,rfl⟩;rw [hwc] at HW ⊢;clear hwc)
     refine value_ (w1:=?_) (v:=?_) (by rfl) rfl ?_ ?_;rotate_left 2
     ·go_simp
      constructor
      ·rfl
      ·rfl
     obtain ⟨gz,hga⟩ : ∃ g,wc.heap.size=g:=⟨_,rfl⟩;have H7 : Aside0 ((wc.alloc (.cells #[.int .i64 0,.int .i64 0,.int .i64 0,.slice none 0 0,.slice none 0 0] 27)).heap[gz]? = some (.cells #[.int .i64 0,.int .i64 0,.int .i64 0,.slice none 0 0,.slice none 0 0] 27 (0,0))∧wr.heap.size≤gz):=⟨by rw [← hga];exact ⟨blk_new _ _,HW.out.size⟩⟩;rw [hga];clear hga;have HA_ : Below wc.heap.size wc (wc.alloc (.cells #[.int .i64 0,.int .i64 0,.int .i64 0,.slice none 0 0,.slice none 0 0] 27)):=below_alloc (Below.refl _ _) _;replace HW:=Aside0.mk (below_step HW.out HA_)
     try replace H1:=Aside0.mk (H1.out.below HA_)
     try replace H2:=Aside0.mk (H2.out.below HA_)
     try replace H3:=Aside0.mk (And.intro (H3.out.1.below HA_) H3.out.2)
     obtain ⟨wc,hwd⟩ : ∃ wd,wc.alloc (.cells #[.int .i64 0,.int .i64 0,.int .i64 0,.slice none 0 0,.slice none 0 0] 27)=wd:=⟨_,rfl⟩;rw [hwd] at HW H7 ⊢
     try rw [hwd] at H1
     try rw [hwd] at H2
     try rw [hwd] at H3
     clear HA_ hwd;refine hK.out _ _ (cells5 (blk_below BF.out HW.out)) (fun hHeld=>?_);clear hK K;refine nZ ?_;exact norm_ (by simp only [putAll,Act.put,s0,s1,s2]) (hCont (A1,a1,A2,a2,B1,b1,B2,b2,ad,c,ad2,c2,gz) _ ⟨hHeld,HW.out,H3.out,H7.out⟩)
    ·skip
     try (obtain ⟨wc,hwc⟩ : ∃ z,wr.drew=z:=⟨_,rfl⟩;rw [hwc] at HW ⊢;clear hwc)
     refine value_ (w1:=?_) (v:=?_) (by rfl) rfl ?_ ?_;rotate_left 2
     ·go_simp
      constructor
      ·rfl
      ·rfl
     obtain ⟨gz,hga⟩ : ∃ g,wc.heap.size=g:=⟨_,rfl⟩;have H7 : Aside0 ((wc.alloc (.cells #[.int .i64 0,.int .i64 0,.int .i64 0,.slice none 0 0,.slice none 0 0] 27)).heap[gz]? = some (.cells #[.int .i64 0,.int .i64 0,.int .i64 0,.slice none 0 0,.slice none 0 0] 27 (0,0))∧wr.heap.size≤gz):=⟨by rw [← hga];exact ⟨blk_new _ _,HW.out.size⟩⟩;rw [hga];clear hga;have HA_ : Below wc.heap.size wc (wc.alloc (.cells #[.int .i64 0,.int .i64 0,.int .i64 0,.slice none 0 0,.slice none 0 0] 27)):=below_alloc (Below.refl _ _) _;replace HW:=Aside0.mk (below_step HW.out HA_)
     try replace H1:=Aside0.mk (H1.out.below HA_)
     try replace H2:=Aside0.mk (H2.out.below HA_)
     try replace H3:=Aside0.mk (And.intro (H3.out.1.below HA_) H3.out.2)
     obtain ⟨wc,hwd⟩ : ∃ wd,wc.alloc (.cells #[.int .i64 0,.int .i64 0,.int .i64 0,.slice none 0 0,.slice none 0 0] 27)=wd:=⟨_,rfl⟩;rw [hwd] at HW H7 ⊢
     try rw [hwd] at H1
     try rw [hwd] at H2
     try rw [hwd] at H3
     clear HA_ hwd;refine hK.out _ _ (cells5 (blk_below BF.out HW.out)) (fun hHeld=>?_);clear hK K;refine nZ ?_
     refine oN 3 (some 22) rfl rfl fun K hK=>?_
     refine goes_ Try.func28 (by kernel_rfl) rfl #[.agg #[.int .i64 1,.int .i64 1,.int .i64 1,.slice (some ae) 1 ce,.slice (some ae2) 1 ce2],.int .i64 0,.int .i64 0,.agg #[.bool u2.f0,.slice A1 u2.f1.length a1,.slice A2 u2.f2.length a2],.agg #[.bool v2.f0,.slice B1 v2.f1.length b1,.slice B2 v2.f2.length b2]] (by rfl) rfl rfl (by simp only [List.map_toArray,List.map_cons,List.map_nil];rfl) ?_
     with_reducible refine (add111 HRF.out HW.out HU2.out.2 HV2.out.2 H1.out H2.out).mono ?_
     rintro e wc ⟨ad,c,ad2,c2,rfl,lc,lc2,hrw,hb⟩;refine ⟨_,rfl,?_⟩;have H3:=Aside0.mk (And.intro (hrw.lower HW.out.size) (And.intro lc lc2));replace HW:=Aside0.mk (below_step HW.out hb)
     try replace H7:=Aside0.mk (And.intro (blk_below H7.out.1 hb) H7.out.2)
     clear lc lc2 hrw hb
     try clear H1 H2
     refine hK.out _ _ (cells5 (blk_below BF.out HW.out)) (fun hHeld=>?_);clear hK K;refine nZ ?_;refine zp 4 18 ?_;refine zp 5 23 ?_;refine zp 6 24 ?_;exact norm_ (by simp only [putAll,Act.put,s0,s1,s2]) (hCont (A1,a1,A2,a2,B1,b1,B2,b2,ad,c,ad2,c2,gz) _ ⟨hHeld,HW.out,H3.out,H7.out⟩)
   ·skip
    try (obtain ⟨wc,hwc⟩ : ∃ z,wr.drew=z:=⟨_,rfl⟩;rw [hwc] at HW ⊢;clear hwc)
    refine value_ (w1:=?_) (v:=?_) (by rfl) rfl ?_ ?_;rotate_left 2
    ·go_simp
     constructor
     ·rfl
     ·rfl
    obtain ⟨gz,hga⟩ : ∃ g,wc.heap.size=g:=⟨_,rfl⟩;have H7 : Aside0 ((wc.alloc (.cells #[.int .i64 0,.int .i64 0,.int .i64 0,.slice none 0 0,.slice none 0 0] 27)).heap[gz]? = some (.cells #[.int .i64 0,.int .i64 0,.int .i64 0,.slice none 0 0,.slice none 0 0] 27 (0,0))∧wr.heap.size≤gz):=⟨by rw [← hga];exact ⟨blk_new _ _,HW.out.size⟩⟩;rw [hga];clear hga;have HA_ : Below wc.heap.size wc (wc.alloc (.cells #[.int .i64 0,.int .i64 0,.int .i64 0,.slice none 0 0,.slice none 0 0] 27)):=below_alloc (Below.refl _ _) _;replace HW:=Aside0.mk (below_step HW.out HA_)
    try replace H1:=Aside0.mk (H1.out.below HA_)
    try replace H2:=Aside0.mk (H2.out.below HA_)
    try replace H3:=Aside0.mk (And.intro (H3.out.1.below HA_) H3.out.2)
    obtain ⟨wc,hwd⟩ : ∃ wd,wc.alloc (.cells #[.int .i64 0,.int .i64 0,.int .i64 0,.slice none 0 0,.slice none 0 0] 27)=wd:=⟨_,rfl⟩;rw [hwd] at HW H7 ⊢
    try rw [hwd] at H1
    try rw [hwd] at H2
    try rw [hwd] at H3
    clear HA_ hwd;refine hK.out _ _ (cells5 (blk_below BF.out HW.out)) (fun hHeld=>?_);clear hK K;refine nZ ?_
    refine oN 2 (some 21) rfl rfl fun K hK=>?_
    try (obtain ⟨wc,hwc⟩ : ∃ z,wr.drew=z:=⟨_,rfl⟩;rw [hwc] at HW ⊢;clear hwc)
    refine goes_ Try.func29 (by kernel_rfl) rfl #[.int .i64 2,.int .i64 1] (by rfl) rfl rfl (by simp only [List.map_toArray,List.map_cons,List.map_nil];rfl) ?_
    with_reducible refine (of_x wc (by decide) (by decide) (by decide) (by decide) HV2.out.1).mono ?_
    rintro e wc ⟨B1,b1,B2,b2,rfl,hx,hb⟩;refine ⟨_,rfl,?_⟩;have H2:=Aside0.mk hx;replace HW:=Aside0.mk (below_step HW.out hb)
    try replace H1:=Aside0.mk (H1.out.below hb)
    try replace H7:=Aside0.mk (And.intro (blk_below H7.out.1 hb) H7.out.2)
    clear hx hb;refine hK.out _ _ (cells5 (blk_below BF.out HW.out)) (fun hHeld=>?_);clear hK K;refine nZ ?_
    refine oN 3 (some 22) rfl rfl fun K hK=>?_
    refine goes_ Try.func28 (by kernel_rfl) rfl #[.agg #[.int .i64 1,.int .i64 1,.int .i64 1,.slice (some ae) 1 ce,.slice (some ae2) 1 ce2],.int .i64 0,.int .i64 0,.agg #[.bool u2.f0,.slice A1 u2.f1.length a1,.slice A2 u2.f2.length a2],.agg #[.bool v2.f0,.slice B1 v2.f1.length b1,.slice B2 v2.f2.length b2]] (by rfl) rfl rfl (by simp only [List.map_toArray,List.map_cons,List.map_nil];rfl) ?_
    with_reducible refine (add111 HRF.out HW.out HU2.out.2 HV2.out.2 H1.out H2.out).mono ?_
    rintro e wc ⟨ad,c,ad2,c2,rfl,lc,lc2,hrw,hb⟩;refine ⟨_,rfl,?_⟩;have H3:=Aside0.mk (And.intro (hrw.lower HW.out.size) (And.intro lc lc2));replace HW:=Aside0.mk (below_step HW.out hb)
    try replace H7:=Aside0.mk (And.intro (blk_below H7.out.1 hb) H7.out.2)
    clear lc lc2 hrw hb
    try clear H1 H2
    refine hK.out _ _ (cells5 (blk_below BF.out HW.out)) (fun hHeld=>?_);clear hK K;refine nZ ?_;refine zp 4 18 ?_;refine zp 5 23 ?_;refine zp 6 24 ?_;exact norm_ (by simp only [putAll,Act.put,s0,s1,s2]) (hCont (A1,a1,A2,a2,B1,b1,B2,b2,ad,c,ad2,c2,gz) _ ⟨hHeld,HW.out,H3.out,H7.out⟩)
  ·skip
   try (obtain ⟨wc,hwc⟩ : ∃ z,wr.drew=z:=⟨_,rfl⟩;rw [hwc] at HW ⊢;clear hwc)
   refine value_ (w1:=?_) (v:=?_) (by rfl) rfl ?_ ?_;rotate_left 2
   ·go_simp
    constructor
    ·rfl
    ·rfl
   obtain ⟨gz,hga⟩ : ∃ g,wc.heap.size=g:=⟨_,rfl⟩;have H7 : Aside0 ((wc.alloc (.cells #[.int .i64 0,.int .i64 0,.int .i64 0,.slice none 0 0,.slice none 0 0] 27)).heap[gz]? = some (.cells #[.int .i64 0,.int .i64 0,.int .i64 0,.slice none 0 0,.slice none 0 0] 27 (0,0))∧wr.heap.size≤gz):=⟨by rw [← hga];exact ⟨blk_new _ _,HW.out.size⟩⟩;rw [hga];clear hga;have HA_ : Below wc.heap.size wc (wc.alloc (.cells #[.int .i64 0,.int .i64 0,.int .i64 0,.slice none 0 0,.slice none 0 0] 27)):=below_alloc (Below.refl _ _) _;replace HW:=Aside0.mk (below_step HW.out HA_)
   try replace H1:=Aside0.mk (H1.out.below HA_)
   try replace H2:=Aside0.mk (H2.out.below HA_)
   try replace H3:=Aside0.mk (And.intro (H3.out.1.below HA_) H3.out.2)
   obtain ⟨wc,hwd⟩ : ∃ wd,wc.alloc (.cells #[.int .i64 0,.int .i64 0,.int .i64 0,.slice none 0 0,.slice none 0 0] 27)=wd:=⟨_,rfl⟩;rw [hwd] at HW H7 ⊢
   try rw [hwd] at H1
   try rw [hwd] at H2
   try rw [hwd] at H3
   clear HA_ hwd;refine hK.out _ _ (cells5 (blk_below BF.out HW.out)) (fun hHeld=>?_);clear hK K;refine nZ ?_
   refine oN 1 (some 20) rfl rfl fun K hK=>?_
   try (obtain ⟨wc,hwc⟩ : ∃ z,wr.drew=z:=⟨_,rfl⟩;rw [hwc] at HW ⊢;clear hwc)
   refine goes_ Try.func29 (by kernel_rfl) rfl #[.int .i64 1,.int .i64 3] (by rfl) rfl rfl (by simp only [List.map_toArray,List.map_cons,List.map_nil];rfl) ?_
   with_reducible refine (of_x wc (by decide) (by decide) (by decide) (by decide) HU2.out.1).mono ?_
   rintro e wc ⟨A1,a1,A2,a2,rfl,hx,hb⟩;refine ⟨_,rfl,?_⟩;have H1:=Aside0.mk hx;replace HW:=Aside0.mk (below_step HW.out hb)
   try replace H7:=Aside0.mk (And.intro (blk_below H7.out.1 hb) H7.out.2)
   clear hx hb;refine hK.out _ _ (cells5 (blk_below BF.out HW.out)) (fun hHeld=>?_);clear hK K;refine nZ ?_
   refine oN 2 (some 21) rfl rfl fun K hK=>?_
   try (obtain ⟨wc,hwc⟩ : ∃ z,wr.drew=z:=⟨_,rfl⟩;rw [hwc] at HW ⊢;clear hwc)
   refine goes_ Try.func29 (by kernel_rfl) rfl #[.int .i64 2,.int .i64 1] (by rfl) rfl rfl (by simp only [List.map_toArray,List.map_cons,List.map_nil];rfl) ?_
   with_reducible refine (of_x wc (by decide) (by decide) (by decide) (by decide) HV2.out.1).mono ?_
   rintro e wc ⟨B1,b1,B2,b2,rfl,hx,hb⟩;refine ⟨_,rfl,?_⟩;have H2:=Aside0.mk hx;replace HW:=Aside0.mk (below_step HW.out hb)
   try replace H1:=Aside0.mk (H1.out.below hb)
   try replace H7:=Aside0.mk (And.intro (blk_below H7.out.1 hb) H7.out.2)
   clear hx hb;refine hK.out _ _ (cells5 (blk_below BF.out HW.out)) (fun hHeld=>?_);clear hK K;refine nZ ?_
   refine oN 3 (some 22) rfl rfl fun K hK=>?_
   refine goes_ Try.func28 (by kernel_rfl) rfl #[.agg #[.int .i64 1,.int .i64 1,.int .i64 1,.slice (some ae) 1 ce,.slice (some ae2) 1 ce2],.int .i64 0,.int .i64 0,.agg #[.bool u2.f0,.slice A1 u2.f1.length a1,.slice A2 u2.f2.length a2],.agg #[.bool v2.f0,.slice B1 v2.f1.length b1,.slice B2 v2.f2.length b2]] (by rfl) rfl rfl (by simp only [List.map_toArray,List.map_cons,List.map_nil];rfl) ?_
   with_reducible refine (add111 HRF.out HW.out HU2.out.2 HV2.out.2 H1.out H2.out).mono ?_
   rintro e wc ⟨ad,c,ad2,c2,rfl,lc,lc2,hrw,hb⟩;refine ⟨_,rfl,?_⟩;have H3:=Aside0.mk (And.intro (hrw.lower HW.out.size) (And.intro lc lc2));replace HW:=Aside0.mk (below_step HW.out hb)
   try replace H7:=Aside0.mk (And.intro (blk_below H7.out.1 hb) H7.out.2)
   clear lc lc2 hrw hb
   try clear H1 H2
   refine hK.out _ _ (cells5 (blk_below BF.out HW.out)) (fun hHeld=>?_);clear hK K;refine nZ ?_;refine zp 4 18 ?_;refine zp 5 23 ?_;refine zp 6 24 ?_;exact norm_ (by simp only [putAll,Act.put,s0,s1,s2]) (hCont (A1,a1,A2,a2,B1,b1,B2,b2,ad,c,ad2,c2,gz) _ ⟨hHeld,HW.out,H3.out,H7.out⟩)
 rintro ⟨A1,a1,A2,a2,B1,b1,B2,b2,ad,c,ad2,c2,gz⟩ wc ⟨hHeld,h1,h2,h3,h4⟩;dsimp only at h1 h2 h3 h4;replace HW:=Aside0.mk h1;have H3:=Aside0.mk h2;have H7:=Aside0.mk (And.intro h3 h4);clear h1 h2 h3 h4;refine norm_ (a':=?_) ?_ ?_;rotate_left
 ·simp only [putAll,Act.put,s0,s1,s2]
  rfl
 refine oN 8 (none) rfl rfl fun K hK=>?_
 have q0:=cells5 H7.out.1;have q1:=free5 H7.out.1;refine skip_ (w1:=?_) (by rfl) rfl ?_ ?_;rotate_left
 ·go_simp
  rfl
 clear q0 q1
 have hne : g1≠gz:=fun e=>by have h1:=blk_lt BF.out;have h2:=H7.out.2;omega
 refine hK.out _ _ (cells5 (far5 (blk_below BF.out HW.out) hne _ _ _ _ _)) (fun hHeld=>?_);clear hK K;refine zp 9 6 ?_;refine dN ?_;have k5 : Tk [3,63,82] wc (((((wc.setCell ⟨gz,0,none⟩ (.int .i64 1)).setCell ⟨gz,1,none⟩ (.int .i64 1)).setCell ⟨gz,2,none⟩ (.int .i64 1)).setCell ⟨gz,3,none⟩ (.slice (some ad) 1 c)).setCell ⟨gz,4,none⟩ (.slice (some ad2) 1 c2)):=tk_set5 H7.out.1 (by decide) _ _ _ _ _ inferInstance
 have hne3 : g3≠gz:=fun e=>by have h1:=blk_lt B3.out;have h2:=H7.out.2;omega
 have HB4 : Aside0 (Below w.heap.size w (((((wc.setCell ⟨gz,0,none⟩ (.int .i64 1)).setCell ⟨gz,1,none⟩ (.int .i64 1)).setCell ⟨gz,2,none⟩ (.int .i64 1)).setCell ⟨gz,3,none⟩ (.slice (some ad) 1 c)).setCell ⟨gz,4,none⟩ (.slice (some ad2) 1 c2))):=⟨low5 (g:=gz) (below_step HB2.out HW.out) (Nat.le_trans HB2.out.size H7.out.2) _ _ _ _ _⟩;have b3 : (((((wc.setCell ⟨gz,0,none⟩ (.int .i64 1)).setCell ⟨gz,1,none⟩ (.int .i64 1)).setCell ⟨gz,2,none⟩ (.int .i64 1)).setCell ⟨gz,3,none⟩ (.slice (some ad) 1 c)).setCell ⟨gz,4,none⟩ (.slice (some ad2) 1 c2)).heap[g3]? = some (.cells #[.int .i64 1,.int .i64 1,.int .i64 1,.slice (some xd) 1 xc,.slice (some xd2) 1 xc2] 27 (0,0)):=far5 (blk_below B3.out HW.out) hne3 (.int .i64 1) (.int .i64 1) (.int .i64 1) (.slice (some ad) 1 c) (.slice (some ad2) 1 c2);have b5 : (((((wc.setCell ⟨gz,0,none⟩ (.int .i64 1)).setCell ⟨gz,1,none⟩ (.int .i64 1)).setCell ⟨gz,2,none⟩ (.int .i64 1)).setCell ⟨gz,3,none⟩ (.slice (some ad) 1 c)).setCell ⟨gz,4,none⟩ (.slice (some ad2) 1 c2)).heap[gz]? = some (.cells #[.int .i64 1,.int .i64 1,.int .i64 1,.slice (some ad) 1 c,.slice (some ad2) 1 c2] 27 (0,0)):=put5 H7.out.1 (.int .i64 1) (.int .i64 1) (.int .i64 1) (.slice (some ad) 1 c) (.slice (some ad2) 1 c2);have h3:=(HR3.out.below HW.out).tk (k5.less (by simp));have h5:=H3.out.1.tk (k5.less (by simp));obtain ⟨wz,hwz⟩ : ∃ z,((((wc.setCell ⟨gz,0,none⟩ (.int .i64 1)).setCell ⟨gz,1,none⟩ (.int .i64 1)).setCell ⟨gz,2,none⟩ (.int .i64 1)).setCell ⟨gz,3,none⟩ (.slice (some ad) 1 c)).setCell ⟨gz,4,none⟩ (.slice (some ad2) 1 c2)=z:=⟨_,rfl⟩
 rw [hwz] at HB4 b3 b5 h3 h5 ⊢;have HR:=Aside0.mk (And.intro h3 h5);have q0:=cells5 b3;have q1:=cells5 b5;clear k5 hwz hne hne3 b3 b5 h3 h5 H7 H3 HW HR3 HRF BF B3 HB2 hHeld
 go_wp2
 go_ret
 exact ⟨wz.heap.size,rfl,film_lit (film_K (M:=1) HR.out.1 (by decide) ⟨rfl,rfl⟩) (film_K (M:=1) HR.out.2 (by decide) ⟨rfl,rfl⟩),below_alloc HB4.out _⟩
end Go.Proofs.Ytjiaobcoeegioaa.Pq
end
section
namespace Go.Proofs.Ytjiaobcoeegioaa.Pq
open Go.RowKit Go.Proofs.YtjiaobcoeegioaaW.PrintWords Go.Proofs.YtjiaobcoeegioaaW.PrintLast Go.Proofs.YtjiaobcoeegioaaW.PrintMore
attribute [local go_sem] max2_int min2_int max_two min_two max_three min_three max_four min_four
set_option maxHeartbeats 8000000
set_option maxRecDepth 100000
theorem penumbraref15_Ints.calls (k : Nat) (A0 : Option Addr) (c0 : Nat) (l0 : List Int) (A1 : Option Addr) (c1 : Nat) (l1 : List Int) (r : Bool) (w : World) (hr0 : Kd.C (Kd.int .i64) w A0 l0.length l0) (hc0 : l0.length≤c0) (hr1 : Kd.C (Kd.int .i64) w A1 l1.length l1) (hc1 : l1.length≤c1) (h : penumbraref15_Ints.f k l0 l1=some r) :
  Calls Try.prog 12 #[.slice A0 l0.length c0,.slice A1 l1.length c1] w fun e w'=>e=.returned (.bool r)∧Drawn0 w w':=by
 have HR0:=Aside0.mk hr0;have HC0:=Aside0.mk hc0;clear hr0 hc0;have HR1:=Aside0.mk hr1;have HC1:=Aside0.mk hc1;clear hr1 hc1;have H : (if (l0.length : Int)=(l1.length : Int) then (penumbraref15_Ints.l0 k l0 l1 0) else (some false))=some r:=h;clear h
 by_cases c3 : (l0.length : Int)=(l1.length : Int)
 ·rw [if_pos c3] at H
  have c3b0 : ((l0.length : Int) == (l1.length : Int))=true:=beq_iff_eq.mpr c3;have c3b1 : ((l0.length : Int) != (l1.length : Int))=false:=bne_eq_false_iff_eq.mpr c3
  have c3b2 : (l0.length == l1.length)=true:=by first|simpa using c3|(simp at c3 ⊢;omega)
  clear c3;have H':=Aside0.mk H;clear H
  go_enter Try.func12,Try.ntmps12
  go_wp2
  go_loopg [5] k (fun kq v5 w'=>∃ (x5_1 : Int),v5=.int .i64 x5_1∧Aside0 (penumbraref15_Ints.l0 kq l0 l1 x5_1=some r)∧Aside0 (kq≤k)∧Drawn0 w w')
  case atStart=>exact ⟨(0),sD,H',⟨Nat.le_refl _⟩,by repeat (first|exact Drawn0.refl _|apply Drawn0.step)⟩
  case round =>
   clear H';obtain ⟨x5_1,rfl,HA,HK1,⟨m1,rfl⟩⟩:=hrel
   cases gk with
   | zero=>exact absurd HA.out (by simp [penumbraref15_Ints.l0])
   | succ k1 =>
    have H:=HA.out;clear HA;simp only [penumbraref15_Ints.l0] at H
    by_cases c4 : x5_1 < (l0.length : Int)
    ·rw [if_pos c4] at H
     have c4b0 : decide (x5_1 < (l0.length : Int))=true:=decide_eq_true c4;clear c4;refine ifT H ?_;clear H;intro c5 H;have c5b0 : decide (0≤x5_1)=true:=decide_eq_true c5;clear c5;refine ifT H ?_;clear H;intro c6 H;have c6b0 : decide (x5_1 < (l1.length : Int))=true:=decide_eq_true c6;clear c6
     by_cases c7 : (rd l0 x5_1)=(rd l1 x5_1)
     ·rw [if_pos c7] at H
      have c7b0 : ((rd l0 x5_1) == (rd l1 x5_1))=true:=beq_iff_eq.mpr c7;have c7b1 : ((rd l0 x5_1) != (rd l1 x5_1))=false:=bne_eq_false_iff_eq.mpr c7;clear c7;have H':=Aside0.mk H;clear H;have p453 : 0≤(x5_1 : Int):=oA;have q453 : x5_1 < (l0.length : Int):=oA;obtain ⟨ad453,e453,hx453_0⟩:=Kd.at_int HR0.out x5_1 p453 q453;cases e453;replace p453:=eq_true p453;replace q453:=eq_true q453;have p454 : 0≤(x5_1 : Int):=oA;have q454 : x5_1 < (l1.length : Int):=oA;obtain ⟨ad454,e454,hx454_0⟩:=Kd.at_int HR1.out x5_1 p454 q454;cases e454;replace p454:=eq_true p454;replace q454:=eq_true q454
      go_wp2
      repeat (go_quiet (fail);try go_wp2)
      go_roundg k1
      case measure=>have:=HK1.out;omega
      case rel=>exact ⟨(wrap64 (x5_1+1)),sD,H',⟨by have:=HK1.out;omega⟩,by repeat (first|exact Drawn0.refl _|apply Drawn0.step)⟩
     ·rw [if_neg c7] at H
      have c7b0 : ((rd l0 x5_1) == (rd l1 x5_1))=false:=beq_eq_false_iff_ne.mpr c7;have c7b1 : ((rd l0 x5_1) != (rd l1 x5_1))=true:=bne_iff_ne.mpr c7;obtain rfl:=Option.some.inj H;have p453 : 0≤(x5_1 : Int):=oA;have q453 : x5_1 < (l0.length : Int):=oA;obtain ⟨ad453,e453,hx453_0⟩:=Kd.at_int HR0.out x5_1 p453 q453;cases e453;replace p453:=eq_true p453;replace q453:=eq_true q453;have p454 : 0≤(x5_1 : Int):=oA;have q454 : x5_1 < (l1.length : Int):=oA;obtain ⟨ad454,e454,hx454_0⟩:=Kd.at_int HR1.out x5_1 p454 q454;cases e454;replace p454:=eq_true p454;replace q454:=eq_true q454
      go_wp2
      repeat (go_quiet (fail);try go_wp2)
      go_ret
      exact ⟨sD,by repeat (first|exact Drawn0.refl _|apply Drawn0.step)⟩
    ·rw [if_neg c4] at H
     have c4b0 : decide (x5_1 < (l0.length : Int))=false:=decide_eq_false c4;clear c4;obtain rfl:=Option.some.inj H
     go_wp2
     go_ret
     exact ⟨sD,by repeat (first|exact Drawn0.refl _|apply Drawn0.step)⟩
 ·rw [if_neg c3] at H
  have c3b0 : ((l0.length : Int) == (l1.length : Int))=false:=beq_eq_false_iff_ne.mpr c3;have c3b1 : ((l0.length : Int) != (l1.length : Int))=true:=bne_iff_ne.mpr c3
  have c3b2 : (l0.length == l1.length)=false:=by first|simpa using c3|(simp at c3 ⊢;omega)
  obtain rfl:=Option.some.inj H
  go_enter Try.func12,Try.ntmps12
  go_wp2
  go_ret
  exact ⟨sD,by repeat (first|exact Drawn0.refl _|apply Drawn0.step)⟩
theorem penumbraref01_Same.calls (k : Nat) (A0 : Option Addr) (c0 : Nat) (l0 : List Int) (A1 : Option Addr) (c1 : Nat) (l1 : List Int) (r : Bool) (w : World) (hr0 : Kd.C (Kd.int .u32) w A0 l0.length l0) (hc0 : l0.length≤c0) (hr1 : Kd.C (Kd.int .u32) w A1 l1.length l1) (hc1 : l1.length≤c1) (h : penumbraref01_Same.f k l0 l1=some r) :
  Calls Try.prog 48 #[.slice A0 l0.length c0,.slice A1 l1.length c1] w fun e w'=>e=.returned (.bool r)∧Drawn0 w w':=by
 have HR0:=Aside0.mk hr0;have HC0:=Aside0.mk hc0;clear hr0 hc0;have HR1:=Aside0.mk hr1;have HC1:=Aside0.mk hc1;clear hr1 hc1;have H : (if (l0.length : Int)=(l1.length : Int) then (penumbraref01_Same.l0 k l0 l1 0) else (some false))=some r:=h;clear h
 by_cases c3 : (l0.length : Int)=(l1.length : Int)
 ·rw [if_pos c3] at H
  have c3b0 : ((l0.length : Int) == (l1.length : Int))=true:=beq_iff_eq.mpr c3;have c3b1 : ((l0.length : Int) != (l1.length : Int))=false:=bne_eq_false_iff_eq.mpr c3
  have c3b2 : (l0.length == l1.length)=true:=by first|simpa using c3|(simp at c3 ⊢;omega)
  clear c3;have H':=Aside0.mk H;clear H
  go_enter Try.func48,Try.ntmps48
  go_wp2
  go_loopg [5] k (fun kq v5 w'=>∃ (x5_1 : Int),v5=.int .i64 x5_1∧Aside0 (penumbraref01_Same.l0 kq l0 l1 x5_1=some r)∧Aside0 (kq≤k)∧Drawn0 w w')
  case atStart=>exact ⟨(0),sD,H',⟨Nat.le_refl _⟩,by repeat (first|exact Drawn0.refl _|apply Drawn0.step)⟩
  case round =>
   clear H';obtain ⟨x5_1,rfl,HA,HK1,⟨m1,rfl⟩⟩:=hrel
   cases gk with
   | zero=>exact absurd HA.out (by simp [penumbraref01_Same.l0])
   | succ k1 =>
    have H:=HA.out;clear HA;simp only [penumbraref01_Same.l0] at H
    by_cases c4 : x5_1 < (l0.length : Int)
    ·rw [if_pos c4] at H
     have c4b0 : decide (x5_1 < (l0.length : Int))=true:=decide_eq_true c4;clear c4;refine ifT H ?_;clear H;intro c5 H;have c5b0 : decide (0≤x5_1)=true:=decide_eq_true c5;clear c5;refine ifT H ?_;clear H;intro c6 H;have c6b0 : decide (x5_1 < (l1.length : Int))=true:=decide_eq_true c6;clear c6
     by_cases c7 : (rd l0 x5_1)=(rd l1 x5_1)
     ·rw [if_pos c7] at H
      have c7b0 : ((rd l0 x5_1) == (rd l1 x5_1))=true:=beq_iff_eq.mpr c7;have c7b1 : ((rd l0 x5_1) != (rd l1 x5_1))=false:=bne_eq_false_iff_eq.mpr c7;clear c7;have H':=Aside0.mk H;clear H;have p440 : 0≤(x5_1 : Int):=oA;have q440 : x5_1 < (l0.length : Int):=oA;obtain ⟨ad440,e440,hx440_0⟩:=Kd.at_int HR0.out x5_1 p440 q440;cases e440;replace p440:=eq_true p440;replace q440:=eq_true q440;have p441 : 0≤(x5_1 : Int):=oA;have q441 : x5_1 < (l1.length : Int):=oA;obtain ⟨ad441,e441,hx441_0⟩:=Kd.at_int HR1.out x5_1 p441 q441;cases e441;replace p441:=eq_true p441;replace q441:=eq_true q441
      go_wp2
      repeat (go_quiet (fail);try go_wp2)
      go_roundg k1
      case measure=>have:=HK1.out;omega
      case rel=>exact ⟨(wrap64 (x5_1+1)),sD,H',⟨by have:=HK1.out;omega⟩,by repeat (first|exact Drawn0.refl _|apply Drawn0.step)⟩
     ·rw [if_neg c7] at H
      have c7b0 : ((rd l0 x5_1) == (rd l1 x5_1))=false:=beq_eq_false_iff_ne.mpr c7;have c7b1 : ((rd l0 x5_1) != (rd l1 x5_1))=true:=bne_iff_ne.mpr c7;obtain rfl:=Option.some.inj H;have p440 : 0≤(x5_1 : Int):=oA;have q440 : x5_1 < (l0.length : Int):=oA;obtain ⟨ad440,e440,hx440_0⟩:=Kd.at_int HR0.out x5_1 p440 q440;cases e440;replace p440:=eq_true p440;replace q440:=eq_true q440;have p441 : 0≤(x5_1 : Int):=oA;have q441 : x5_1 < (l1.length : Int):=oA;obtain ⟨ad441,e441,hx441_0⟩:=Kd.at_int HR1.out x5_1 p441 q441;cases e441;replace p441:=eq_true p441;replace q441:=eq_true q441
      go_wp2
      repeat (go_quiet (fail);try go_wp2)
      go_ret
      exact ⟨sD,by repeat (first|exact Drawn0.refl _|apply Drawn0.step)⟩
    ·rw [if_neg c4] at H
     have c4b0 : decide (x5_1 < (l0.length : Int))=false:=decide_eq_false c4;clear c4;obtain rfl:=Option.some.inj H
     go_wp2
     go_ret
     exact ⟨sD,by repeat (first|exact Drawn0.refl _|apply Drawn0.step)⟩
 ·rw [if_neg c3] at H
  have c3b0 : ((l0.length : Int) == (l1.length : Int))=false:=beq_eq_false_iff_ne.mpr c3;have c3b1 : ((l0.length : Int) != (l1.length : Int))=true:=bne_iff_ne.mpr c3
  have c3b2 : (l0.length == l1.length)=false:=by first|simpa using c3|(simp at c3 ⊢;omega)
  obtain rfl:=Option.some.inj H
  go_enter Try.func48,Try.ntmps48
  go_wp2
  go_ret
  exact ⟨sD,by repeat (first|exact Drawn0.refl _|apply Drawn0.step)⟩
theorem penumbraref03_Is.calls (k : Nat) (a0_0 : Bool) (A0_1 : Option Addr) (c0_1 : Nat) (l0_1 : List Int) (A0_2 : Option Addr) (c0_2 : Nat) (l0_2 : List Int) (a1_0 : Bool) (A1_1 : Option Addr) (c1_1 : Nat) (l1_1 : List Int) (A1_2 : Option Addr) (c1_2 : Nat) (l1_2 : List Int) (r : Bool) (w : World) (hr0_1 : Kd.C (Kd.int .u32) w A0_1 l0_1.length l0_1) (hc0_1 : l0_1.length≤c0_1) (hr0_2 : Kd.C (Kd.int .u32) w A0_2 l0_2.length l0_2) (hc0_2 : l0_2.length≤c0_2) (hr1_1 : Kd.C (Kd.int .u32) w A1_1 l1_1.length l1_1) (hc1_1 : l1_1.length≤c1_1) (hr1_2 : Kd.C (Kd.int .u32) w A1_2 l1_2.length l1_2) (hc1_2 : l1_2.length≤c1_2) (h : penumbraref03_Is.f k a0_0 l0_1 l0_2 a1_0 l1_1 l1_2=some r) :
  Calls Try.prog 37 #[.agg #[.bool a0_0,.slice A0_1 l0_1.length c0_1,.slice A0_2 l0_2.length c0_2],.agg #[.bool a1_0,.slice A1_1 l1_1.length c1_1,.slice A1_2 l1_2.length c1_2]] w fun e w'=>e=.returned (.bool r)∧Below w.heap.size w w':=by
 have hu63:=Try.underlying63;have HR0_1:=Aside0.mk hr0_1;have HC0_1:=Aside0.mk hc0_1;clear hr0_1 hc0_1;have HR0_2:=Aside0.mk hr0_2;have HC0_2:=Aside0.mk hc0_2;clear hr0_2 hc0_2;have HR1_1:=Aside0.mk hr1_1;have HC1_1:=Aside0.mk hc1_1;clear hr1_1 hc1_1;have HR1_2:=Aside0.mk hr1_2;have HC1_2:=Aside0.mk hc1_2;clear hr1_2 hc1_2;have HB:=Aside0.mk (Below.refl w.heap.size w);have H : (if (a0_0 == a1_0)=true then ((penumbraref01_Same.f k l0_1 l1_1).bind fun t444=>(if t444=true then ((penumbraref01_Same.f k l0_2 l1_2).bind fun t445=>(some t445)) else (some false))) else (some false))=some r:=h;clear h
 by_cases c3 : (a0_0 == a1_0)=true
 ·rw [if_pos c3] at H
  have c3b0 : (a0_0 == a1_0)=true:=c3
  (try (have c3b1 : decide (a0_0=a1_0)=true:=by simpa using c3))
  (try (have c3b2 : (a0_0 == a1_0)=true:=by simpa using c3))
  clear c3;refine biT H ?_;clear H;intro t444 A4 H;(try dsimp only at H);replace A4:=Aside0.mk A4
  by_cases c5 : t444=true
  ·subst c5
   rw [if_pos rfl] at H;refine biT H ?_;clear H;intro t445 A6 H;(try dsimp only at H);replace A6:=Aside0.mk A6;obtain rfl:=Option.some.inj H
   go_enter Try.func37,Try.ntmps37
   go_wp2_with (first|((with_reducible refine gate_dst (N:=2) rfl ?_);refine boxA #[.bool a0_0,.slice A0_1 l0_1.length c0_1,.slice A0_2 l0_2.length c0_2] 63 ?_;intro gb442 hg w7 hbox hb;have BK442:=Aside0.mk hbox;have GW442:=Aside0.mk ((by rw [hg];exact (below_size (bL HB.out)) : w.heap.size≤gb442));have GE442:=Aside0.mk ((by rw [hg];exact (below_size (bL HB.out)) : w.heap.size≤gb442));replace HB:=bH HB hb;clear hb hbox hg)|((with_reducible refine gate_dst (N:=3) rfl ?_);refine boxA #[.bool a1_0,.slice A1_1 l1_1.length c1_1,.slice A1_2 l1_2.length c1_2] 63 ?_;intro gb443 hg w8 hbox hb;have BK443:=Aside0.mk hbox;have GW443:=Aside0.mk ((by rw [hg];exact (below_size (bL HB.out)) : w.heap.size≤gb443));have GE443:=Aside0.mk ((by rw [hg];exact (below_size (bL HB.out)) : w.heap.size≤gb443));replace HB:=bH HB hb;have NB442_443:=Aside0.mk ((by rw [hg];exact Nat.ne_of_lt (blk_lt (Bu BK442.out)) : gb442≠gb443));have NB443_442:=Aside0.mk ((by rw [hg];exact Nat.ne_of_gt (blk_lt (Bu BK442.out)) : gb443≠gb442));replace BK442:=bK BK442 hb;clear hb hbox hg;have hnb9:=NB442_443.out;have hnc9:=NB443_442.out;obtain ⟨hcz10_0,hcz10_1,hcz10_2⟩:=cl3 BK442.out;obtain ⟨hfz10_0,hfz10_1,hfz10_2⟩:=fr3 BK442.out;obtain ⟨hcz11_0,hcz11_1,hcz11_2⟩:=cl3 BK443.out;obtain ⟨hfz11_0,hfz11_1,hfz11_2⟩:=fr3 BK443.out)|(go_at_call 48;(with_reducible refine (penumbraref01_Same.calls k _ _ l0_1 _ _ l1_1 true _ ?s1_ ?s2_ ?s3_ ?s4_ A4.out).mono ?_);(case s1_=>exact Cu (Kd.C_below HR0_1.out HB.out));(case s2_=>exact HC0_1.out);(case s3_=>exact Cu (Kd.C_below HR1_1.out HB.out));(case s4_=>exact HC1_1.out);rintro e w' ⟨rfl,⟨nd,rfl⟩⟩)|(go_at_call 48;(with_reducible refine (penumbraref01_Same.calls k _ _ l0_2 _ _ l1_2 t445 _ ?s1_ ?s2_ ?s3_ ?s4_ A6.out).mono ?_);(case s1_=>exact Cu (Kd.C_below HR0_2.out (bL HB.out)));(case s2_=>exact HC0_2.out);(case s3_=>exact Cu (Kd.C_below HR1_2.out (bL HB.out)));(case s4_=>exact HC1_2.out);rintro e w' ⟨rfl,⟨nd,rfl⟩⟩))
   go_ret
   exact ⟨eW,bL HB.out⟩
  ·replace c5:=Bool.eq_false_iff.mpr c5
   subst c5;rw [if_neg (show ¬ (false=true) by decide)] at H;obtain rfl:=Option.some.inj H
   go_enter Try.func37,Try.ntmps37
   go_wp2_with (first|((with_reducible refine gate_dst (N:=2) rfl ?_);refine boxA #[.bool a0_0,.slice A0_1 l0_1.length c0_1,.slice A0_2 l0_2.length c0_2] 63 ?_;intro gb442 hg w12 hbox hb;have BK442:=Aside0.mk hbox;have GW442:=Aside0.mk ((by rw [hg];exact (below_size (bL HB.out)) : w.heap.size≤gb442));have GE442:=Aside0.mk ((by rw [hg];exact (below_size (bL HB.out)) : w.heap.size≤gb442));replace HB:=bH HB hb;clear hb hbox hg)|((with_reducible refine gate_dst (N:=3) rfl ?_);refine boxA #[.bool a1_0,.slice A1_1 l1_1.length c1_1,.slice A1_2 l1_2.length c1_2] 63 ?_;intro gb443 hg w13 hbox hb;have BK443:=Aside0.mk hbox;have GW443:=Aside0.mk ((by rw [hg];exact (below_size (bL HB.out)) : w.heap.size≤gb443));have GE443:=Aside0.mk ((by rw [hg];exact (below_size (bL HB.out)) : w.heap.size≤gb443));replace HB:=bH HB hb;have NB442_443:=Aside0.mk ((by rw [hg];exact Nat.ne_of_lt (blk_lt (Bu BK442.out)) : gb442≠gb443));have NB443_442:=Aside0.mk ((by rw [hg];exact Nat.ne_of_gt (blk_lt (Bu BK442.out)) : gb443≠gb442));replace BK442:=bK BK442 hb;clear hb hbox hg;have hnb14:=NB442_443.out;have hnc14:=NB443_442.out;obtain ⟨hcz15_0,hcz15_1,hcz15_2⟩:=cl3 BK442.out;obtain ⟨hfz15_0,hfz15_1,hfz15_2⟩:=fr3 BK442.out;obtain ⟨hcz16_0,hcz16_1,hcz16_2⟩:=cl3 BK443.out;obtain ⟨hfz16_0,hfz16_1,hfz16_2⟩:=fr3 BK443.out)|(go_at_call 48;(with_reducible refine (penumbraref01_Same.calls k _ _ l0_1 _ _ l1_1 false _ ?s1_ ?s2_ ?s3_ ?s4_ A4.out).mono ?_);(case s1_=>exact Cu (Kd.C_below HR0_1.out HB.out));(case s2_=>exact HC0_1.out);(case s3_=>exact Cu (Kd.C_below HR1_1.out HB.out));(case s4_=>exact HC1_1.out);rintro e w' ⟨rfl,⟨nd,rfl⟩⟩))
   go_ret
   exact ⟨eW,bL HB.out⟩
 ·rw [if_neg c3] at H
  have c3b0 : (a0_0 == a1_0)=false:=by simpa using c3
  (try (have c3b1 : decide (a0_0=a1_0)=false:=by simpa using c3))
  (try (have c3b2 : (a0_0 == a1_0)=false:=by simpa using c3))
  (try (have c3b3 : ¬ (a0_0=a1_0):=by simpa using c3))
  clear c3;obtain rfl:=Option.some.inj H
  go_enter Try.func37,Try.ntmps37
  go_wp2_with (first|((with_reducible refine gate_dst (N:=2) rfl ?_);refine boxA #[.bool a0_0,.slice A0_1 l0_1.length c0_1,.slice A0_2 l0_2.length c0_2] 63 ?_;intro gb442 hg w17 hbox hb;have BK442:=Aside0.mk hbox;have GW442:=Aside0.mk ((by rw [hg];exact (below_size (bL HB.out)) : w.heap.size≤gb442));have GE442:=Aside0.mk ((by rw [hg];exact (below_size (bL HB.out)) : w.heap.size≤gb442));replace HB:=bH HB hb;clear hb hbox hg)|((with_reducible refine gate_dst (N:=3) rfl ?_);refine boxA #[.bool a1_0,.slice A1_1 l1_1.length c1_1,.slice A1_2 l1_2.length c1_2] 63 ?_;intro gb443 hg w18 hbox hb;have BK443:=Aside0.mk hbox;have GW443:=Aside0.mk ((by rw [hg];exact (below_size (bL HB.out)) : w.heap.size≤gb443));have GE443:=Aside0.mk ((by rw [hg];exact (below_size (bL HB.out)) : w.heap.size≤gb443));replace HB:=bH HB hb;have NB442_443:=Aside0.mk ((by rw [hg];exact Nat.ne_of_lt (blk_lt (Bu BK442.out)) : gb442≠gb443));have NB443_442:=Aside0.mk ((by rw [hg];exact Nat.ne_of_gt (blk_lt (Bu BK442.out)) : gb443≠gb442));replace BK442:=bK BK442 hb;clear hb hbox hg;have hnb19:=NB442_443.out;have hnc19:=NB443_442.out;obtain ⟨hcz20_0,hcz20_1,hcz20_2⟩:=cl3 BK442.out;obtain ⟨hfz20_0,hfz20_1,hfz20_2⟩:=fr3 BK442.out;obtain ⟨hcz21_0,hcz21_1,hcz21_2⟩:=cl3 BK443.out;obtain ⟨hfz21_0,hfz21_1,hfz21_2⟩:=fr3 BK443.out))
  go_ret
  exact ⟨eW,bL HB.out⟩
def penumbraref09_Same.T6 : Bool × List (List Nat × List Nat):=(true,[([],[]),([],[]),([0,1],[0,1]),([2],[2]),([],[]),([],[]),([4,5],[4,5]),([6],[6]),([3,7],[3,7]),([8],[8])])
def penumbraref09_Same.B6 : List Nat:=[0,0,3,7,0,0,48,112,255,511]
theorem penumbraref09_Same.tab6 : rtab .any (opsOf Try.f24 6)=penumbraref09_Same.T6:=by kernel_rfl
theorem penumbraref09_Same.bits6 : waitsOk penumbraref09_Same.T6.2 penumbraref09_Same.B6=true:=by kernel_rfl
theorem penumbraref09_Same.calls (k : Nat) (A0 : Option Addr) (c0 : Nat) (l0 : List (S63)) (A1 : Option Addr) (c1 : Nat) (l1 : List (S63)) (r : Bool) (w : World) (hr0 : Kd.C k63 w A0 l0.length l0) (hc0 : l0.length≤c0) (hr1 : Kd.C k63 w A1 l1.length l1) (hc1 : l1.length≤c1) (h : penumbraref09_Same.f k l0 l1=some r) :
  Calls Try.prog 24 #[.slice A0 l0.length c0,.slice A1 l1.length c1] w fun e w'=>e=.returned (.bool r)∧Below w.heap.size w w':=by
 have hu63:=Try.underlying63;have HR0:=Aside0.mk hr0;have HC0:=Aside0.mk hc0;clear hr0 hc0;have HR1:=Aside0.mk hr1;have HC1:=Aside0.mk hc1;clear hr1 hc1;have HB:=Aside0.mk (Below.refl w.heap.size w);have H : (if (l0.length : Int)=(l1.length : Int) then (penumbraref09_Same.l0 k l0 l1 0) else (some false))=some r:=h;clear h
 by_cases c3 : (l0.length : Int)=(l1.length : Int)
 ·rw [if_pos c3] at H
  have c3b0 : ((l0.length : Int) == (l1.length : Int))=true:=beq_iff_eq.mpr c3;have c3b1 : ((l0.length : Int) != (l1.length : Int))=false:=bne_eq_false_iff_eq.mpr c3
  have c3b2 : (l0.length == l1.length)=true:=by first|simpa using c3|(simp at c3 ⊢;omega)
  clear c3;have H':=Aside0.mk H;clear H
  go_enter Try.func24,Try.ntmps24
  go_wp2
  go_loopg [5] k (fun kq v5 w'=>∃ (x5_1 : Int),v5=.int .i64 x5_1∧Aside0 (penumbraref09_Same.l0 kq l0 l1 x5_1=some r)∧Aside0 (kq≤k)∧Aside0 (Below w.heap.size w w'))
  case atStart=>exact ⟨(0),sD,H',⟨Nat.le_refl _⟩,⟨bL HB.out⟩⟩
  case round =>
   clear H';obtain ⟨x5_1,rfl,HA,HK1,HB⟩:=hrel
   cases gk with
   | zero=>exact absurd HA.out (by simp [penumbraref09_Same.l0])
   | succ k1 =>
    have H:=HA.out;clear HA;simp only [penumbraref09_Same.l0] at H
    by_cases c4 : x5_1 < (l0.length : Int)
    ·rw [if_pos c4] at H
     have c4b0 : decide (x5_1 < (l0.length : Int))=true:=decide_eq_true c4;clear c4;refine ifT H ?_;clear H;intro c5 H;have c5b0 : decide (0≤x5_1)=true:=decide_eq_true c5;clear c5;refine ifT H ?_;clear H;intro c6 H;have c6b0 : decide (x5_1 < (l1.length : Int))=true:=decide_eq_true c6;clear c6;refine biT H ?_;clear H;intro t448 A7 H;(try dsimp only at H);replace A7:=Aside0.mk A7
     by_cases c8 : t448=true
     ·subst c8
      rw [if_pos rfl] at H;have H':=Aside0.mk H;clear H
      try go_wp2
      replace HB:=Aside0.mk (b1 HB.out);have p446 : 0≤(x5_1 : Int):=oA;have q446 : x5_1 < (l0.length : Int):=oA;obtain ⟨ad446,A446_1,c446_1,A446_2,c446_2,e446,hx446_0,hx446_1,hx446_2,hl446_1,hi446_1,hl446_2,hi446_2⟩:=at_T63 HR0.out x5_1 p446 q446;have hw446_2:=hx446_2;have hw446_1:=hx446_1;have hw446_0:=hx446_0;cases e446;replace hx446_0:=(HB.out.cell (World.block_lt_of_cell? w _ hx446_0)).trans hx446_0;replace hx446_1:=(HB.out.cell (World.block_lt_of_cell? w _ hx446_1)).trans hx446_1;replace hx446_2:=(HB.out.cell (World.block_lt_of_cell? w _ hx446_2)).trans hx446_2;have HR446_1:=Aside0.mk hi446_1;have HC446_1:=Aside0.mk hl446_1;clear hi446_1 hl446_1;have HR446_2:=Aside0.mk hi446_2;have HC446_2:=Aside0.mk hl446_2;clear hi446_2 hl446_2;replace p446:=eq_true p446;replace q446:=eq_true q446;have p447 : 0≤(x5_1 : Int):=oA;have q447 : x5_1 < (l1.length : Int):=oA;obtain ⟨ad447,A447_1,c447_1,A447_2,c447_2,e447,hx447_0,hx447_1,hx447_2,hl447_1,hi447_1,hl447_2,hi447_2⟩:=at_T63 HR1.out x5_1 p447 q447;have hw447_2:=hx447_2;have hw447_1:=hx447_1;have hw447_0:=hx447_0;cases e447;replace hx447_0:=(HB.out.cell (World.block_lt_of_cell? w _ hx447_0)).trans hx447_0;replace hx447_1:=(HB.out.cell (World.block_lt_of_cell? w _ hx447_1)).trans hx447_1;replace hx447_2:=(HB.out.cell (World.block_lt_of_cell? w _ hx447_2)).trans hx447_2;have HR447_1:=Aside0.mk hi447_1;have HC447_1:=Aside0.mk hl447_1;clear hi447_1 hl447_1;have HR447_2:=Aside0.mk hi447_2;have HC447_2:=Aside0.mk hl447_2;clear hi447_2 hl447_2
      replace p447:=eq_true p447;replace q447:=eq_true q447;refine sT (n:=10) (S:=fun w'=>w'.cell? (ad446.add ((x5_1).toNat * 3))=some (.bool ((rd_T63 l0 x5_1).f0))∧w'.cell? ⟨(ad446.add ((x5_1).toNat * 3)).block,(ad446.add ((x5_1).toNat * 3)).off+1,none⟩=some (.slice A446_1 ((rd_T63 l0 x5_1).f1).length c446_1)∧w'.cell? ⟨(ad446.add ((x5_1).toNat * 3)).block,(ad446.add ((x5_1).toNat * 3)).off+2,none⟩=some (.slice A446_2 ((rd_T63 l0 x5_1).f2).length c446_2)∧w'.cell? (ad447.add ((x5_1).toNat * 3))=some (.bool ((rd_T63 l1 x5_1).f0))∧w'.cell? ⟨(ad447.add ((x5_1).toNat * 3)).block,(ad447.add ((x5_1).toNat * 3)).off+1,none⟩=some (.slice A447_1 ((rd_T63 l1 x5_1).f1).length c447_1)∧w'.cell? ⟨(ad447.add ((x5_1).toNat * 3)).block,(ad447.add ((x5_1).toNat * 3)).off+2,none⟩=some (.slice A447_2 ((rd_T63 l1 x5_1).f2).length c447_2)) (ds:=[]) (by kernel_rfl) rfl ⟨((HB.out.cell (World.block_lt_of_cell? w _ hw446_0)).trans hw446_0),((HB.out.cell (World.block_lt_of_cell? w _ hw446_1)).trans hw446_1),((HB.out.cell (World.block_lt_of_cell? w _ hw446_2)).trans hw446_2),((HB.out.cell (World.block_lt_of_cell? w _ hw447_0)).trans hw447_0),((HB.out.cell (World.block_lt_of_cell? w _ hw447_1)).trans hw447_1),((HB.out.cell (World.block_lt_of_cell? w _ hw447_2)).trans hw447_2)⟩ (fun hHeld=>?_);refine with_tabW penumbraref09_Same.tab6 penumbraref09_Same.bits6 (fun HT_ HW_=>?_);generalize wr.drew=w9 at HB HR446_1 HR446_2 HR447_1 HR447_2 hx446_0 hx446_1 hx446_2 hx447_0 hx447_1 hx447_2 hHeld ⊢;refine zp 0 17 ?_
      refine zp 1 18 ?_;refine zp 2 19 ?_;refine zp 4 21 ?_;refine zp 5 22 ?_;refine zp 6 23 ?_;refine zt 3 20 ?_;refine zt 7 24 ?_
      refine oN 8 (some 25) rfl rfl fun K hK=>?_
      refine gS Try.func37 #[.agg #[.bool ((rd_T63 l0 x5_1).f0),.slice A446_1 ((rd_T63 l0 x5_1).f1).length c446_1,.slice A446_2 ((rd_T63 l0 x5_1).f2).length c446_2],.agg #[.bool ((rd_T63 l1 x5_1).f0),.slice A447_1 ((rd_T63 l1 x5_1).f1).length c447_1,.slice A447_2 ((rd_T63 l1 x5_1).f2).length c447_2]] ?_
      with_reducible refine (penumbraref03_Is.calls k1 ((rd_T63 l0 x5_1).f0) _ _ ((rd_T63 l0 x5_1).f1) _ _ ((rd_T63 l0 x5_1).f2) ((rd_T63 l1 x5_1).f0) _ _ ((rd_T63 l1 x5_1).f1) _ _ ((rd_T63 l1 x5_1).f2) true _ ?s1_ ?s2_ ?s3_ ?s4_ ?s5_ ?s6_ ?s7_ ?s8_ A7.out).mono ?_
      (case s1_=>exact Cu (Kd.C_below HR446_1.out HB.out))
      (case s2_=>exact HC446_1.out)
      (case s3_=>exact Cu (Kd.C_below HR446_2.out HB.out))
      (case s4_=>exact HC446_2.out)
      (case s5_=>exact Cu (Kd.C_below HR447_1.out HB.out))
      (case s6_=>exact HC447_1.out)
      (case s7_=>exact Cu (Kd.C_below HR447_2.out HB.out))
      (case s8_=>exact HC447_2.out)
      rintro e w10 ⟨rfl,hb⟩;refine ⟨_,rfl,?_⟩;replace HB:=bH HB hb
      (try clear hb)
      (try clear hb2)
      (try clear hk)
      (try clear hi)
      refine hK.out _ _ ⟨((HB.out.cell (World.block_lt_of_cell? w _ hw446_0)).trans hw446_0),((HB.out.cell (World.block_lt_of_cell? w _ hw446_1)).trans hw446_1),((HB.out.cell (World.block_lt_of_cell? w _ hw446_2)).trans hw446_2),((HB.out.cell (World.block_lt_of_cell? w _ hw447_0)).trans hw447_0),((HB.out.cell (World.block_lt_of_cell? w _ hw447_1)).trans hw447_1),((HB.out.cell (World.block_lt_of_cell? w _ hw447_2)).trans hw447_2)⟩ (fun hHeld=>?_);clear hK K;refine nZ ?_;refine zp 9 26 ?_;refine dN ?_
      try go_wp2
      go_roundg k1
      case measure=>have:=HK1.out;omega
      case rel=>exact ⟨(wrap64 (x5_1+1)),sD,H',⟨by have:=HK1.out;omega⟩,⟨bL HB.out⟩⟩
     ·replace c8:=Bool.eq_false_iff.mpr c8
      subst c8;rw [if_neg (show ¬ (false=true) by decide)] at H;obtain rfl:=Option.some.inj H
      try go_wp2
      replace HB:=Aside0.mk (b1 HB.out);have p446 : 0≤(x5_1 : Int):=oA;have q446 : x5_1 < (l0.length : Int):=oA;obtain ⟨ad446,A446_1,c446_1,A446_2,c446_2,e446,hx446_0,hx446_1,hx446_2,hl446_1,hi446_1,hl446_2,hi446_2⟩:=at_T63 HR0.out x5_1 p446 q446;have hw446_2:=hx446_2;have hw446_1:=hx446_1;have hw446_0:=hx446_0;cases e446;replace hx446_0:=(HB.out.cell (World.block_lt_of_cell? w _ hx446_0)).trans hx446_0;replace hx446_1:=(HB.out.cell (World.block_lt_of_cell? w _ hx446_1)).trans hx446_1;replace hx446_2:=(HB.out.cell (World.block_lt_of_cell? w _ hx446_2)).trans hx446_2;have HR446_1:=Aside0.mk hi446_1;have HC446_1:=Aside0.mk hl446_1;clear hi446_1 hl446_1;have HR446_2:=Aside0.mk hi446_2;have HC446_2:=Aside0.mk hl446_2;clear hi446_2 hl446_2;replace p446:=eq_true p446;replace q446:=eq_true q446;have p447 : 0≤(x5_1 : Int):=oA;have q447 : x5_1 < (l1.length : Int):=oA;obtain ⟨ad447,A447_1,c447_1,A447_2,c447_2,e447,hx447_0,hx447_1,hx447_2,hl447_1,hi447_1,hl447_2,hi447_2⟩:=at_T63 HR1.out x5_1 p447 q447;have hw447_2:=hx447_2;have hw447_1:=hx447_1;have hw447_0:=hx447_0;cases e447;replace hx447_0:=(HB.out.cell (World.block_lt_of_cell? w _ hx447_0)).trans hx447_0;replace hx447_1:=(HB.out.cell (World.block_lt_of_cell? w _ hx447_1)).trans hx447_1;replace hx447_2:=(HB.out.cell (World.block_lt_of_cell? w _ hx447_2)).trans hx447_2;have HR447_1:=Aside0.mk hi447_1;have HC447_1:=Aside0.mk hl447_1;clear hi447_1 hl447_1;have HR447_2:=Aside0.mk hi447_2;have HC447_2:=Aside0.mk hl447_2;clear hi447_2 hl447_2
      replace p447:=eq_true p447;replace q447:=eq_true q447;refine sT (n:=10) (S:=fun w'=>w'.cell? (ad446.add ((x5_1).toNat * 3))=some (.bool ((rd_T63 l0 x5_1).f0))∧w'.cell? ⟨(ad446.add ((x5_1).toNat * 3)).block,(ad446.add ((x5_1).toNat * 3)).off+1,none⟩=some (.slice A446_1 ((rd_T63 l0 x5_1).f1).length c446_1)∧w'.cell? ⟨(ad446.add ((x5_1).toNat * 3)).block,(ad446.add ((x5_1).toNat * 3)).off+2,none⟩=some (.slice A446_2 ((rd_T63 l0 x5_1).f2).length c446_2)∧w'.cell? (ad447.add ((x5_1).toNat * 3))=some (.bool ((rd_T63 l1 x5_1).f0))∧w'.cell? ⟨(ad447.add ((x5_1).toNat * 3)).block,(ad447.add ((x5_1).toNat * 3)).off+1,none⟩=some (.slice A447_1 ((rd_T63 l1 x5_1).f1).length c447_1)∧w'.cell? ⟨(ad447.add ((x5_1).toNat * 3)).block,(ad447.add ((x5_1).toNat * 3)).off+2,none⟩=some (.slice A447_2 ((rd_T63 l1 x5_1).f2).length c447_2)) (ds:=[]) (by kernel_rfl) rfl ⟨((HB.out.cell (World.block_lt_of_cell? w _ hw446_0)).trans hw446_0),((HB.out.cell (World.block_lt_of_cell? w _ hw446_1)).trans hw446_1),((HB.out.cell (World.block_lt_of_cell? w _ hw446_2)).trans hw446_2),((HB.out.cell (World.block_lt_of_cell? w _ hw447_0)).trans hw447_0),((HB.out.cell (World.block_lt_of_cell? w _ hw447_1)).trans hw447_1),((HB.out.cell (World.block_lt_of_cell? w _ hw447_2)).trans hw447_2)⟩ (fun hHeld=>?_);refine with_tabW penumbraref09_Same.tab6 penumbraref09_Same.bits6 (fun HT_ HW_=>?_);generalize wr.drew=w11 at HB HR446_1 HR446_2 HR447_1 HR447_2 hx446_0 hx446_1 hx446_2 hx447_0 hx447_1 hx447_2 hHeld ⊢;refine zp 0 17 ?_
      refine zp 1 18 ?_;refine zp 2 19 ?_;refine zp 4 21 ?_;refine zp 5 22 ?_;refine zp 6 23 ?_;refine zt 3 20 ?_;refine zt 7 24 ?_
      refine oN 8 (some 25) rfl rfl fun K hK=>?_
      refine gS Try.func37 #[.agg #[.bool ((rd_T63 l0 x5_1).f0),.slice A446_1 ((rd_T63 l0 x5_1).f1).length c446_1,.slice A446_2 ((rd_T63 l0 x5_1).f2).length c446_2],.agg #[.bool ((rd_T63 l1 x5_1).f0),.slice A447_1 ((rd_T63 l1 x5_1).f1).length c447_1,.slice A447_2 ((rd_T63 l1 x5_1).f2).length c447_2]] ?_
      with_reducible refine (penumbraref03_Is.calls k1 ((rd_T63 l0 x5_1).f0) _ _ ((rd_T63 l0 x5_1).f1) _ _ ((rd_T63 l0 x5_1).f2) ((rd_T63 l1 x5_1).f0) _ _ ((rd_T63 l1 x5_1).f1) _ _ ((rd_T63 l1 x5_1).f2) false _ ?s1_ ?s2_ ?s3_ ?s4_ ?s5_ ?s6_ ?s7_ ?s8_ A7.out).mono ?_
      (case s1_=>exact Cu (Kd.C_below HR446_1.out HB.out))
      (case s2_=>exact HC446_1.out)
      (case s3_=>exact Cu (Kd.C_below HR446_2.out HB.out))
      (case s4_=>exact HC446_2.out)
      (case s5_=>exact Cu (Kd.C_below HR447_1.out HB.out))
      (case s6_=>exact HC447_1.out)
      (case s7_=>exact Cu (Kd.C_below HR447_2.out HB.out))
      (case s8_=>exact HC447_2.out)
      rintro e w12 ⟨rfl,hb⟩;refine ⟨_,rfl,?_⟩;replace HB:=bH HB hb
      (try clear hb)
      (try clear hb2)
      (try clear hk)
      (try clear hi)
      refine hK.out _ _ ⟨((HB.out.cell (World.block_lt_of_cell? w _ hw446_0)).trans hw446_0),((HB.out.cell (World.block_lt_of_cell? w _ hw446_1)).trans hw446_1),((HB.out.cell (World.block_lt_of_cell? w _ hw446_2)).trans hw446_2),((HB.out.cell (World.block_lt_of_cell? w _ hw447_0)).trans hw447_0),((HB.out.cell (World.block_lt_of_cell? w _ hw447_1)).trans hw447_1),((HB.out.cell (World.block_lt_of_cell? w _ hw447_2)).trans hw447_2)⟩ (fun hHeld=>?_);clear hK K;refine nZ ?_;refine zp 9 26 ?_;refine dN ?_
      try go_wp2
      go_ret
      exact ⟨eW,bL HB.out⟩
    ·rw [if_neg c4] at H
     have c4b0 : decide (x5_1 < (l0.length : Int))=false:=decide_eq_false c4;clear c4;obtain rfl:=Option.some.inj H
     go_wp2
     go_ret
     exact ⟨eW,bL HB.out⟩
 ·rw [if_neg c3] at H
  have c3b0 : ((l0.length : Int) == (l1.length : Int))=false:=beq_eq_false_iff_ne.mpr c3;have c3b1 : ((l0.length : Int) != (l1.length : Int))=true:=bne_iff_ne.mpr c3
  have c3b2 : (l0.length == l1.length)=false:=by first|simpa using c3|(simp at c3 ⊢;omega)
  obtain rfl:=Option.some.inj H
  go_enter Try.func24,Try.ntmps24
  go_wp2
  go_ret
  exact ⟨eW,bL HB.out⟩
theorem penumbraref20_Is.calls (k : Nat) (a0_0 : Int) (a0_1 : Int) (a0_2 : Int) (A0_3 : Option Addr) (c0_3 : Nat) (l0_3 : List (S63)) (A0_4 : Option Addr) (c0_4 : Nat) (l0_4 : List (S63)) (a1_0 : Int) (a1_1 : Int) (a1_2 : Int) (A1_3 : Option Addr) (c1_3 : Nat) (l1_3 : List (S63)) (A1_4 : Option Addr) (c1_4 : Nat) (l1_4 : List (S63)) (r : Bool) (w : World) (hr0_3 : Kd.C k63 w A0_3 l0_3.length l0_3) (hc0_3 : l0_3.length≤c0_3) (hr0_4 : Kd.C k63 w A0_4 l0_4.length l0_4) (hc0_4 : l0_4.length≤c0_4) (hr1_3 : Kd.C k63 w A1_3 l1_3.length l1_3) (hc1_3 : l1_3.length≤c1_3) (hr1_4 : Kd.C k63 w A1_4 l1_4.length l1_4) (hc1_4 : l1_4.length≤c1_4) (h : penumbraref20_Is.f k a0_0 a0_1 a0_2 l0_3 l0_4 a1_0 a1_1 a1_2 l1_3 l1_4=some r) :
  Calls Try.prog 11 #[.agg #[.int .i64 a0_0,.int .i64 a0_1,.int .i64 a0_2,.slice A0_3 l0_3.length c0_3,.slice A0_4 l0_4.length c0_4],.agg #[.int .i64 a1_0,.int .i64 a1_1,.int .i64 a1_2,.slice A1_3 l1_3.length c1_3,.slice A1_4 l1_4.length c1_4]] w fun e w'=>e=.returned (.bool r)∧Below w.heap.size w w':=by
 have hu27:=Try.underlying27;have HR0_3:=Aside0.mk hr0_3;have HC0_3:=Aside0.mk hc0_3;clear hr0_3 hc0_3;have HR0_4:=Aside0.mk hr0_4;have HC0_4:=Aside0.mk hc0_4;clear hr0_4 hc0_4;have HR1_3:=Aside0.mk hr1_3;have HC1_3:=Aside0.mk hc1_3;clear hr1_3 hc1_3;have HR1_4:=Aside0.mk hr1_4;have HC1_4:=Aside0.mk hc1_4;clear hr1_4 hc1_4;have HB:=Aside0.mk (Below.refl w.heap.size w);have H : (if a0_0=a1_0 then (if a0_1=a1_1 then (if a0_2=a1_2 then ((penumbraref09_Same.f k l0_3 l1_3).bind fun t451=>(if t451=true then ((penumbraref09_Same.f k l0_4 l1_4).bind fun t452=>(some t452)) else (some false))) else (some false)) else (some false)) else (some false))=some r:=h;clear h
 by_cases c3 : a0_0=a1_0
 ·rw [if_pos c3] at H
  have c3b0 : (a0_0 == a1_0)=true:=beq_iff_eq.mpr c3;have c3b1 : (a0_0 != a1_0)=false:=bne_eq_false_iff_eq.mpr c3;clear c3
  by_cases c4 : a0_1=a1_1
  ·rw [if_pos c4] at H
   have c4b0 : (a0_1 == a1_1)=true:=beq_iff_eq.mpr c4;have c4b1 : (a0_1 != a1_1)=false:=bne_eq_false_iff_eq.mpr c4;clear c4
   by_cases c5 : a0_2=a1_2
   ·rw [if_pos c5] at H
    have c5b0 : (a0_2 == a1_2)=true:=beq_iff_eq.mpr c5;have c5b1 : (a0_2 != a1_2)=false:=bne_eq_false_iff_eq.mpr c5;clear c5;refine biT H ?_;clear H;intro t451 A6 H;(try dsimp only at H);replace A6:=Aside0.mk A6
    by_cases c7 : t451=true
    ·subst c7
     rw [if_pos rfl] at H;refine biT H ?_;clear H;intro t452 A8 H;(try dsimp only at H);replace A8:=Aside0.mk A8;obtain rfl:=Option.some.inj H
     go_enter Try.func11,Try.ntmps11
     go_wp2_with (first|((with_reducible refine gate_dst (N:=2) rfl ?_);refine boxA #[.int .i64 a0_0,.int .i64 a0_1,.int .i64 a0_2,.slice A0_3 l0_3.length c0_3,.slice A0_4 l0_4.length c0_4] 27 ?_;intro gb449 hg w9 hbox hb;have BK449:=Aside0.mk hbox;have GW449:=Aside0.mk ((by rw [hg];exact (below_size (bL HB.out)) : w.heap.size≤gb449));have GE449:=Aside0.mk ((by rw [hg];exact (below_size (bL HB.out)) : w.heap.size≤gb449));replace HB:=bH HB hb;clear hb hbox hg)|((with_reducible refine gate_dst (N:=3) rfl ?_);refine boxA #[.int .i64 a1_0,.int .i64 a1_1,.int .i64 a1_2,.slice A1_3 l1_3.length c1_3,.slice A1_4 l1_4.length c1_4] 27 ?_;intro gb450 hg w10 hbox hb;have BK450:=Aside0.mk hbox;have GW450:=Aside0.mk ((by rw [hg];exact (below_size (bL HB.out)) : w.heap.size≤gb450));have GE450:=Aside0.mk ((by rw [hg];exact (below_size (bL HB.out)) : w.heap.size≤gb450));replace HB:=bH HB hb;have NB449_450:=Aside0.mk ((by rw [hg];exact Nat.ne_of_lt (blk_lt (Bu BK449.out)) : gb449≠gb450));have NB450_449:=Aside0.mk ((by rw [hg];exact Nat.ne_of_gt (blk_lt (Bu BK449.out)) : gb450≠gb449));replace BK449:=bK BK449 hb;clear hb hbox hg;have hnb11:=NB449_450.out;have hnc11:=NB450_449.out;obtain ⟨hcz12_0,hcz12_1,hcz12_2,hcz12_3,hcz12_4⟩:=cl5 BK449.out;obtain ⟨hfz12_0,hfz12_1,hfz12_2,hfz12_3,hfz12_4⟩:=fr5 BK449.out;obtain ⟨hcz13_0,hcz13_1,hcz13_2,hcz13_3,hcz13_4⟩:=cl5 BK450.out;obtain ⟨hfz13_0,hfz13_1,hfz13_2,hfz13_3,hfz13_4⟩:=fr5 BK450.out)|(go_at_call 24;(with_reducible refine (penumbraref09_Same.calls k _ _ l0_3 _ _ l1_3 true _ ?s1_ ?s2_ ?s3_ ?s4_ A6.out).mono ?_);(case s1_=>exact Cu (Kd.C_below HR0_3.out HB.out));(case s2_=>exact HC0_3.out);(case s3_=>exact Cu (Kd.C_below HR1_3.out HB.out));(case s4_=>exact HC1_3.out);rintro e w14 ⟨rfl,hb⟩;replace BK449:=bK BK449 hb;replace BK450:=bK BK450 hb;replace HB:=bH HB hb;obtain ⟨hcz15_0,hcz15_1,hcz15_2,hcz15_3,hcz15_4⟩:=cl5 BK449.out;obtain ⟨hfz15_0,hfz15_1,hfz15_2,hfz15_3,hfz15_4⟩:=fr5 BK449.out;obtain ⟨hcz16_0,hcz16_1,hcz16_2,hcz16_3,hcz16_4⟩:=cl5 BK450.out;obtain ⟨hfz16_0,hfz16_1,hfz16_2,hfz16_3,hfz16_4⟩:=fr5 BK450.out)|(go_at_call 24;(with_reducible refine (penumbraref09_Same.calls k _ _ l0_4 _ _ l1_4 t452 _ ?s1_ ?s2_ ?s3_ ?s4_ A8.out).mono ?_);(case s1_=>exact Cu (Kd.C_below HR0_4.out HB.out));(case s2_=>exact HC0_4.out);(case s3_=>exact Cu (Kd.C_below HR1_4.out HB.out));(case s4_=>exact HC1_4.out);rintro e w17 ⟨rfl,hb⟩;replace BK449:=bK BK449 hb;replace BK450:=bK BK450 hb;replace HB:=bH HB hb))
     go_ret
     exact ⟨eW,bL HB.out⟩
    ·replace c7:=Bool.eq_false_iff.mpr c7
     subst c7;rw [if_neg (show ¬ (false=true) by decide)] at H;obtain rfl:=Option.some.inj H
     go_enter Try.func11,Try.ntmps11
     go_wp2_with (first|((with_reducible refine gate_dst (N:=2) rfl ?_);refine boxA #[.int .i64 a0_0,.int .i64 a0_1,.int .i64 a0_2,.slice A0_3 l0_3.length c0_3,.slice A0_4 l0_4.length c0_4] 27 ?_;intro gb449 hg w18 hbox hb;have BK449:=Aside0.mk hbox;have GW449:=Aside0.mk ((by rw [hg];exact (below_size (bL HB.out)) : w.heap.size≤gb449));have GE449:=Aside0.mk ((by rw [hg];exact (below_size (bL HB.out)) : w.heap.size≤gb449));replace HB:=bH HB hb;clear hb hbox hg)|((with_reducible refine gate_dst (N:=3) rfl ?_);refine boxA #[.int .i64 a1_0,.int .i64 a1_1,.int .i64 a1_2,.slice A1_3 l1_3.length c1_3,.slice A1_4 l1_4.length c1_4] 27 ?_;intro gb450 hg w19 hbox hb;have BK450:=Aside0.mk hbox;have GW450:=Aside0.mk ((by rw [hg];exact (below_size (bL HB.out)) : w.heap.size≤gb450));have GE450:=Aside0.mk ((by rw [hg];exact (below_size (bL HB.out)) : w.heap.size≤gb450));replace HB:=bH HB hb;have NB449_450:=Aside0.mk ((by rw [hg];exact Nat.ne_of_lt (blk_lt (Bu BK449.out)) : gb449≠gb450));have NB450_449:=Aside0.mk ((by rw [hg];exact Nat.ne_of_gt (blk_lt (Bu BK449.out)) : gb450≠gb449));replace BK449:=bK BK449 hb;clear hb hbox hg;have hnb20:=NB449_450.out;have hnc20:=NB450_449.out;obtain ⟨hcz21_0,hcz21_1,hcz21_2,hcz21_3,hcz21_4⟩:=cl5 BK449.out;obtain ⟨hfz21_0,hfz21_1,hfz21_2,hfz21_3,hfz21_4⟩:=fr5 BK449.out;obtain ⟨hcz22_0,hcz22_1,hcz22_2,hcz22_3,hcz22_4⟩:=cl5 BK450.out;obtain ⟨hfz22_0,hfz22_1,hfz22_2,hfz22_3,hfz22_4⟩:=fr5 BK450.out)|(go_at_call 24;(with_reducible refine (penumbraref09_Same.calls k _ _ l0_3 _ _ l1_3 false _ ?s1_ ?s2_ ?s3_ ?s4_ A6.out).mono ?_);(case s1_=>exact Cu (Kd.C_below HR0_3.out HB.out));(case s2_=>exact HC0_3.out);(case s3_=>exact Cu (Kd.C_below HR1_3.out HB.out));(case s4_=>exact HC1_3.out);rintro e w23 ⟨rfl,hb⟩;replace BK449:=bK BK449 hb;replace BK450:=bK BK450 hb;replace HB:=bH HB hb))
     go_ret
     exact ⟨eW,bL HB.out⟩
   ·rw [if_neg c5] at H
    have c5b0 : (a0_2 == a1_2)=false:=beq_eq_false_iff_ne.mpr c5;have c5b1 : (a0_2 != a1_2)=true:=bne_iff_ne.mpr c5;obtain rfl:=Option.some.inj H
    go_enter Try.func11,Try.ntmps11
    go_wp2_with (first|((with_reducible refine gate_dst (N:=2) rfl ?_);refine boxA #[.int .i64 a0_0,.int .i64 a0_1,.int .i64 a0_2,.slice A0_3 l0_3.length c0_3,.slice A0_4 l0_4.length c0_4] 27 ?_;intro gb449 hg w24 hbox hb;have BK449:=Aside0.mk hbox;have GW449:=Aside0.mk ((by rw [hg];exact (below_size (bL HB.out)) : w.heap.size≤gb449));have GE449:=Aside0.mk ((by rw [hg];exact (below_size (bL HB.out)) : w.heap.size≤gb449));replace HB:=bH HB hb;clear hb hbox hg)|((with_reducible refine gate_dst (N:=3) rfl ?_);refine boxA #[.int .i64 a1_0,.int .i64 a1_1,.int .i64 a1_2,.slice A1_3 l1_3.length c1_3,.slice A1_4 l1_4.length c1_4] 27 ?_;intro gb450 hg w25 hbox hb;have BK450:=Aside0.mk hbox;have GW450:=Aside0.mk ((by rw [hg];exact (below_size (bL HB.out)) : w.heap.size≤gb450));have GE450:=Aside0.mk ((by rw [hg];exact (below_size (bL HB.out)) : w.heap.size≤gb450));replace HB:=bH HB hb;have NB449_450:=Aside0.mk ((by rw [hg];exact Nat.ne_of_lt (blk_lt (Bu BK449.out)) : gb449≠gb450));have NB450_449:=Aside0.mk ((by rw [hg];exact Nat.ne_of_gt (blk_lt (Bu BK449.out)) : gb450≠gb449));replace BK449:=bK BK449 hb;clear hb hbox hg;have hnb26:=NB449_450.out;have hnc26:=NB450_449.out;obtain ⟨hcz27_0,hcz27_1,hcz27_2,hcz27_3,hcz27_4⟩:=cl5 BK449.out;obtain ⟨hfz27_0,hfz27_1,hfz27_2,hfz27_3,hfz27_4⟩:=fr5 BK449.out;obtain ⟨hcz28_0,hcz28_1,hcz28_2,hcz28_3,hcz28_4⟩:=cl5 BK450.out;obtain ⟨hfz28_0,hfz28_1,hfz28_2,hfz28_3,hfz28_4⟩:=fr5 BK450.out))
    go_ret
    exact ⟨eW,bL HB.out⟩
  ·rw [if_neg c4] at H
   have c4b0 : (a0_1 == a1_1)=false:=beq_eq_false_iff_ne.mpr c4;have c4b1 : (a0_1 != a1_1)=true:=bne_iff_ne.mpr c4;obtain rfl:=Option.some.inj H
   go_enter Try.func11,Try.ntmps11
   go_wp2_with (first|((with_reducible refine gate_dst (N:=2) rfl ?_);refine boxA #[.int .i64 a0_0,.int .i64 a0_1,.int .i64 a0_2,.slice A0_3 l0_3.length c0_3,.slice A0_4 l0_4.length c0_4] 27 ?_;intro gb449 hg w29 hbox hb;have BK449:=Aside0.mk hbox;have GW449:=Aside0.mk ((by rw [hg];exact (below_size (bL HB.out)) : w.heap.size≤gb449));have GE449:=Aside0.mk ((by rw [hg];exact (below_size (bL HB.out)) : w.heap.size≤gb449));replace HB:=bH HB hb;clear hb hbox hg)|((with_reducible refine gate_dst (N:=3) rfl ?_);refine boxA #[.int .i64 a1_0,.int .i64 a1_1,.int .i64 a1_2,.slice A1_3 l1_3.length c1_3,.slice A1_4 l1_4.length c1_4] 27 ?_;intro gb450 hg w30 hbox hb;have BK450:=Aside0.mk hbox;have GW450:=Aside0.mk ((by rw [hg];exact (below_size (bL HB.out)) : w.heap.size≤gb450));have GE450:=Aside0.mk ((by rw [hg];exact (below_size (bL HB.out)) : w.heap.size≤gb450));replace HB:=bH HB hb;have NB449_450:=Aside0.mk ((by rw [hg];exact Nat.ne_of_lt (blk_lt (Bu BK449.out)) : gb449≠gb450));have NB450_449:=Aside0.mk ((by rw [hg];exact Nat.ne_of_gt (blk_lt (Bu BK449.out)) : gb450≠gb449));replace BK449:=bK BK449 hb;clear hb hbox hg;have hnb31:=NB449_450.out;have hnc31:=NB450_449.out;obtain ⟨hcz32_0,hcz32_1,hcz32_2,hcz32_3,hcz32_4⟩:=cl5 BK449.out;obtain ⟨hfz32_0,hfz32_1,hfz32_2,hfz32_3,hfz32_4⟩:=fr5 BK449.out;obtain ⟨hcz33_0,hcz33_1,hcz33_2,hcz33_3,hcz33_4⟩:=cl5 BK450.out;obtain ⟨hfz33_0,hfz33_1,hfz33_2,hfz33_3,hfz33_4⟩:=fr5 BK450.out))
   go_ret
   exact ⟨eW,bL HB.out⟩
 ·rw [if_neg c3] at H
  have c3b0 : (a0_0 == a1_0)=false:=beq_eq_false_iff_ne.mpr c3;have c3b1 : (a0_0 != a1_0)=true:=bne_iff_ne.mpr c3;obtain rfl:=Option.some.inj H
  go_enter Try.func11,Try.ntmps11
  go_wp2_with (first|((with_reducible refine gate_dst (N:=2) rfl ?_);refine boxA #[.int .i64 a0_0,.int .i64 a0_1,.int .i64 a0_2,.slice A0_3 l0_3.length c0_3,.slice A0_4 l0_4.length c0_4] 27 ?_;intro gb449 hg w34 hbox hb;have BK449:=Aside0.mk hbox;have GW449:=Aside0.mk ((by rw [hg];exact (below_size (bL HB.out)) : w.heap.size≤gb449));have GE449:=Aside0.mk ((by rw [hg];exact (below_size (bL HB.out)) : w.heap.size≤gb449));replace HB:=bH HB hb;clear hb hbox hg)|((with_reducible refine gate_dst (N:=3) rfl ?_);refine boxA #[.int .i64 a1_0,.int .i64 a1_1,.int .i64 a1_2,.slice A1_3 l1_3.length c1_3,.slice A1_4 l1_4.length c1_4] 27 ?_;intro gb450 hg w35 hbox hb;have BK450:=Aside0.mk hbox;have GW450:=Aside0.mk ((by rw [hg];exact (below_size (bL HB.out)) : w.heap.size≤gb450));have GE450:=Aside0.mk ((by rw [hg];exact (below_size (bL HB.out)) : w.heap.size≤gb450));replace HB:=bH HB hb;have NB449_450:=Aside0.mk ((by rw [hg];exact Nat.ne_of_lt (blk_lt (Bu BK449.out)) : gb449≠gb450));have NB450_449:=Aside0.mk ((by rw [hg];exact Nat.ne_of_gt (blk_lt (Bu BK449.out)) : gb450≠gb449));replace BK449:=bK BK449 hb;clear hb hbox hg;have hnb36:=NB449_450.out;have hnc36:=NB450_449.out;obtain ⟨hcz37_0,hcz37_1,hcz37_2,hcz37_3,hcz37_4⟩:=cl5 BK449.out;obtain ⟨hfz37_0,hfz37_1,hfz37_2,hfz37_3,hfz37_4⟩:=fr5 BK449.out;obtain ⟨hcz38_0,hcz38_1,hcz38_2,hcz38_3,hcz38_4⟩:=cl5 BK450.out;obtain ⟨hfz38_0,hfz38_1,hfz38_2,hfz38_3,hfz38_4⟩:=fr5 BK450.out))
  go_ret
  exact ⟨eW,bL HB.out⟩
end Go.Proofs.Ytjiaobcoeegioaa.Pq
end
section
namespace Go.Proofs.Ytjiaobcoeegioaa.N
open Go Go.RowKit Go.Proofs.YtjiaobcoeegioaaW.PrintWords Go.Proofs.YtjiaobcoeegioaaW.PrintLast Go.Proofs.YtjiaobcoeegioaaW.PrintMore Go.Proofs.Ytjiaobcoeegioaa.Pq
theorem is03 {neg : Bool} {a b : List Int} (ha : a.length < 4611686018427387904) (hb : b.length < 4611686018427387904) : Ev (fun k=>penumbraref03_Is.f k neg a b neg a b) true:=by
 unfold penumbraref03_Is.f;refine Ev_pos (by simp) ?_;refine Ev.bind (same_f ha) ?_;refine Ev_pos rfl ?_;exact Ev.bind (same_f hb) (Ev.now _)
theorem same09_l {xs : List RatS} (hl : xs.length < 4611686018427387904) (hx : ∀ x∈xs,x.f1.length < 4611686018427387904∧x.f2.length < 4611686018427387904) : ∀ (d i : Nat),xs.length - i=d→i≤xs.length→Ev (fun k=>penumbraref09_Same.l0 k xs xs (i : Int)) true:=by
 intro d
 induction d with
 | zero =>
  intro i hd hi
  obtain rfl : i=xs.length:=by omega
  refine Ev_up ?_;simp only [penumbraref09_Same.l0];exact Ev_neg (by omega) (Ev.now _)
 | succ d ih =>
  intro i hd hi
  have h1 : i < xs.length:=by omega
  have g1 : (i : Int) < (xs.length : Int):=by omega
  have g2 : 0≤(i : Int):=by omega
  have hw : wrap64 ((i : Int)+1)=((i+1 : Nat) : Int):=by clear ih hx;unfold wrap64;omega
  have r1 : rd_T63 xs (i : Int)=xs[i]:=by unfold rd_T63;rw [Int.toNat_natCast,List.getD_eq_getElem?_getD,List.getElem?_eq_getElem h1];rfl
  obtain ⟨h3,h4⟩:=hx xs[i] (List.getElem_mem _);refine Ev_up ?_;simp only [penumbraref09_Same.l0];refine Ev_pos g1 (Ev_pos g2 (Ev_pos g1 ?_));rw [r1,hw];refine Ev.bind (is03 h3 h4) ?_;exact Ev_pos rfl (ih (i+1) (by omega) (by omega))
theorem same09 {xs : List RatS} (hl : xs.length < 4611686018427387904) (hx : ∀ x∈xs,x.f1.length < 4611686018427387904∧x.f2.length < 4611686018427387904) : Ev (fun k=>penumbraref09_Same.f k xs xs) true:=by
 unfold penumbraref09_Same.f;exact Ev_pos rfl (same09_l hl hx xs.length 0 rfl (Nat.zero_le _))
theorem is20 {W h b : Int} {xs ys : List RatS} (hl : xs.length < 4611686018427387904) (hx : ∀ x∈xs,x.f1.length < 4611686018427387904∧x.f2.length < 4611686018427387904) (hl2 : ys.length < 4611686018427387904) (hy : ∀ x∈ys,x.f1.length < 4611686018427387904∧x.f2.length < 4611686018427387904) : Ev (fun k=>penumbraref20_Is.f k W h b xs ys W h b xs ys) true:=by
 unfold penumbraref20_Is.f;refine Ev_pos rfl (Ev_pos rfl (Ev_pos rfl ?_));refine Ev.bind (same09 hl hx) ?_;refine Ev_pos rfl ?_;exact Ev.bind (same09 hl2 hy) (Ev.now _)
theorem ints_l {xs : List Int} (hl : xs.length < 4611686018427387904) : ∀ (d i : Nat),xs.length - i=d→i≤xs.length→Ev (fun k=>penumbraref15_Ints.l0 k xs xs (i : Int)) true:=by
 intro d
 induction d with
 | zero =>
  intro i hd hi
  obtain rfl : i=xs.length:=by omega
  refine Ev_up ?_;simp only [penumbraref15_Ints.l0];exact Ev_neg (by omega) (Ev.now _)
 | succ d ih =>
  intro i hd hi
  have g1 : (i : Int) < (xs.length : Int):=by omega
  have g2 : 0≤(i : Int):=by omega
  have hw : wrap64 ((i : Int)+1)=((i+1 : Nat) : Int):=by clear ih;unfold wrap64;omega
  refine Ev_up ?_;simp only [penumbraref15_Ints.l0];refine Ev_pos g1 (Ev_pos g2 (Ev_pos g1 (Ev_pos trivial ?_)));rw [hw];exact ih (i+1) (by omega) (by omega)
theorem ints15 {xs : List Int} (hl : xs.length < 4611686018427387904) : Ev (fun k=>penumbraref15_Ints.f k xs xs) true:=by
 unfold penumbraref15_Ints.f;exact Ev_pos rfl (ints_l hl xs.length 0 rfl (Nat.zero_le _))
theorem mkR_len (q : Rat) : (mkR q).f1.length≤sz1 q∧(mkR q).f2.length≤sz1 q:=⟨Nat.le_max_left _ _,Nat.le_max_right _ _⟩
theorem isQ {W h b : Int} {q : QF} {M : Nat} (hM : M < 4611686018427387904) (h1 : q.a.length=M) (h2 : q.b.length=M) (hs : q.sz < 10000000) : Ev (fun k=>penumbraref20_Is.f k W h b (q.a.map mkR) (q.b.map mkR) W h b (q.a.map mkR) (q.b.map mkR)) true:=by
 have hx : ∀ l : List Rat,szL l < 10000000 → ∀ x∈l.map mkR,x.f1.length < 4611686018427387904∧x.f2.length < 4611686018427387904:=fun l hl x hx=>by
  obtain ⟨p,hp,rfl⟩:=List.mem_map.mp hx;have h3:=szL_mem hp;obtain ⟨h4,h5⟩:=mkR_len p;exact ⟨by omega,by omega⟩
 have h3 : szL q.a≤q.sz:=Nat.le_max_left _ _;have h4 : szL q.b≤q.sz:=Nat.le_max_right _ _;exact is20 (by rw [List.length_map];omega) (hx _ (by omega)) (by rw [List.length_map];omega) (hx _ (by omega))
end Go.Proofs.Ytjiaobcoeegioaa.N
end
section
namespace Go.Proofs.Ytjiaobcoeegioaa.Pq
open Go.RowKit Go.Proofs.YtjiaobcoeegioaaW.PrintWords Go.Proofs.YtjiaobcoeegioaaW.PrintLast Go.Proofs.YtjiaobcoeegioaaW.PrintMore Go.Proofs.Ytjiaobcoeegioaa.N
theorem isM {q : QF} {W h b : Int} {M : Nat} (hM : (M : Int)=W * h * b) (hf : q.fits W h b) (hq : q.sz < 10000000) {A A2 B B2 : Option Addr} {c c2 d d2 : Nat} (l1 : M≤c) (l2 : M≤c2) (l3 : M≤d) (l4 : M≤d2) {w : World} (hm : M≤2048) (h1 : Kd.C k63 w A M (q.a.map mkR)) (h2 : Kd.C k63 w A2 M (q.b.map mkR)) (h3 : Kd.C k63 w B M (q.a.map mkR)) (h4 : Kd.C k63 w B2 M (q.b.map mkR)) :
  Calls Try.prog 11 #[.agg #[.int .i64 W,.int .i64 h,.int .i64 b,.slice A M c,.slice A2 M c2],.agg #[.int .i64 W,.int .i64 h,.int .i64 b,.slice B M d,.slice B2 M d2]] w fun e w'=>e=.returned (.bool true)∧Below w.heap.size w w':=by
 obtain ⟨e1,e2⟩:=q_len hM hf;obtain ⟨k,hk⟩:=(isQ (W:=W) (h:=h) (b:=b) (M:=M) (q:=q) (by omega) (by rw [← e1,List.length_map]) (by rw [← e2,List.length_map]) hq).rounds;have h:=penumbraref20_Is.calls k W h b A c (q.a.map mkR) A2 c2 (q.b.map mkR) W h b B d (q.a.map mkR) B2 d2 (q.b.map mkR) true w (by rw [e1];exact h1) (by omega) (by rw [e2];exact h2) (by omega) (by rw [e1];exact h3) (by omega) (by rw [e2];exact h4) (by omega) hk;rw [e1,e2] at h;exact h
theorem IRow.reads {w : World} {base : Nat} {A : Option Addr} {n c : Nat} {xs : List Int} (h : IRow w base (.slice A n c) xs) : n=xs.length∧n≤c∧(Kd.int .i64).C w A xs.length xs:=by
 obtain ⟨A',c',e,hl,hr⟩:=own_reads_of_le (enc:=Value.int .i64) (d:=(0 : Int)) h
 injection e with e1 e2 e3
 subst e1 e2 e3;exact ⟨rfl,hl,Kd.C_of_reads (h1:=fun _=>rfl) hr⟩
theorem intsM {A B : Option Addr} {n c m d : Nat} {xs : List Int} {w : World} (hn : n=xs.length) (hm : m=xs.length) (l1 : n≤c) (l2 : m≤d) (hl : xs.length < 4611686018427387904) (h1 : (Kd.int .i64).C w A xs.length xs) (h2 : (Kd.int .i64).C w B xs.length xs) :
  Calls Try.prog 12 #[.slice A n c,.slice B m d] w fun e w'=>e=.returned (.bool true)∧Below w.heap.size w w':=by
 subst hn hm;obtain ⟨k,hk⟩:=(ints15 (xs:=xs) hl).rounds;refine (penumbraref15_Ints.calls k A c xs B d xs true w h1 l1 h2 l2 hk).mono ?_;rintro e w' ⟨he,n,rfl⟩;exact ⟨he,pw_below_drewN (Below.refl _ _) _⟩
theorem picks5 (w : World) : (Kd.int .i64).C (w.alloc (.cells #[.int .i64 0,.int .i64 1,.int .i64 1,.int .i64 1,.int .i64 1] 3)) (some ⟨w.heap.size,0,none⟩) 5 [0,1,1,1,1]:=by
 have h:=own_lit w w.heap.size 3 .i64 [0,1,1,1,1] (Nat.le_refl _) (by decide);obtain ⟨_,_,h3⟩:=IRow.reads (xs:=[0,1,1,1,1]) h;exact h3
theorem ints2 {a b : Int} {w : World} {base : Nat} {A : Option Addr} {c : Nat} (hi : IRow w base (.slice A 2 c) [a,b]) :
  Calls Try.prog 12 #[.slice A 2 c,.slice (some ⟨w.heap.size,0,none⟩) 2 2] (w.alloc (.cells #[.int .i64 a,.int .i64 b] 3)) fun e w'=>e=.returned (.bool true)∧Below w.heap.size w w':=by
 have hb:=below_alloc (Below.refl w.heap.size w) (.cells #[.int .i64 a,.int .i64 b] 3);have h:=own_lit w w.heap.size 3 .i64 [a,b] (Nat.le_refl _) (by simp);obtain ⟨_,_,h3⟩:=IRow.reads (xs:=[a,b]) h;obtain ⟨_,l1,h4⟩:=IRow.reads hi;refine (intsM (xs:=[a,b]) (n:=2) (m:=2) rfl rfl l1 (Nat.le_refl _) (by simp) (Kd.C_below h4 hb) h3).mono ?_;rintro e w' ⟨he,hb2⟩;exact ⟨he,below_step hb hb2⟩
theorem isRows {q : QF} {W h b : Int} {M : Nat} (hM : (M : Int)=W * h * b) (hm : M≤2048) (hf : q.fits W h b) (hq : q.sz < 10000000) {w : World} {n n' : Nat} {x x2 y y2 : Addr} {c c2 d d2 : Nat} (h1 : Rows w n q x c x2 c2∧M≤c∧M≤c2) (h2 : Rows w n' q y d y2 d2∧M≤d∧M≤d2) :
  Calls Try.prog 11 #[.agg #[.int .i64 W,.int .i64 h,.int .i64 b,.slice (some x) M c,.slice (some x2) M c2],.agg #[.int .i64 W,.int .i64 h,.int .i64 b,.slice (some y) M d,.slice (some y2) M d2]] w fun e w'=>e=.returned (.bool true)∧Below w.heap.size w w':=by
 obtain ⟨e1,e2⟩:=q_len hM hf;have r1:=(ORow.reads h1.1.a).2.now (W:=w);have r2:=(ORow.reads h1.1.b).2.now (W:=w);have r3:=(ORow.reads h2.1.a).2.now (W:=w);have r4:=(ORow.reads h2.1.b).2.now (W:=w);rw [e1] at r1 r3;rw [e2] at r2 r4;exact isM hM hf hq h1.2.1 h1.2.2 h2.2.1 h2.2.2 hm r1 r2 r3 r4
structure TwoQ (q1 q2 : QF) : Prop where
 f1 : q1.fits 1 1 1
 f2 : q2.fits 1 1 1
 z1 : q1.sz < 1000
 z2 : q2.sz < 1000
theorem play_two {q1 q2 : QF} (H : TwoQ q1 q2) (k : Nat) (hk : 1≤k∧k≤64) (A0 : Option Addr) (c0 : Nat) (w : World) (hr : Kd.C k27 w A0 2 ([q1,q2].map (mkF 1 1 1))) (picks : List Int) (Ap : Option Addr) (cp : Nat) (hp : (Kd.int .i64).C w Ap picks.length picks) {done : List Int} (hd : (PS.after 2 k picks 8).done.map Int.ofNat=done) (hl : done.length=2) :
  Calls Try.prog 9 #[.slice A0 2 c0,.int .i64 k,.slice Ap picks.length cp] w fun e w'=>∃ ad c ad2 c2 Ad cd,e=.returned (.tuple #[.agg #[.int .i64 1,.int .i64 1,.int .i64 1,.slice (some ad) 1 c,.slice (some ad2) 1 c2],.slice Ad 2 cd,.int .i64 8,.bool true])∧1≤c∧1≤c2∧Rows w' w.heap.size (q1.add q2) ad c ad2 c2∧IRow w' w.heap.size (.slice Ad 2 cd) done∧Below w.heap.size w w':=by
 have hc1:=chkF_mkF s111 H.f1;have hc2:=chkF_mkF s111 H.f2
 have hmay : mayB ([q1,q2].map (mkF 1 1 1)) k=true:=by
  refine (mayB_iff (by simp)).mpr ⟨by simp,by omega,by omega,fun i hi=>?_⟩
  have : i=0∨i=1:=by simp at hi;omega
  rcases this with rfl|rfl
  ·show good (mkF 1 1 1 q1) (mkF 1 1 1 q1)=true
   unfold good;rw [hc1];rfl
  ·show good (mkF 1 1 1 q1) (mkF 1 1 1 q2)=true
   unfold good;rw [hc2];rfl
 have hqs : ([q1,q2].map (mkF 1 1 1)).map qF=[q1,q2]:=by
  show [qF (mkF 1 1 1 q1),qF (mkF 1 1 1 q2)]=_
  rw [qF_mkF,qF_mkF]
 have h1:=H.z1;have h2:=H.z2
 have hw : ∀ F∈[q1,q2].map (mkF 1 1 1),WfF 1000 F:=fun F hF=>by
  obtain ⟨q,hq,rfl⟩:=List.mem_map.mp hF
  have hz : q.sz≤1000:=by
   rcases List.mem_cons.mp hq with rfl|hq
   ·omega
   ·rcases List.mem_cons.mp hq with rfl|hq
    ·omega
    ·cases hq
  exact ⟨fun x hx=>((wfF_mkF 1 1 1 q).1 x hx).up hz,fun x hx=>((wfF_mkF 1 1 1 q).2 x hx).up hz⟩
 refine (play_sem (n0:=1000) (Fs:=[q1,q2].map (mkF 1 1 1)) (by decide) hw k (by omega) (by rw [hqs];unfold tot;simp only [List.map_cons,List.map_nil,List.sum_cons,List.sum_nil];omega) A0 c0 w hr picks Ap cp hp).mono ?_;rintro e w' ⟨hb,⟨hno,_⟩|⟨_,W,h,b,M,hs,hM,hF,ad,c,ad2,c2,dv,he,l1,l2,hrw,hi⟩⟩
 ·rw [hmay] at hno
  cases hno
 ·obtain ⟨e1,e2,e3⟩:=hF (mkF 1 1 1 q1) (by simp)
  change (1 : Int)=W at e1;change (1 : Int)=h at e2;change (1 : Int)=b at e3;subst e1 e2 e3
  obtain rfl : M=1:=by omega
  rw [hqs] at hrw;rw [show ([q1,q2].map (mkF 1 1 1)).length=2 from rfl,Int.toNat_natCast] at hi;change IRow w' w.heap.size dv ((PS.after 2 k picks 8).done.map Int.ofNat) at hi;rw [hd] at hi;obtain ⟨Ad,cd,rfl⟩:=own_slice hi;rw [hl] at hi he;exact ⟨ad,c,ad2,c2,Ad,cd,he,l1,l2,hrw,hi,hb⟩
theorem play_a {q1 q2 : QF} (H : TwoQ q1 q2) {A0 : Option Addr} {c0 : Nat} {w : World} (hr : Kd.C k27 w A0 2 ([q1,q2].map (mkF 1 1 1))) :
  Calls Try.prog 9 #[.slice A0 2 c0,.int .i64 1,.slice none 0 0] w fun e w'=>∃ ad c ad2 c2 Ad cd,e=.returned (.tuple #[.agg #[.int .i64 1,.int .i64 1,.int .i64 1,.slice (some ad) 1 c,.slice (some ad2) 1 c2],.slice Ad 2 cd,.int .i64 8,.bool true])∧1≤c∧1≤c2∧Rows w' w.heap.size (q1.add q2) ad c ad2 c2∧IRow w' w.heap.size (.slice Ad 2 cd) [0,1]∧Below w.heap.size w w' :=
 play_two H 1 (by decide) A0 c0 w hr [] none 0 (Kd.C_nil _ _) (by decide) rfl
theorem play_b {q1 q2 : QF} (H : TwoQ q1 q2) {A0 : Option Addr} {c0 : Nat} {w : World} (hr : Kd.C k27 w A0 2 ([q1,q2].map (mkF 1 1 1))) {Ap : Option Addr} (hp : (Kd.int .i64).C w Ap 5 [0,1,1,1,1]) :
  Calls Try.prog 9 #[.slice A0 2 c0,.int .i64 2,.slice Ap 5 5] w fun e w'=>∃ ad c ad2 c2 Ad cd,e=.returned (.tuple #[.agg #[.int .i64 1,.int .i64 1,.int .i64 1,.slice (some ad) 1 c,.slice (some ad2) 1 c2],.slice Ad 2 cd,.int .i64 8,.bool true])∧1≤c∧1≤c2∧Rows w' w.heap.size (q1.add q2) ad c ad2 c2∧IRow w' w.heap.size (.slice Ad 2 cd) [1,0]∧Below w.heap.size w w' :=
 play_two H 2 (by decide) A0 c0 w hr [0,1,1,1,1] Ap 5 hp (by decide) rfl
theorem play_none (w : World) :
  Calls Try.prog 9 #[.slice none 0 0,.int .i64 1,.slice none 0 0] w fun e w'=>NoPlay e∧Below w.heap.size w w':=by
 refine (play_sem (n0:=0) (Fs:=[]) (by decide) (fun F hF=>by cases hF) 1 (by decide) (by decide) none 0 w (Kd.C_nil _ _) [] none 0 (Kd.C_nil _ _)).mono ?_;rintro e w' ⟨hb,⟨_,hno⟩|⟨h,_⟩⟩
 ·exact ⟨hno,hb⟩
 ·cases h
set_option maxHeartbeats 4000000 in
set_option maxRecDepth 100000 in
theorem fixed_sem {p r p2 r2 : Rat} {u v u2 v2 : S63} (hu : mkR (qv false 1 2)=u∧mkR p=u∧sz1 p < 10000000) (hv : mkR (qv false 0 1)=v∧mkR r=v∧sz1 r < 10000000) (hu2 : mkR (qv false 1 3)=u2∧mkR p2=u2∧sz1 p2 < 10000000) (hv2 : mkR (qv false 2 1)=v2∧mkR r2=v2∧sz1 r2 < 10000000) {q1 q2 : QF} (h1 : addQ (zeroQ 1) 0 p r=q1) (h2 : addQ (zeroQ 1) 0 p2 r2=q2) (H : TwoQ q1 q2) (w : World) :
  Calls Try.prog 8 #[] w fun e w'=>e=.returned (.bool true)∧Below w.heap.size w w':=by
 have two : ∀ w : World,Calls Try.prog 15 #[] w fun e w'=>∃ g,e=.returned (.slice (some ⟨g,0,none⟩) 2 2)∧Kd.C k27 w' (some ⟨g,0,none⟩) 2 ([q1,q2].map (mkF 1 1 1))∧Below w.heap.size w w':=fun w=>by
  have h:=two_sem hu hv hu2 hv2 w;rw [h1,h2] at h;exact h
 have HT:=Aside0.mk two;have HQ:=Aside0.mk H;have hz:=H.z1;have hz2:=H.z2
 have hfq : ∀ x∈[q1,q2],x.fits 1 1 1:=fun x hx=>by
  rcases List.mem_cons.mp hx with rfl|hx
  ·exact H.f1
  ·rcases List.mem_cons.mp hx with rfl|hx
   ·exact H.f2
   ·cases hx
 have HF:=Aside0.mk (show (∀ x∈[q1,q2],x.fits 1 1 1)∧tot [q1,q2] < 10000000 from ⟨hfq,by unfold tot;simp only [List.map_cons,List.map_nil,List.sum_cons,List.sum_nil];omega⟩);have HA : Aside0 ((q1.add q2).fits 1 1 1∧(q1.add q2).sz < 10000000):=⟨QF.fits_add H.f1 H.f2,by have:=QF.sz_add q1 q2;omega⟩;clear hu hv hu2 hv2 h1 h2 H two hz hz2 hfq
 go_enter Try.func8,Try.ntmps8
 go_upto_region 2 with (first
  | (go_at_call 15;(with_reducible refine (HT.out _).mono ?_);rintro e w1 ⟨g,rfl,hk,hb⟩;have HK:=Aside0.mk hk;have HB:=Aside0.mk hb;clear hk hb)
  | (go_at_call 14;(with_reducible refine (filmsum2 (M:=1) s111 (by decide) HF.out.1 HF.out.2 HK.out).mono ?_);rintro e w2 ⟨sa,sc,sa2,sc2,rfl,lc,lc2,hrw,hb⟩;have HR1:=Aside0.mk (And.intro (hrw.lower (Nat.zero_le _)) (And.intro lc lc2));replace HB:=Aside0.mk (below_step HB.out hb);clear hrw lc lc2 hb HK))
 have hb:=below_alloc (Below.refl w2.heap.size w2) (.cells #[.int .i64 1,.int .i64 1,.int .i64 1,.slice (some sa) 1 sc,.slice (some sa2) 1 sc2] 27);replace HB:=Aside0.mk (below_step HB.out hb);replace HR1:=Aside0.mk (And.intro (HR1.out.1.below hb) HR1.out.2);have B1:=Aside0.mk (blk_new w2 (.cells #[.int .i64 1,.int .i64 1,.int .i64 1,.slice (some sa) 1 sc,.slice (some sa2) 1 sc2] 27));obtain ⟨wa,hwa⟩ : ∃ z,w2.alloc (.cells #[.int .i64 1,.int .i64 1,.int .i64 1,.slice (some sa) 1 sc,.slice (some sa2) 1 sc2] 27)=z:=⟨_,rfl⟩;obtain ⟨G1,hG⟩ : ∃ z,w2.heap.size=z:=⟨_,rfl⟩;rw [hwa] at HB HR1 B1 ⊢;rw [hG] at B1 ⊢;clear hwa hG hb
 go_upto_region 3 with (first
  | (go_at_call 15;(with_reducible refine (HT.out _).mono ?_);rintro e w1 ⟨g,rfl,hk,hb⟩;have HK:=Aside0.mk hk;replace HB:=Aside0.mk (below_step HB.out hb);replace HR1:=Aside0.mk (And.intro (HR1.out.1.below hb) HR1.out.2);replace B1:=Aside0.mk (blk_below B1.out hb);clear hk hb)
  | (go_at_call 9;(with_reducible refine (play_a HQ.out HK.out).mono ?_);rintro e w2 ⟨fa,fc,fa2,fc2,Fd,fd,rfl,lc,lc2,hrw,hi,hb⟩;have HR3:=Aside0.mk (And.intro (hrw.lower (Nat.zero_le _)) (And.intro lc lc2));have HI3:=Aside0.mk hi;replace HB:=Aside0.mk (below_step HB.out hb);replace HR1:=Aside0.mk (And.intro (HR1.out.1.below hb) HR1.out.2);replace B1:=Aside0.mk (blk_below B1.out hb);clear hrw lc lc2 hb HK hi))
 have hb:=below_alloc (Below.refl w2.heap.size w2) (.cells #[.int .i64 1,.int .i64 1,.int .i64 1,.slice (some fa) 1 fc,.slice (some fa2) 1 fc2] 27);replace HB:=Aside0.mk (below_step HB.out hb);replace HR1:=Aside0.mk (And.intro (HR1.out.1.below hb) HR1.out.2);replace B1:=Aside0.mk (blk_below B1.out hb);replace HR3:=Aside0.mk (And.intro (HR3.out.1.below hb) HR3.out.2);replace HI3:=Aside0.mk (pw_own_below HI3.out hb);have B3:=Aside0.mk (blk_new w2 (.cells #[.int .i64 1,.int .i64 1,.int .i64 1,.slice (some fa) 1 fc,.slice (some fa2) 1 fc2] 27));obtain ⟨wa,hwa⟩ : ∃ z,w2.alloc (.cells #[.int .i64 1,.int .i64 1,.int .i64 1,.slice (some fa) 1 fc,.slice (some fa2) 1 fc2] 27)=z:=⟨_,rfl⟩;obtain ⟨G3,hG⟩ : ∃ z,w2.heap.size=z:=⟨_,rfl⟩;rw [hwa] at HB HR1 B1 HR3 HI3 B3 ⊢;rw [hG] at B3 ⊢;clear hwa hG hb
 go_upto_region 4 with (first
  | (go_at_call 15;(with_reducible refine (HT.out _).mono ?_);rintro e w1 ⟨g,rfl,hk,hb⟩;have HK:=Aside0.mk hk;replace HB:=Aside0.mk (below_step HB.out hb);replace HR1:=Aside0.mk (And.intro (HR1.out.1.below hb) HR1.out.2);replace B1:=Aside0.mk (blk_below B1.out hb);replace HR3:=Aside0.mk (And.intro (HR3.out.1.below hb) HR3.out.2);replace HI3:=Aside0.mk (pw_own_below HI3.out hb);replace B3:=Aside0.mk (blk_below B3.out hb);clear hk hb)
  | (go_at_call 9;have hb:=below_alloc (Below.refl w1.heap.size w1) (.cells #[.int .i64 0,.int .i64 1,.int .i64 1,.int .i64 1,.int .i64 1] 3);(with_reducible refine (play_b HQ.out (Kd.C_below HK.out hb) (picks5 w1)).mono ?_);replace HB:=Aside0.mk (below_step HB.out hb);replace HR1:=Aside0.mk (And.intro (HR1.out.1.below hb) HR1.out.2);replace B1:=Aside0.mk (blk_below B1.out hb);replace HR3:=Aside0.mk (And.intro (HR3.out.1.below hb) HR3.out.2);replace HI3:=Aside0.mk (pw_own_below HI3.out hb);replace B3:=Aside0.mk (blk_below B3.out hb);clear hb;rintro e w2 ⟨ga,gc,ga2,gc2,Gd,gd,rfl,lc,lc2,hrw,hi,hb⟩;have HR7:=Aside0.mk (And.intro (hrw.lower (Nat.zero_le _)) (And.intro lc lc2));have HI7:=Aside0.mk hi;replace HB:=Aside0.mk (below_step HB.out hb);replace HR1:=Aside0.mk (And.intro (HR1.out.1.below hb) HR1.out.2);replace B1:=Aside0.mk (blk_below B1.out hb);replace HR3:=Aside0.mk (And.intro (HR3.out.1.below hb) HR3.out.2);replace HI3:=Aside0.mk (pw_own_below HI3.out hb);replace B3:=Aside0.mk (blk_below B3.out hb);clear hrw lc lc2 hb HK hi))
 have hb:=below_alloc (Below.refl w2.heap.size w2) (.cells #[.int .i64 1,.int .i64 1,.int .i64 1,.slice (some ga) 1 gc,.slice (some ga2) 1 gc2] 27);replace HB:=Aside0.mk (below_step HB.out hb);replace HR1:=Aside0.mk (And.intro (HR1.out.1.below hb) HR1.out.2);replace B1:=Aside0.mk (blk_below B1.out hb);replace HR3:=Aside0.mk (And.intro (HR3.out.1.below hb) HR3.out.2);replace HI3:=Aside0.mk (pw_own_below HI3.out hb);replace B3:=Aside0.mk (blk_below B3.out hb);replace HR7:=Aside0.mk (And.intro (HR7.out.1.below hb) HR7.out.2);replace HI7:=Aside0.mk (pw_own_below HI7.out hb);have B7:=Aside0.mk (blk_new w2 (.cells #[.int .i64 1,.int .i64 1,.int .i64 1,.slice (some ga) 1 gc,.slice (some ga2) 1 gc2] 27));obtain ⟨wa,hwa⟩ : ∃ z,w2.alloc (.cells #[.int .i64 1,.int .i64 1,.int .i64 1,.slice (some ga) 1 gc,.slice (some ga2) 1 gc2] 27)=z:=⟨_,rfl⟩;obtain ⟨G7,hG⟩ : ∃ z,w2.heap.size=z:=⟨_,rfl⟩;rw [hwa] at HB HR1 B1 HR3 HI3 B3 HR7 HI7 B7 ⊢;rw [hG] at B7 ⊢;clear hwa hG hb
 go_upto_region 5 with (first
  | (go_at_call 9;(with_reducible refine (play_none _).mono ?_);rintro e w2 ⟨hno,hb⟩;unfold NoPlay at hno;subst hno;replace HB:=Aside0.mk (below_step HB.out hb);replace HR1:=Aside0.mk (And.intro (HR1.out.1.below hb) HR1.out.2);replace B1:=Aside0.mk (blk_below B1.out hb);replace HR3:=Aside0.mk (And.intro (HR3.out.1.below hb) HR3.out.2);replace HI3:=Aside0.mk (pw_own_below HI3.out hb);replace B3:=Aside0.mk (blk_below B3.out hb);replace HR7:=Aside0.mk (And.intro (HR7.out.1.below hb) HR7.out.2);replace HI7:=Aside0.mk (pw_own_below HI7.out hb);replace B7:=Aside0.mk (blk_below B7.out hb);clear hb))
 have hb:=below_alloc (Below.refl w2.heap.size w2) (.cells #[.int .i64 0,.int .i64 0,.int .i64 0,.slice none 0 0,.slice none 0 0] 27);replace HB:=Aside0.mk (below_step HB.out hb);replace HR1:=Aside0.mk (And.intro (HR1.out.1.below hb) HR1.out.2);replace B1:=Aside0.mk (blk_below B1.out hb);replace HR3:=Aside0.mk (And.intro (HR3.out.1.below hb) HR3.out.2);replace HI3:=Aside0.mk (pw_own_below HI3.out hb);replace B3:=Aside0.mk (blk_below B3.out hb);replace HR7:=Aside0.mk (And.intro (HR7.out.1.below hb) HR7.out.2);replace HI7:=Aside0.mk (pw_own_below HI7.out hb);replace B7:=Aside0.mk (blk_below B7.out hb);obtain ⟨wa,hwa⟩ : ∃ z,w2.alloc (.cells #[.int .i64 0,.int .i64 0,.int .i64 0,.slice none 0 0,.slice none 0 0] 27)=z:=⟨_,rfl⟩;rw [hwa] at HB HR1 B1 HR3 HI3 B3 HR7 HI7 B7 ⊢;clear hwa hb;have q1:=cells5 B1.out;have q3:=cells5 B3.out;have q7:=cells5 B7.out
 go_wp2_with (first
  | (go_at_call 12;(with_reducible refine (ints2 (a:=0) (b:=1) HI3.out).mono ?_);rintro e w3 ⟨rfl,hb⟩;replace HB:=Aside0.mk (below_step HB.out hb);replace HR1:=Aside0.mk (And.intro (HR1.out.1.below hb) HR1.out.2);replace B1:=Aside0.mk (blk_below B1.out hb);replace HR3:=Aside0.mk (And.intro (HR3.out.1.below hb) HR3.out.2);replace HI3:=Aside0.mk (pw_own_below HI3.out hb);replace B3:=Aside0.mk (blk_below B3.out hb);replace HR7:=Aside0.mk (And.intro (HR7.out.1.below hb) HR7.out.2);replace HI7:=Aside0.mk (pw_own_below HI7.out hb);replace B7:=Aside0.mk (blk_below B7.out hb);clear q1 q3 q7 hb;have q1:=cells5 B1.out;have q3:=cells5 B3.out;have q7:=cells5 B7.out)
  | (go_at_call 12;(with_reducible refine (ints2 (a:=1) (b:=0) HI7.out).mono ?_);rintro e w4 ⟨rfl,hb⟩;replace HB:=Aside0.mk (below_step HB.out hb);replace HR1:=Aside0.mk (And.intro (HR1.out.1.below hb) HR1.out.2);replace B1:=Aside0.mk (blk_below B1.out hb);replace HR3:=Aside0.mk (And.intro (HR3.out.1.below hb) HR3.out.2);replace HI3:=Aside0.mk (pw_own_below HI3.out hb);replace B3:=Aside0.mk (blk_below B3.out hb);replace HR7:=Aside0.mk (And.intro (HR7.out.1.below hb) HR7.out.2);replace HI7:=Aside0.mk (pw_own_below HI7.out hb);replace B7:=Aside0.mk (blk_below B7.out hb);clear q1 q3 q7 hb;have q1:=cells5 B1.out;have q3:=cells5 B3.out;have q7:=cells5 B7.out)
  | (go_at_call 11;(with_reducible refine (isRows (M:=1) (by decide) (by decide) HA.out.1 HA.out.2 HR3.out HR1.out).mono ?_);rintro e w5 ⟨rfl,hb⟩;replace HB:=Aside0.mk (below_step HB.out hb);replace HR1:=Aside0.mk (And.intro (HR1.out.1.below hb) HR1.out.2);replace B1:=Aside0.mk (blk_below B1.out hb);replace HR3:=Aside0.mk (And.intro (HR3.out.1.below hb) HR3.out.2);replace HI3:=Aside0.mk (pw_own_below HI3.out hb);replace B3:=Aside0.mk (blk_below B3.out hb);replace HR7:=Aside0.mk (And.intro (HR7.out.1.below hb) HR7.out.2);replace HI7:=Aside0.mk (pw_own_below HI7.out hb);replace B7:=Aside0.mk (blk_below B7.out hb);clear q1 q3 q7 hb;have q1:=cells5 B1.out;have q3:=cells5 B3.out;have q7:=cells5 B7.out)
  | (go_at_call 11;(with_reducible refine (isRows (M:=1) (by decide) (by decide) HA.out.1 HA.out.2 HR7.out HR1.out).mono ?_);rintro e w6 ⟨rfl,hb⟩;replace HB:=Aside0.mk (below_step HB.out hb);replace HR1:=Aside0.mk (And.intro (HR1.out.1.below hb) HR1.out.2);replace B1:=Aside0.mk (blk_below B1.out hb);replace HR3:=Aside0.mk (And.intro (HR3.out.1.below hb) HR3.out.2);replace HI3:=Aside0.mk (pw_own_below HI3.out hb);replace B3:=Aside0.mk (blk_below B3.out hb);replace HR7:=Aside0.mk (And.intro (HR7.out.1.below hb) HR7.out.2);replace HI7:=Aside0.mk (pw_own_below HI7.out hb);replace B7:=Aside0.mk (blk_below B7.out hb);clear q1 q3 q7 hb;have q1:=cells5 B1.out;have q3:=cells5 B3.out;have q7:=cells5 B7.out))
 go_ret
 exact ⟨rfl,HB.out⟩
theorem sz_qv {a b : Int} (a0 : 0≤a) (a1 : a < 4294967296) (b0 : 0≤b) (b1 : b < 4294967296) : sz1 (qv false a b)≤3:=by
 have hp : P 1=4294967296:=by rw [P_succ,P_zero];rfl
 exact sz1_le (Sz.qv (m:=1) (n:=1) a0 b0 (by omega) (by omega))
theorem sz_addQ {p r : Rat} (hp : sz1 p≤3) (hr : sz1 r≤3) : (addQ (zeroQ 1) 0 p r).fits 1 1 1∧(addQ (zeroQ 1) 0 p r).sz < 1000:=by
 refine ⟨⟨rfl,rfl⟩,?_⟩;have h0:=sz1_zero;have h1:=sz1_add 0 p;have h2:=sz1_add 0 r;refine Nat.lt_of_le_of_lt (Nat.max_le.mpr ⟨szL_le (n:=10) fun q hq=>?_,szL_le (n:=10) fun q hq=>?_⟩) (by decide)
 ·rcases List.mem_cons.mp (show q∈[0+p] from hq) with rfl|hq
  ·omega
  ·cases hq
 ·rcases List.mem_cons.mp (show q∈[0+r] from hq) with rfl|hq
  ·omega
  ·cases hq
theorem fixed_true (w : World) : Calls Try.prog 8 #[] w fun e w'=>e=.returned (.bool true)∧Below w.heap.size w w':=by
 have k1:=sz_qv (a:=1) (b:=2) (by decide) (by decide) (by decide) (by decide);have k2:=sz_qv (a:=0) (b:=1) (by decide) (by decide) (by decide) (by decide);have k3:=sz_qv (a:=1) (b:=3) (by decide) (by decide) (by decide) (by decide);have k4:=sz_qv (a:=2) (b:=1) (by decide) (by decide) (by decide) (by decide);have a1:=sz_addQ k1 k2;have a2:=sz_addQ k3 k4;exact fixed_sem (p:=qv false 1 2) (r:=qv false 0 1) (p2:=qv false 1 3) (r2:=qv false 2 1) ⟨rfl,rfl,by omega⟩ ⟨rfl,rfl,by omega⟩ ⟨rfl,rfl,by omega⟩ ⟨rfl,rfl,by omega⟩ rfl rfl ⟨a1.1,a2.1,a1.2,a2.2⟩ w
end Go.Proofs.Ytjiaobcoeegioaa.Pq
end
section
namespace Go.Proofs.Ytjiaobcoeegioaa.N
theorem done_of_rest {n k : Nat} {s : PS} (h : s.Ok n k) (hr : s.rest n=0) : s.done.Perm (List.range n):=by
 unfold PS.rest at hr
 have hc : s.c=n:=by have:=h.c;omega
 have hs : (s.ws.map fun x=>left x.1).sum=0:=by omega
 have hidle : ∀ x∈s.ws,x.1=0:=fun x hx=>by
  have h1 : left x.1≤(s.ws.map fun x=>left x.1).sum:=by
   have : ∀ (l : List Nat) (a : Nat),a∈l→a≤l.sum:=fun l a ha=>by
    induction l with
    | nil=>cases ha
    | cons b l ih =>
     rw [List.sum_cons]
     rcases List.mem_cons.mp ha with rfl|ha
     ·omega
     ·have:=ih ha;omega
   exact this _ _ (List.mem_map.mpr ⟨x,hx,rfl⟩)
  have h2:=h.st x hx
  have h3 : left x.1=0:=by omega
  clear h1 hs;unfold left at h3
  split at h3 <;> omega
 have hb : busy s.ws=[]:=by
  unfold busy;rw [List.filter_eq_nil_iff.mpr (fun x hx=>by simp [hidle x hx])];rfl
 have h3:=h.perm
 rwa [hb,List.append_nil,hc] at h3
theorem done_all (n k : Nat) (picks : List Int) (hk : 0 < k) : (PS.after n k picks (4 * n)).done.Perm (List.range n):=by
 obtain ⟨h1,h2⟩:=after_ok n k picks (4 * n) hk (Nat.le_refl _);exact done_of_rest h1 (by omega)
theorem done_near (n k : Nat) (picks : List Int) (hk : 0 < k) : ∀ i (h : i < (PS.after n k picks (4 * n)).done.length),(PS.after n k picks (4 * n)).done[i] < i+k :=
 (after_ok n k picks (4 * n) hk (Nat.le_refl _)).1.near
theorem done_length (n k : Nat) (picks : List Int) (hk : 0 < k) : (PS.after n k picks (4 * n)).done.length=n:=by
 rw [(done_all n k picks hk).length_eq,List.length_range]
end Go.Proofs.Ytjiaobcoeegioaa.N
end
section
namespace Go.Proofs.Ytjiaobcoeegioaa.Pq
open Go.RowKit Go.Proofs.YtjiaobcoeegioaaW.PrintWords Go.Proofs.YtjiaobcoeegioaaW.PrintLast Go.Proofs.YtjiaobcoeegioaaW.PrintMore Go.Proofs.Ytjiaobcoeegioaa.N
def hF (Fs : List S27) : Int × Int × Int:=match Fs with|[]=>(0,0,0)|F :: _=>(F.f0,F.f1,F.f2)
def resF (Fs : List S27) (k : Int) : S27:=if mayB Fs k=true then mkF (hF Fs).1 (hF Fs).2.1 (hF Fs).2.2 (sumQ (Fs.map qF)) else ⟨0,0,0,[],[]⟩
def resD (Fs : List S27) (k : Int) (picks : List Int) : List Int:=if mayB Fs k=true then (PS.after Fs.length k.toNat picks (4 * Fs.length)).done.map Int.ofNat else []
def resN (Fs : List S27) (k : Int) : Int:=if mayB Fs k=true then ((4 * Fs.length : Nat) : Int) else 0
structure Parts (Fs : List S27) (n0 : Nat) : Prop where
 n : n0 < 10000000
 wf : ∀ F∈Fs,WfF n0 F
 tot : tot (Fs.map qF) < 9000000
def Ans (F : S27) (D : List Int) (N : Int) (ok : Bool) (w : World) (e : Ending) (w' : World) : Prop :=
 ∃ A3 c3 A4 c4 Ad cd,e=.returned (.tuple #[.agg #[.int .i64 F.f0,.int .i64 F.f1,.int .i64 F.f2,.slice A3 F.f3.length c3,.slice A4 F.f4.length c4],.slice Ad D.length cd,.int .i64 N,.bool ok])∧F.f3.length≤c3∧F.f4.length≤c4∧Kd.C k63 w' A3 F.f3.length F.f3∧Kd.C k63 w' A4 F.f4.length F.f4∧D.length≤cd∧(Kd.int .i64).C w' Ad D.length D∧Below w.heap.size w w'
theorem ans_of {Fs : List S27} {k : Int} {picks : List Int} {w w' : World} {e : Ending} {F : S27} {D : List Int} {N : Int} {ok : Bool} (eF : resF Fs k=F) (eD : resD Fs k picks=D) (eN : resN Fs k=N) (eo : mayB Fs k=ok)
  (h : Below w.heap.size w w'∧((mayB Fs k=false∧NoPlay e)∨(mayB Fs k=true ∧ ∃ (W h b : Int) (M : Nat),szs W h b=true∧(M : Int)=W * h * b∧(∀ F∈Fs,F.f0=W∧F.f1=h∧F.f2=b)∧Played Fs k.toNat picks W h b M w e w'))) : Ans F D N ok w e w':=by
 subst eF eD eN eo;obtain ⟨hb,⟨hno,he⟩|⟨hyes,W,h,b,M,hs,hM,hall,ad,c,ad2,c2,dv,he,l1,l2,hrw,hi⟩⟩:=h
 ·unfold resF resD resN
  rw [hno];simp only [Bool.false_eq_true,if_false];exact ⟨none,0,none,0,none,0,he,Nat.le_refl _,Nat.le_refl _,Kd.C_nil _ _,Kd.C_nil _ _,Nat.le_refl _,Kd.C_nil _ _,hb⟩
 ·unfold resF resD resN
  rw [hyes];simp only [if_true]
  have h0 : 0 < Fs.length:=by
   cases Fs with
   | nil=>exact absurd hyes (by simp [mayB])
   | cons F l=>exact Nat.succ_pos _
  obtain ⟨_,_,_,hgood⟩:=(mayB_iff h0).mp hyes
  have hck : ∀ F∈Fs,chkF F=true:=fun F hF=>by
   obtain ⟨i,hi,rfl⟩:=List.mem_iff_getElem.mp hF;have h2:=hgood i hi;unfold good at h2;simp only [Bool.and_eq_true] at h2;exact h2.1.1.1
  have hfit : (sumQ (Fs.map qF)).fits W h b:=sumQ_fits (by
   intro e;rw [List.map_eq_nil_iff] at e;rw [e] at h0
   exact absurd h0 (by decide)) (fun q hq=>by
    obtain ⟨F,hF,rfl⟩:=List.mem_map.mp hq;obtain ⟨e1,e2,e3⟩:=hall F hF;rw [← e1,← e2,← e3]
    exact (fits_of (hck F hF)).2)
  have ehF : hF Fs=(W,h,b):=by
   cases Fs with
   | nil=>cases h0
   | cons F l =>
    obtain ⟨e1,e2,e3⟩:=hall F (by simp)
    show (F.f0,F.f1,F.f2)=_
    rw [e1,e2,e3]
  rw [ehF];obtain ⟨q1,q2⟩:=q_len hM hfit;have r1:=(ORow.reads hrw.a).2.now (W:=w');have r2:=(ORow.reads hrw.b).2.now (W:=w');obtain ⟨Ad,cd,rfl⟩:=own_slice hi;obtain ⟨g1,g2,g3⟩:=IRow.reads hi;dsimp only [mkF];refine ⟨some ad,c,some ad2,c2,Ad,cd,?_,by rw [q1];exact l1,by rw [q2];exact l2,r1,r2,g2,g3,hb⟩;rw [q1,q2];exact he
theorem play_ans {n0 : Nat} {Fs : List S27} (H : Parts Fs n0) (k : Int) (hk0 : -9223372036854775808≤k∧k≤9223372036854775807) {A0 : Option Addr} {c0 : Nat} {w : World} (hr : Kd.C k27 w A0 Fs.length Fs) {picks : List Int} {Ap : Option Addr} {cp : Nat} (hp : (Kd.int .i64).C w Ap picks.length picks) {F : S27} {D : List Int} {N : Int} {ok : Bool} (eF : resF Fs k=F) (eD : resD Fs k picks=D) (eN : resN Fs k=N) (eo : mayB Fs k=ok) :
  Calls Try.prog 9 #[.slice A0 Fs.length c0,.int .i64 k,.slice Ap picks.length cp] w fun e w'=>Ans F D N ok w e w':=by
 exact (play_sem H.n H.wf k hk0 H.tot A0 c0 w hr picks Ap cp hp).mono fun e w' h=>ans_of eF eD eN eo h
theorem resD_near (Fs : List S27) (k : Int) (picks : List Int) : (resD Fs k picks).length≤4096 ∧ ∀ i : Nat,i < (resD Fs k picks).length→rd (resD Fs k picks) (i : Int) < i+k∧0≤rd (resD Fs k picks) (i : Int)∧1≤k∧k≤64:=by
 unfold resD;cases hm : mayB Fs k
 ·simp only [Bool.false_eq_true,if_false]
  exact ⟨by simp,fun i hi=>absurd hi (Nat.not_lt_zero _)⟩
 ·simp only [if_true]
  have h0 : 0 < Fs.length:=by
   cases Fs with
   | nil=>exact absurd hm (by simp [mayB])
   | cons F l=>exact Nat.succ_pos _
  obtain ⟨h1,h2,h3,_⟩:=(mayB_iff h0).mp hm
  have hk : 0 < k.toNat:=by omega
  have hl:=done_length Fs.length k.toNat picks hk;rw [List.length_map];refine ⟨by omega,fun i hi=>?_⟩;have h4:=done_near Fs.length k.toNat picks hk i hi
  have e : rd ((PS.after Fs.length k.toNat picks (4 * Fs.length)).done.map Int.ofNat) (i : Int)=(((PS.after Fs.length k.toNat picks (4 * Fs.length)).done[i] : Nat) : Int):=by
   unfold rd;rw [Int.toNat_natCast,List.getD_eq_getElem?_getD,List.getElem?_map,List.getElem?_eq_getElem hi];rfl
  rw [e];exact ⟨by omega,by omega,h2,h3⟩
end Go.Proofs.Ytjiaobcoeegioaa.Pq
end
section
namespace Go.Proofs.Ytjiaobcoeegioaa.Pq
open Go.RowKit Go.Proofs.YtjiaobcoeegioaaW.PrintWords Go.Proofs.YtjiaobcoeegioaaW.PrintLast Go.Proofs.YtjiaobcoeegioaaW.PrintMore Go.Proofs.Ytjiaobcoeegioaa.N
theorem may_facts {Fs : List S27} {k : Int} (hm : mayB Fs k=true) : 0 < Fs.length∧Fs.length≤4096∧1≤k∧k≤64 ∧ ∃ (W h b : Int) (M : Nat),szs W h b=true∧(M : Int)=W * h * b∧hF Fs=(W,h,b)∧(∀ q∈Fs.map qF,q.fits W h b)∧Fs=(Fs.map qF).map (mkF W h b):=by
 have h0 : 0 < Fs.length:=by
  cases Fs with
  | nil=>exact absurd hm (by simp [mayB])
  | cons F l=>exact Nat.succ_pos _
 obtain ⟨h1,h2,h3,hgood⟩:=(mayB_iff h0).mp hm
 have hck : ∀ F∈Fs,chkF F=true∧F.f0=Fs[0].f0∧F.f1=Fs[0].f1∧F.f2=Fs[0].f2:=fun F hF=>by
  obtain ⟨i,hi,rfl⟩:=List.mem_iff_getElem.mp hF;have h2:=hgood i hi;unfold good at h2;simp only [Bool.and_eq_true,beq_iff_eq] at h2;exact ⟨h2.1.1.1,h2.1.1.2,h2.1.2,h2.2⟩
 have hs:=(fits_of (hck Fs[0] (List.getElem_mem _)).1).1;refine ⟨h0,h1,h2,h3,Fs[0].f0,Fs[0].f1,Fs[0].f2,(Fs[0].f0 * Fs[0].f1 * Fs[0].f2).toNat,hs,by have:=szs_pos hs;omega,?_,fun q hq=>?_,?_⟩
 ·cases Fs with
  | nil=>cases h0
  | cons F l=>rfl
 ·obtain ⟨F,hF,rfl⟩:=List.mem_map.mp hq
  obtain ⟨c,e1,e2,e3⟩:=hck F hF;rw [← e1,← e2,← e3];exact (fits_of c).2
 ·rw [List.map_map]
  refine (List.map_id' Fs).symm.trans (List.map_congr_left fun F hF=>?_);obtain ⟨c,e1,e2,e3⟩:=hck F hF
  show F=mkF _ _ _ (qF F)
  rw [← e1,← e2,← e3,mkF_qF c]
structure Small (F : S27) : Prop where
 wf : WfF 9000000 F
 l3 : F.f3.length≤2048
 l4 : F.f4.length≤2048
theorem small_mk {q : QF} {W h b : Int} {M : Nat} (hs : szs W h b=true) (hM : (M : Int)=W * h * b) (hf : q.fits W h b) (hz : q.sz≤9000000) : Small (mkF W h b q):=by
 obtain ⟨e1,e2⟩:=q_len hM hf;have hp:=szs_prod hs;have w:=wfF_mkF W h b q;exact ⟨⟨fun x hx=>(w.1 x hx).up hz,fun x hx=>(w.2 x hx).up hz⟩,by show (q.a.map mkR).length≤2048;omega,by show (q.b.map mkR).length≤2048;omega⟩
theorem resF_small {n0 : Nat} {Fs : List S27} (H : Parts Fs n0) (k : Int) : Small (resF Fs k):=by
 unfold resF;cases hm : mayB Fs k
 ·simp only [Bool.false_eq_true,if_false]
  exact ⟨And.intro (fun x hx=>absurd hx (List.not_mem_nil)) (fun x hx=>absurd hx (List.not_mem_nil)),Nat.zero_le _,Nat.zero_le _⟩
 ·simp only [if_true]
  obtain ⟨h0,_,_,_,W,h,b,M,hs,hM,e,hq,_⟩:=may_facts hm;rw [e]
  have hne : Fs.map qF≠[]:=fun e=>by
   rw [List.map_eq_nil_iff] at e;rw [e] at h0;exact absurd h0 (by decide)
  exact small_mk hs hM (sumQ_fits hne hq) (by have h1:=sumQ_sz (Fs.map qF);have h2:=H.tot;omega)
theorem isF {F : S27} (h : Small F) {A A2 B B2 : Option Addr} {c c2 d d2 : Nat} (l1 : F.f3.length≤c) (l2 : F.f4.length≤c2) (l3 : F.f3.length≤d) (l4 : F.f4.length≤d2) {w : World} (h1 : Kd.C k63 w A F.f3.length F.f3) (h2 : Kd.C k63 w A2 F.f4.length F.f4) (h3 : Kd.C k63 w B F.f3.length F.f3) (h4 : Kd.C k63 w B2 F.f4.length F.f4) :
  Calls Try.prog 11 #[.agg #[.int .i64 F.f0,.int .i64 F.f1,.int .i64 F.f2,.slice A F.f3.length c,.slice A2 F.f4.length c2],.agg #[.int .i64 F.f0,.int .i64 F.f1,.int .i64 F.f2,.slice B F.f3.length d,.slice B2 F.f4.length d2]] w fun e w'=>e=.returned (.bool true)∧Below w.heap.size w w':=by
 have hx : ∀ l : List S63,(∀ x∈l,Wf 9000000 x) → ∀ x∈l,x.f1.length < 4611686018427387904∧x.f2.length < 4611686018427387904:=fun l hl x hx=>⟨Nat.lt_of_le_of_lt (hl x hx).a.le (by decide),Nat.lt_of_le_of_lt (hl x hx).b.le (by decide)⟩
 have g3:=h.l3;have g4:=h.l4;obtain ⟨k,hk⟩:=(is20 (W:=F.f0) (h:=F.f1) (b:=F.f2) (xs:=F.f3) (ys:=F.f4) (by omega) (hx _ h.wf.1) (by omega) (hx _ h.wf.2)).rounds;exact penumbraref20_Is.calls k F.f0 F.f1 F.f2 A c F.f3 A2 c2 F.f4 F.f0 F.f1 F.f2 B d F.f3 B2 d2 F.f4 true w h1 l1 h2 l2 h3 l3 h4 l4 hk
end Go.Proofs.Ytjiaobcoeegioaa.Pq
end
section
namespace Go.Proofs.Ytjiaobcoeegioaa.Pq
open Go.RowKit Go.Proofs.YtjiaobcoeegioaaW.PrintWords Go.Proofs.YtjiaobcoeegioaaW.PrintLast Go.Proofs.YtjiaobcoeegioaaW.PrintMore
attribute [local go_sem] max2_int min2_int max_two min_two max_three min_three max_four min_four
set_option maxHeartbeats 8000000
set_option maxRecDepth 100000
theorem penumbraref01_Norm.calls (k : Nat) (A0 : Option Addr) (c0 : Nat) (l0 : List Int) (r : List Int) (w : World) (hr0 : Kd.C (Kd.int .u32) w A0 l0.length l0) (hc0 : l0.length≤c0) (h : penumbraref01_Norm.f k l0=some r) :
  Calls Try.prog 67 #[.slice A0 l0.length c0] w fun e w'=>∃ v0_ : Value,e=.returned (v0_)∧Kd.R (Kd.int .u32) 82 w' w.heap.size (fun _=>True) v0_ r∧Below w.heap.size w w':=by
 have HR0:=Aside0.mk hr0;have HC0:=Aside0.mk hc0;clear hr0 hc0;have HB:=Aside0.mk (Below.refl w.heap.size w);have H : (penumbraref01_Norm.l0 k l0 (l0.length : Int))=some r:=h;clear h;have H':=Aside0.mk H;clear H
 go_enter Try.func67,Try.ntmps67
 go_wp2
 go_loopg [3] k (fun kq v3 w'=>∃ (x3_1 : Int),v3=.int .i64 x3_1∧Aside0 (penumbraref01_Norm.l0 kq l0 x3_1=some r)∧Aside0 (kq≤k)∧Aside0 (Below w.heap.size w w'))
 case atStart=>exact ⟨((l0.length : Int)),sD,H',⟨Nat.le_refl _⟩,⟨bL HB.out⟩⟩
 case round =>
  clear H';obtain ⟨x3_1,rfl,HA,HK1,HB⟩:=hrel
  cases gk with
  | zero=>exact absurd HA.out (by simp [penumbraref01_Norm.l0])
  | succ k1 =>
   have H:=HA.out;clear HA;simp only [penumbraref01_Norm.l0] at H
   by_cases c2 : x3_1 > 0
   ·rw [if_pos c2] at H
    have c2b0 : decide (0 < x3_1)=true:=decide_eq_true c2;clear c2;obtain ⟨ji3,hji3⟩ : ∃ j_ : Int,(wrap64 (x3_1 - 1))=j_:=⟨_,rfl⟩
    first|rw [hji3] at H|simp only [hji3] at H ⊢
    have hji3w:=(i64_w _).trans hji3;refine ifT H ?_;clear H;intro c4 H;have c4b0 : decide (0≤(ji3))=true:=decide_eq_true c4;clear c4;refine ifT H ?_;clear H;intro c5 H;have c5b0 : decide ((ji3) < (l0.length : Int))=true:=decide_eq_true c5;clear c5
    by_cases c6 : (rd l0 (ji3))=0
    ·rw [if_pos c6] at H
     have c6b0 : ((rd l0 (ji3)) == 0)=true:=beq_iff_eq.mpr c6;have c6b1 : ((rd l0 (ji3)) != 0)=false:=bne_eq_false_iff_eq.mpr c6;clear c6;have H':=Aside0.mk H;clear H;have p515 : 0≤((ji3) : Int):=oA;have q515 : (ji3) < (l0.length : Int):=oA;obtain ⟨ad515,e515,hx515_0⟩:=Kd.at_int HR0.out (ji3) p515 q515;cases e515;replace hx515_0:=(HB.out.cell (World.block_lt_of_cell? w _ hx515_0)).trans hx515_0;replace p515:=eq_true p515;replace q515:=eq_true q515
     go_wp2
     go_roundg k1
     case measure=>have:=HK1.out;omega
     case rel=>exact ⟨(ji3),(by first|rfl|(simp;done)|(simp only [← hji3] <;> (first|rfl|simp))|(simp [*];done)),H',⟨by have:=HK1.out;omega⟩,⟨bL HB.out⟩⟩
    ·rw [if_neg c6] at H
     have c6b0 : ((rd l0 (ji3)) == 0)=false:=beq_eq_false_iff_ne.mpr c6;have c6b1 : ((rd l0 (ji3)) != 0)=true:=bne_iff_ne.mpr c6;obtain ⟨y516,hy_⟩ : ∃ y_ : List Int,y_=(([] : List Int)):=⟨_,rfl⟩;replace H : (if 0≤x3_1 then (if x3_1≤(l0.length : Int) then (if y516.length+(l0.take (x3_1 : Int).toNat).length < 35184372088832 then (some (y516++(l0.take (x3_1 : Int).toNat))) else (none)) else (none)) else (none))=some r:=yH H;have Ny516:=Aside0.mk hy_;clear hy_;refine ifT H ?_;clear H;intro c7 H;have c7b0:=eq_true c7;have c7b1 : decide (0≤x3_1)=true:=decide_eq_true c7;clear c7;refine ifT H ?_;clear H;intro c8 H;have c8b0:=eq_true c8;have c8b1 : decide (x3_1≤(l0.length : Int))=true:=decide_eq_true c8;clear c8;refine ifT H ?_;clear H;intro c9 H;have LMc9:=Aside0.mk c9;clear c9;obtain ⟨y520,hy_⟩ : ∃ y_ : List Int,y_=(y516++(l0.take (x3_1 : Int).toNat)):=⟨_,rfl⟩;replace H : (some y520)=some r:=yH H;have Ny520:=Aside0.mk hy_;clear hy_;obtain rfl:=Option.some.inj H;have p515 : 0≤((ji3) : Int):=oA;have q515 : (ji3) < (l0.length : Int):=oA;obtain ⟨ad515,e515,hx515_0⟩:=Kd.at_int HR0.out (ji3) p515 q515;cases e515;replace hx515_0:=(HB.out.cell (World.block_lt_of_cell? w _ hx515_0)).trans hx515_0;replace p515:=eq_true p515;replace q515:=eq_true q515
     go_wp2_with (first|((with_reducible refine gate_dst (N:=18) rfl ?_);refine Kd.R_lit (Kd.int .u32) _ 82 ?hg (N:=18) ?hd (xs:=([] : List Int)) (inner:=[]) (ok:=fun _=>True) (okp:=fun _=>True) ?hr ?hp (fun _ hk=>hk) trivial (Below.refl _ _) (Nat.le_refl _) (by simp) ?_;(case hd=>rfl);(case hg=>rfl);(case hr=>first|(go_simp;done)|(go_simp;(with_reducible rfl))|(go_simp;rfl)|(go_simp;simp only [hu,Int.emod_sub_emod]));(case hp=>exact (Reps.none _ _));intro v517 w10 ho11 hb hg_ hnew_;clear hg_ hnew_;(first|rw [← Ny516.out] at ho11|(simp only [Int.reduceToNat] at ho11;rw [← Ny516.out] at ho11));have HO518:=Aside0.mk (Kd.R_lower ho11 (below_size (bL HB.out)));replace HB:=bH HB hb;clear hb ho11;obtain ⟨i012,hi012,_,hsz12,_⟩:=info_parts info82;obtain ⟨hcut12,hA12,hC12⟩:=print_take_of (P:=Try.prog) (Value.int .u32) 0 61 82 .i64 Try.underlying61 hi012 hsz12 (some ad515) c0 l0 x3_1 (oA) (oA) HC0.out;have HR519:=Aside0.mk (Kd.C_of_reads (h1:=fun _=>rfl) (hA12 _ (Kd.reads_of_C HR0.out)));have HC519:=Aside0.mk hC12;clear hA12 hC12 hi012 hsz12)|((with_reducible refine gate_builtin (b:=.append) (xs:=#[.tmp 18,.tmp 21]) rfl ?_);at_builtin;refine Kd.R_append_rows (Kd.int .u32) (w0:=w) w.heap.size rfl (.tmp 18) (.tmp 21) 61 82 (.int .u32 0) 4 rfl Try.underlying61 info82 rfl (by decide) (by omega) v517 y516 (l0.take (x3_1 : Int).toNat) _ _ _ (fun _=>True) (fun _=>False) rfl rfl ?aO ?aR (fun _ _ h=>h) (fun _ h=>h.elim) ?aF ?aB ?aS ?aL ?_;(case aR=>first|(refine Kd.C_of_len (show (l0.take (x3_1 : Int).toNat).length=x3_1.toNat from (by rw [List.length_take];have h_ : (x3_1 : Int)≤(l0.length : Int):=oA;omega)) ?_;repeat (first|exact (Kd.C_below HR519.out HB.out)|(with_reducible refine Kd.C_alloc ?_ _)|(with_reducible refine Kd.C_drewN ?_ _)|(with_reducible refine Kd.C_drew ?_)))|(repeat (first|exact (Kd.C_below HR519.out HB.out)|(with_reducible refine Kd.C_alloc ?_ _)|(with_reducible refine Kd.C_drewN ?_ _)|(with_reducible refine Kd.C_drew ?_))));(case aB=>exact (bL HB.out));(case aF=>exact (fun _ _=>trivial));(case aO=>exact (Ru HO518.out));(case aS=>exact (below_size (bL HB.out)));(case aL=>have:=LMc9.out;have hlx_:=(show (l0.take (x3_1 : Int).toNat).length=x3_1.toNat from (by rw [List.length_take];have h_ : (x3_1 : Int)≤(l0.length : Int):=oA;omega));omega);intro v521 w13 ho hb hg hat;rw [← Ny520.out] at ho;replace HB:=Aside0.mk hb;have HO522:=Aside0.mk ho;clear HO518;clear ho hb hg hat))
     go_ret
     exact ⟨_,by first|rfl|(simp [errW_none,errW_some] <;> rfl)|(simp only [← hji3];first|rfl|(simp [errW_none,errW_some] <;> rfl))|(simp [*,errW_none,errW_some] <;> rfl),by (with_reducible repeat (first|apply Ra|apply Rn|apply Rd));exact HO522.out,bL HB.out⟩
   ·rw [if_neg c2] at H
    have c2b0 : decide (0 < x3_1)=false:=decide_eq_false c2;clear c2;obtain ⟨y523,hy_⟩ : ∃ y_ : List Int,y_=(([] : List Int)):=⟨_,rfl⟩;replace H : (if 0≤x3_1 then (if x3_1≤(l0.length : Int) then (if y523.length+(l0.take (x3_1 : Int).toNat).length < 35184372088832 then (some (y523++(l0.take (x3_1 : Int).toNat))) else (none)) else (none)) else (none))=some r:=yH H;have Ny523:=Aside0.mk hy_;clear hy_;refine ifT H ?_;clear H;intro c14 H;have c14b0:=eq_true c14;have c14b1 : decide (0≤x3_1)=true:=decide_eq_true c14;clear c14;refine ifT H ?_;clear H;intro c15 H;have c15b0:=eq_true c15;have c15b1 : decide (x3_1≤(l0.length : Int))=true:=decide_eq_true c15;clear c15;refine ifT H ?_;clear H;intro c16 H;have LMc16:=Aside0.mk c16;clear c16;obtain ⟨y527,hy_⟩ : ∃ y_ : List Int,y_=(y523++(l0.take (x3_1 : Int).toNat)):=⟨_,rfl⟩;replace H : (some y527)=some r:=yH H;have Ny527:=Aside0.mk hy_;clear hy_;obtain rfl:=Option.some.inj H
    go_wp2_with (first|((with_reducible refine gate_dst (N:=18) rfl ?_);refine Kd.R_lit (Kd.int .u32) _ 82 ?hg (N:=18) ?hd (xs:=([] : List Int)) (inner:=[]) (ok:=fun _=>True) (okp:=fun _=>True) ?hr ?hp (fun _ hk=>hk) trivial (Below.refl _ _) (Nat.le_refl _) (by simp) ?_;(case hd=>rfl);(case hg=>rfl);(case hr=>first|(go_simp;done)|(go_simp;(with_reducible rfl))|(go_simp;rfl)|(go_simp;simp only [hu,Int.emod_sub_emod]));(case hp=>exact (Reps.none _ _));intro v524 w17 ho18 hb hg_ hnew_;clear hg_ hnew_;(first|rw [← Ny523.out] at ho18|(simp only [Int.reduceToNat] at ho18;rw [← Ny523.out] at ho18));have HO525:=Aside0.mk (Kd.R_lower ho18 (below_size (bL HB.out)));replace HB:=bH HB hb;clear hb ho18;obtain ⟨i019,hi019,_,hsz19,_⟩:=info_parts info82;obtain ⟨hcut19,hA19,hC19⟩:=print_take_of (P:=Try.prog) (Value.int .u32) 0 61 82 .i64 Try.underlying61 hi019 hsz19 A0 c0 l0 x3_1 (oA) (oA) HC0.out;have HR526:=Aside0.mk (Kd.C_of_reads (h1:=fun _=>rfl) (hA19 _ (Kd.reads_of_C HR0.out)));have HC526:=Aside0.mk hC19;clear hA19 hC19 hi019 hsz19)|((with_reducible refine gate_builtin (b:=.append) (xs:=#[.tmp 18,.tmp 21]) rfl ?_);at_builtin;refine Kd.R_append_rows (Kd.int .u32) (w0:=w) w.heap.size rfl (.tmp 18) (.tmp 21) 61 82 (.int .u32 0) 4 rfl Try.underlying61 info82 rfl (by decide) (by omega) v524 y523 (l0.take (x3_1 : Int).toNat) _ _ _ (fun _=>True) (fun _=>False) rfl rfl ?aO ?aR (fun _ _ h=>h) (fun _ h=>h.elim) ?aF ?aB ?aS ?aL ?_;(case aR=>first|(refine Kd.C_of_len (show (l0.take (x3_1 : Int).toNat).length=x3_1.toNat from (by rw [List.length_take];have h_ : (x3_1 : Int)≤(l0.length : Int):=oA;omega)) ?_;repeat (first|exact (Kd.C_below HR526.out HB.out)|(with_reducible refine Kd.C_alloc ?_ _)|(with_reducible refine Kd.C_drewN ?_ _)|(with_reducible refine Kd.C_drew ?_)))|(repeat (first|exact (Kd.C_below HR526.out HB.out)|(with_reducible refine Kd.C_alloc ?_ _)|(with_reducible refine Kd.C_drewN ?_ _)|(with_reducible refine Kd.C_drew ?_))));(case aB=>exact (bL HB.out));(case aF=>exact (fun _ _=>trivial));(case aO=>exact (Ru HO525.out));(case aS=>exact (below_size (bL HB.out)));(case aL=>have:=LMc16.out;have hlx_:=(show (l0.take (x3_1 : Int).toNat).length=x3_1.toNat from (by rw [List.length_take];have h_ : (x3_1 : Int)≤(l0.length : Int):=oA;omega));omega);intro v528 w20 ho hb hg hat;rw [← Ny527.out] at ho;replace HB:=Aside0.mk hb;have HO529:=Aside0.mk ho;clear HO525;clear ho hb hg hat))
    go_ret
    exact ⟨_,eW,by (with_reducible repeat (first|apply Ra|apply Rn|apply Rd));exact HO529.out,bL HB.out⟩
theorem penumbraref01_limb.calls (A0 : Option Addr) (c0 : Nat) (l0 : List Int) (a1 : Int) (r : Int) (w : World) (hr0 : Kd.C (Kd.int .u32) w A0 l0.length l0) (hc0 : l0.length≤c0) (h : penumbraref01_limb.f l0 a1=some r) :
  Calls Try.prog 68 #[.slice A0 l0.length c0,.int .i64 a1] w fun e w'=>e=.returned (.int .u64 r)∧Drawn0 w w':=by
 have HR0:=Aside0.mk hr0;have HC0:=Aside0.mk hc0;clear hr0 hc0;have H : (if a1 < (l0.length : Int) then (if 0≤a1 then (some (IntKind.u64.wrap (rd l0 a1))) else (none)) else (some 0))=some r:=h;clear h
 by_cases c3 : a1 < (l0.length : Int)
 ·rw [if_pos c3] at H
  have c3b0 : decide (a1 < (l0.length : Int))=true:=decide_eq_true c3;clear c3;refine ifT H ?_;clear H;intro c4 H;have c4b0 : decide (0≤a1)=true:=decide_eq_true c4;clear c4;obtain rfl:=Option.some.inj H;have p511 : 0≤(a1 : Int):=oA;have q511 : a1 < (l0.length : Int):=oA;obtain ⟨ad511,e511,hx511_0⟩:=Kd.at_int HR0.out a1 p511 q511;cases e511;replace p511:=eq_true p511;replace q511:=eq_true q511
  go_enter Try.func68,Try.ntmps68
  go_wp2
  go_ret
  exact ⟨sD,by repeat (first|exact Drawn0.refl _|apply Drawn0.step)⟩
 ·rw [if_neg c3] at H
  have c3b0 : decide (a1 < (l0.length : Int))=false:=decide_eq_false c3;clear c3;obtain rfl:=Option.some.inj H
  go_enter Try.func68,Try.ntmps68
  go_wp2
  go_ret
  exact ⟨sD,by repeat (first|exact Drawn0.refl _|apply Drawn0.step)⟩
theorem penumbraref01_Add.calls (k : Nat) (A0 : Option Addr) (c0 : Nat) (l0 : List Int) (A1 : Option Addr) (c1 : Nat) (l1 : List Int) (r : List Int) (w : World) (hr0 : Kd.C (Kd.int .u32) w A0 l0.length l0) (hc0 : l0.length≤c0) (hr1 : Kd.C (Kd.int .u32) w A1 l1.length l1) (hc1 : l1.length≤c1) (h : penumbraref01_Add.f k l0 l1=some r) :
  Calls Try.prog 53 #[.slice A0 l0.length c0,.slice A1 l1.length c1] w fun e w'=>∃ v0_ : Value,e=.returned (v0_)∧Kd.R (Kd.int .u32) 82 w' w.heap.size (fun _=>True) v0_ r∧Below w.heap.size w w':=by
 have HR0:=Aside0.mk hr0;have HC0:=Aside0.mk hc0;clear hr0 hc0;have HR1:=Aside0.mk hr1;have HC1:=Aside0.mk hc1;clear hr1 hc1;have HB:=Aside0.mk (Below.refl w.heap.size w);have H : (penumbraref01_Add.l0 k l0 l1 (([] : List Int)) 0 0)=some r:=h;clear h;obtain ⟨y541,hy_⟩ : ∃ y_ : List Int,y_=(([] : List Int)):=⟨_,rfl⟩;replace H : (penumbraref01_Add.l0 k l0 l1 y541 0 0)=some r:=yH H;have Ny541:=Aside0.mk hy_;clear hy_;have H':=Aside0.mk H;clear H
 go_enter Try.func53,Try.ntmps53
 go_wp2_with (first|((with_reducible refine gate_dst (N:=9) rfl ?_);(try (refine gate_guard (by rfl) ?_;dsimp only));refine Kd.R_lit (Kd.int .u32) _ 82 ?hg (N:=9) ?hd (xs:=([] : List Int)) (inner:=[]) (ok:=fun _=>True) (okp:=fun _=>True) ?hr ?hp (fun _ hk=>hk) trivial (Below.refl _ _) (Nat.le_refl _) (by simp) ?_;(case hd=>rfl);(case hg=>rfl);(case hr=>first|(go_simp;done)|(go_simp;(with_reducible rfl))|(go_simp;rfl)|(go_simp;simp only [hu,Int.emod_sub_emod]));(case hp=>exact (Reps.none _ _));intro v542 w3 ho4 hb hg_ hnew_;clear hg_ hnew_;(first|rw [← Ny541.out] at ho4|(simp only [Int.reduceToNat] at ho4;rw [← Ny541.out] at ho4));have HO543:=Aside0.mk (Kd.R_lower ho4 (below_size (bL HB.out)));replace HB:=bH HB hb;clear hb ho4))
 go_loopg [5,6,7] k (fun kq v5 v6 v7 w'=>∃ (x5_1 : List Int) (x6_1 : Int) (x7_1 : Int),v6=.int .u64 x6_1∧v7=.int .i64 x7_1∧Aside0 (penumbraref01_Add.l0 kq l0 l1 x5_1 x6_1 x7_1=some r)∧Aside0 (kq≤k)∧Aside0 (Kd.R (Kd.int .u32) 82 w' w.heap.size (fun _=>True) v5 x5_1)∧Aside0 (Below w.heap.size w w'))
 case atStart=>exact ⟨(y541),(0),(0),sD,sD,H',⟨Nat.le_refl _⟩,⟨Ru HO543.out⟩,⟨bL HB.out⟩⟩
 case round =>
  clear H';obtain ⟨x5_1,x6_1,x7_1,rfl,rfl,HA,HK1,HO_5,HB⟩:=hrel
  cases gk with
  | zero=>exact absurd HA.out (by simp [penumbraref01_Add.l0])
  | succ k1 =>
   have H:=HA.out;clear HA;simp only [penumbraref01_Add.l0] at H;have HC5:=Aside0.mk H;clear H
   go_upto_region 4 with (fail)
   go_cut [19] (fun v19 wc=>∃ (kq : Nat) (x19_4 : Bool),v19=.bool x19_4∧Aside0 (penumbraref01_Add.j1 kq l0 l1 x5_1 x6_1 x7_1 x19_4=some r)∧Aside0 (kq≤k1)∧Aside0 (Kd.R (Kd.int .u32) 82 wc w.heap.size (fun _=>True) u5 x5_1)∧Aside0 (Below w.heap.size w wc))
   case first =>
    have H:=HC5.out;clear HC5
    by_cases c6 : x7_1 < (l0.length : Int)
    ·rw [if_pos c6] at H
     have c6b0 : decide (x7_1 < (l0.length : Int))=true:=decide_eq_true c6;clear c6
     (first|rw [c6b0]|(simp only [i64_w,i32_w];rw [c6b0])|skip)
     have H':=Aside0.mk H;clear H
     go_wp2
     go_meet
     case rel=>exact ⟨_,(true),sD,H',⟨by have:=HK1.out;first|omega|exact Nat.le_refl _⟩,⟨Ru HO_5.out⟩,⟨bL HB.out⟩⟩
    ·rw [if_neg c6] at H
     have c6b0 : decide (x7_1 < (l0.length : Int))=false:=decide_eq_false c6;clear c6
     (first|rw [c6b0]|(simp only [i64_w,i32_w];rw [c6b0])|skip)
     have H':=Aside0.mk H;clear H
     go_wp2
     go_meet
     case rel=>exact ⟨_,(decide (x7_1 < (l1.length : Int))),sD,H',⟨by have:=HK1.out;first|omega|exact Nat.le_refl _⟩,⟨Ru HO_5.out⟩,⟨bL HB.out⟩⟩
   case rest =>
    clear HC5;obtain ⟨kq,x19_4,rfl,HA,HJ4,HO_5,HB⟩:=hcut
    cases kq with
    | zero=>exact absurd HA.out (by simp [penumbraref01_Add.j1])
    | succ kj4 =>
     have H:=HA.out;clear HA;simp only [penumbraref01_Add.j1] at H
     by_cases c7 : x19_4=true
     ·subst c7
      rw [if_pos rfl] at H;refine biT H ?_;clear H;intro t544 A8 H;(try dsimp only at H);replace A8:=Aside0.mk A8;refine biT H ?_;clear H;intro t545 A9 H;(try dsimp only at H);replace A9:=Aside0.mk A9;refine ifT H ?_;clear H;intro c10 H;have LMc10:=Aside0.mk c10;clear c10;obtain ⟨y546,hy_⟩ : ∃ y_ : List Int,y_=(x5_1++[(Int.tmod (IntKind.u64.wrap ((IntKind.u64.wrap (t544+t545))+x6_1)) 4294967296) % 4294967296]):=⟨_,rfl⟩;replace H : (penumbraref01_Add.l0 kj4 l0 l1 y546 (IntKind.u64.wrap (Int.tdiv (IntKind.u64.wrap ((IntKind.u64.wrap (t544+t545))+x6_1)) 4294967296)) (wrap64 (x7_1+1)))=some r:=yH H;have Ny546:=Aside0.mk hy_;clear hy_;have H':=Aside0.mk H;clear H
      go_wp2_with (first|((with_reducible refine gate_callee (f:=68) rfl ?_);refine gL (some 24) Try.func68 #[.slice A0 l0.length c0,.int .i64 x7_1] ?_;(with_reducible refine (penumbraref01_limb.calls _ _ l0 x7_1 t544 _ ?s1_ ?s2_ A8.out).mono ?_);(case s1_=>exact Cu (Kd.C_below HR0.out HB.out));(case s2_=>exact HC0.out);rintro e w' ⟨rfl,⟨nd,rfl⟩⟩;refine ⟨_,rfl,?_⟩)|((with_reducible refine gate_callee (f:=68) rfl ?_);refine gL (some 27) Try.func68 #[.slice A1 l1.length c1,.int .i64 x7_1] ?_;(with_reducible refine (penumbraref01_limb.calls _ _ l1 x7_1 t545 _ ?s1_ ?s2_ A9.out).mono ?_);(case s1_=>exact Cu (Kd.C_below HR1.out (bL HB.out)));(case s2_=>exact HC1.out);rintro e w' ⟨rfl,⟨nd,rfl⟩⟩;refine ⟨_,rfl,?_⟩)|((with_reducible refine gate_builtin (b:=.append) (xs:=#[.tmp 31,.tmp 35]) rfl ?_);(try (refine gate_guard (by rfl) ?_;dsimp only));at_builtin;refine Kd.R_append (Kd.int .u32) (w0:=w) w.heap.size rfl (.tmp 31) (.tmp 35) 61 82 (.int .u32 0) 4 rfl Try.underlying61 info82 rfl (by decide) (by omega) u5 x5_1 ((Int.tmod (IntKind.u64.wrap ((IntKind.u64.wrap (t544+t545))+x6_1)) 4294967296) % 4294967296) [.int .u32 ((Int.tmod (IntKind.u64.wrap ((IntKind.u64.wrap (t544+t545))+x6_1)) 4294967296) % 4294967296)] (fun _=>True) (fun _=>False) rfl rfl ?aP (fun _ hk=>hk.elim) ?aF ?aO ?aB ?aS ?aL ?_;(case aP=>exact rfl);(case aB=>exact (bL HB.out));(case aF=>exact (fun _ _=>trivial));(case aO=>exact (Ru HO_5.out));(case aS=>exact (below_size (bL HB.out)));(case aL=>have:=LMc10.out;omega);intro v547 w11 ho hb hg hat;rw [← Ny546.out] at ho;replace HB:=Aside0.mk hb;have HO548:=Aside0.mk ho;clear HO_5;clear ho hb hg hat))
      go_roundg kj4
      case measure=>have:=HK1.out;have:=HJ4.out;omega
      case rel=>exact ⟨(y546),(IntKind.u64.wrap (Int.tdiv (IntKind.u64.wrap ((IntKind.u64.wrap (t544+t545))+x6_1)) 4294967296)),(wrap64 (x7_1+1)),sD,sD,H',⟨by have:=HK1.out;have:=HJ4.out;omega⟩,⟨Ru HO548.out⟩,⟨bL HB.out⟩⟩
     ·replace c7:=Bool.eq_false_iff.mpr c7
      subst c7;rw [if_neg (show ¬ (false=true) by decide)] at H;refine ifT H ?_;clear H;intro c12 H;have LMc12:=Aside0.mk c12;clear c12;obtain ⟨y549,hy_⟩ : ∃ y_ : List Int,y_=(x5_1++[(x6_1) % 4294967296]):=⟨_,rfl⟩;replace H : ((penumbraref01_Norm.f kj4 y549).bind fun t552=>(some t552))=some r:=yH H;have Ny549:=Aside0.mk hy_;clear hy_;refine biT H ?_;clear H;intro t552 A13 H;(try dsimp only at H);replace A13:=Aside0.mk A13;obtain rfl:=Option.some.inj H
      go_wp2_with (first|((with_reducible refine gate_builtin (b:=.append) (xs:=#[.tmp 39,.tmp 42]) rfl ?_);(try (refine gate_guard (by rfl) ?_;dsimp only));at_builtin;refine Kd.R_append (Kd.int .u32) (w0:=w) w.heap.size rfl (.tmp 39) (.tmp 42) 61 82 (.int .u32 0) 4 rfl Try.underlying61 info82 rfl (by decide) (by omega) u5 x5_1 ((x6_1) % 4294967296) [.int .u32 ((x6_1) % 4294967296)] (fun _=>True) (fun _=>False) rfl rfl ?aP (fun _ hk=>hk.elim) ?aF ?aO ?aB ?aS ?aL ?_;(case aP=>exact rfl);(case aB=>exact (bL HB.out));(case aF=>exact (fun _ _=>trivial));(case aO=>exact (Ru HO_5.out));(case aS=>exact (below_size (bL HB.out)));(case aL=>have:=LMc12.out;omega);intro v550 w14 ho hb hg hat;rw [← Ny549.out] at ho;replace HB:=Aside0.mk hb;have HO551:=Aside0.mk ho;clear HO_5;clear ho hb hg hat;obtain ⟨Ao15,co15,eo15⟩:=Kd.R_slice HO551.out;subst eo15)|((with_reducible refine gate_callee (f:=67) rfl ?_);refine gL (some 45) Try.func67 #[.slice Ao15 y549.length co15] ?_;(with_reducible refine (penumbraref01_Norm.calls kj4 _ _ y549 t552 _ ?s1_ ?s2_ A13.out).mono ?_);(case s1_=>exact Cu (Kd.R_reads' HO551.out).2.2);(case s2_=>exact (Kd.R_reads' HO551.out).2.1);rintro e w16 ⟨v553,rfl,ho0,hb⟩;refine ⟨_,rfl,?_⟩;have HO554:=Aside0.mk (Kd.R_lower (Kd.R_new' ho0 (Kd.R_lt (Ru HO551.out))) (below_size (bL HB.out)));replace HO551:=Aside0.mk (Kd.R_elder' (Ru HO551.out) (Kd.R_base ho0) hb);replace HB:=bH HB hb))
      go_ret
      exact ⟨_,eW,Kd.R_mono (Ru HO554.out) (fun _ hk=>trivial),bL HB.out⟩
theorem penumbraref01_Cmp.calls (k : Nat) (A0 : Option Addr) (c0 : Nat) (l0 : List Int) (A1 : Option Addr) (c1 : Nat) (l1 : List Int) (r : Int) (w : World) (hr0 : Kd.C (Kd.int .u32) w A0 l0.length l0) (hc0 : l0.length≤c0) (hr1 : Kd.C (Kd.int .u32) w A1 l1.length l1) (hc1 : l1.length≤c1) (h : penumbraref01_Cmp.f k l0 l1=some r) :
  Calls Try.prog 54 #[.slice A0 l0.length c0,.slice A1 l1.length c1] w fun e w'=>e=.returned (.int .i64 r)∧Below w.heap.size w w':=by
 have HR0:=Aside0.mk hr0;have HC0:=Aside0.mk hc0;clear hr0 hc0;have HR1:=Aside0.mk hr1;have HC1:=Aside0.mk hc1;clear hr1 hc1;have HB:=Aside0.mk (Below.refl w.heap.size w);have H : (penumbraref01_Cmp.l0 k l0 l1 (wrap64 ((mx (l0.length : Int) (l1.length : Int)) - 1)))=some r:=h;clear h;obtain ⟨ji3,hji3⟩ : ∃ j_ : Int,(mx (l0.length : Int) (l1.length : Int))=j_:=⟨_,rfl⟩
 replace H : (penumbraref01_Cmp.l0 k l0 l1 (wrap64 ((ji3) - 1)))=some r:=by first|(rw [hji3] at H;exact H)|(simp only [hji3] at H ⊢;exact H)
 (try (have hji3l : 0≤ji3:=by (rw [← hji3];unfold mx;(repeat' split) <;> omega)))
 (try (have hji3m : 0≤ji3:=by omega))
 (try (have hji3c : (if l0.length < l1.length then (l1.length : Int) else (l0.length : Int))=ji3:=by (rw [← hji3];unfold mx;simp only [Int.ofNat_lt])))
 have hji3_ : (if (l0.length : Int) < (l1.length : Int) then (l1.length : Int) else (l0.length : Int))=ji3:=hji3;have H':=Aside0.mk H;clear H
 go_enter Try.func54,Try.ntmps54
 go_wp2
 go_loopg [5] k (fun kq v5 w'=>∃ (x5_1 : Int),v5=.int .i64 x5_1∧Aside0 (penumbraref01_Cmp.l0 kq l0 l1 x5_1=some r)∧Aside0 (kq≤k)∧Aside0 (Below w.heap.size w w'))
 case atStart=>exact ⟨(wrap64 ((ji3) - 1)),(by first|rfl|(simp;done)|(simp only [← hji3] <;> (first|rfl|simp))|(simp [*];done)),H',⟨Nat.le_refl _⟩,⟨bL HB.out⟩⟩
 case round =>
  clear H';obtain ⟨x5_1,rfl,HA,HK1,HB⟩:=hrel
  cases gk with
  | zero=>exact absurd HA.out (by simp [penumbraref01_Cmp.l0])
  | succ k1 =>
   have H:=HA.out;clear HA;simp only [penumbraref01_Cmp.l0] at H
   by_cases c4 : x5_1 ≥ 0
   ·rw [if_pos c4] at H
    have c4b0 : decide (0≤x5_1)=true:=decide_eq_true c4;clear c4;refine biT H ?_;clear H;intro t512 A5 H;(try dsimp only at H);replace A5:=Aside0.mk A5;refine biT H ?_;clear H;intro t513 A6 H;(try dsimp only at H);replace A6:=Aside0.mk A6
    by_cases c7 : t512 < t513
    ·rw [if_pos c7] at H
     have c7b0 : decide (t512 < t513)=true:=decide_eq_true c7;clear c7;obtain rfl:=Option.some.inj H
     go_wp2_with (first|((with_reducible refine gate_callee (f:=68) rfl ?_);refine gL (some 20) Try.func68 #[.slice A0 l0.length c0,.int .i64 x5_1] ?_;(with_reducible refine (penumbraref01_limb.calls _ _ l0 x5_1 t512 _ ?s1_ ?s2_ A5.out).mono ?_);(case s1_=>exact Cu (Kd.C_below HR0.out HB.out));(case s2_=>exact HC0.out);rintro e w' ⟨rfl,⟨nd,rfl⟩⟩;refine ⟨_,rfl,?_⟩)|((with_reducible refine gate_callee (f:=68) rfl ?_);refine gL (some 23) Try.func68 #[.slice A1 l1.length c1,.int .i64 x5_1] ?_;(with_reducible refine (penumbraref01_limb.calls _ _ l1 x5_1 t513 _ ?s1_ ?s2_ A6.out).mono ?_);(case s1_=>exact Cu (Kd.C_below HR1.out (bL HB.out)));(case s2_=>exact HC1.out);rintro e w' ⟨rfl,⟨nd,rfl⟩⟩;refine ⟨_,rfl,?_⟩))
     go_ret
     exact ⟨by first|rfl|(simp [errW_none,errW_some] <;> rfl)|(simp only [← hji3];first|rfl|(simp [errW_none,errW_some] <;> rfl))|(simp [*,errW_none,errW_some] <;> rfl),bL HB.out⟩
    ·rw [if_neg c7] at H
     have c7b0 : decide (t512 < t513)=false:=decide_eq_false c7;clear c7
     by_cases c8 : t512 > t513
     ·rw [if_pos c8] at H
      have c8b0 : decide (t513 < t512)=true:=decide_eq_true c8;clear c8;obtain rfl:=Option.some.inj H
      go_wp2_with (first|((with_reducible refine gate_callee (f:=68) rfl ?_);refine gL (some 20) Try.func68 #[.slice A0 l0.length c0,.int .i64 x5_1] ?_;(with_reducible refine (penumbraref01_limb.calls _ _ l0 x5_1 t512 _ ?s1_ ?s2_ A5.out).mono ?_);(case s1_=>exact Cu (Kd.C_below HR0.out HB.out));(case s2_=>exact HC0.out);rintro e w' ⟨rfl,⟨nd,rfl⟩⟩;refine ⟨_,rfl,?_⟩)|((with_reducible refine gate_callee (f:=68) rfl ?_);refine gL (some 23) Try.func68 #[.slice A1 l1.length c1,.int .i64 x5_1] ?_;(with_reducible refine (penumbraref01_limb.calls _ _ l1 x5_1 t513 _ ?s1_ ?s2_ A6.out).mono ?_);(case s1_=>exact Cu (Kd.C_below HR1.out (bL HB.out)));(case s2_=>exact HC1.out);rintro e w' ⟨rfl,⟨nd,rfl⟩⟩;refine ⟨_,rfl,?_⟩))
      go_ret
      exact ⟨by first|rfl|(simp [errW_none,errW_some] <;> rfl)|(simp only [← hji3];first|rfl|(simp [errW_none,errW_some] <;> rfl))|(simp [*,errW_none,errW_some] <;> rfl),bL HB.out⟩
     ·rw [if_neg c8] at H
      have c8b0 : decide (t513 < t512)=false:=decide_eq_false c8;clear c8;have H':=Aside0.mk H;clear H
      go_wp2_with (first|((with_reducible refine gate_callee (f:=68) rfl ?_);refine gL (some 20) Try.func68 #[.slice A0 l0.length c0,.int .i64 x5_1] ?_;(with_reducible refine (penumbraref01_limb.calls _ _ l0 x5_1 t512 _ ?s1_ ?s2_ A5.out).mono ?_);(case s1_=>exact Cu (Kd.C_below HR0.out HB.out));(case s2_=>exact HC0.out);rintro e w' ⟨rfl,⟨nd,rfl⟩⟩;refine ⟨_,rfl,?_⟩)|((with_reducible refine gate_callee (f:=68) rfl ?_);refine gL (some 23) Try.func68 #[.slice A1 l1.length c1,.int .i64 x5_1] ?_;(with_reducible refine (penumbraref01_limb.calls _ _ l1 x5_1 t513 _ ?s1_ ?s2_ A6.out).mono ?_);(case s1_=>exact Cu (Kd.C_below HR1.out (bL HB.out)));(case s2_=>exact HC1.out);rintro e w' ⟨rfl,⟨nd,rfl⟩⟩;refine ⟨_,rfl,?_⟩))
      go_roundg k1
      case measure=>have:=HK1.out;omega
      case rel=>exact ⟨(wrap64 (x5_1 - 1)),sD,H',⟨by have:=HK1.out;omega⟩,⟨bL HB.out⟩⟩
   ·rw [if_neg c4] at H
    have c4b0 : decide (0≤x5_1)=false:=decide_eq_false c4;clear c4;obtain rfl:=Option.some.inj H
    go_wp2
    go_ret
    exact ⟨by first|rfl|(simp [errW_none,errW_some] <;> rfl)|(simp only [← hji3];first|rfl|(simp [errW_none,errW_some] <;> rfl))|(simp [*,errW_none,errW_some] <;> rfl),bL HB.out⟩
theorem penumbraref01_Mul.calls (k : Nat) (A0 : Option Addr) (c0 : Nat) (l0 : List Int) (A1 : Option Addr) (c1 : Nat) (l1 : List Int) (r : List Int) (w : World) (hr0 : Kd.C (Kd.int .u32) w A0 l0.length l0) (hc0 : l0.length≤c0) (hr1 : Kd.C (Kd.int .u32) w A1 l1.length l1) (hc1 : l1.length≤c1) (h : penumbraref01_Mul.f k l0 l1=some r) :
  Calls Try.prog 52 #[.slice A0 l0.length c0,.slice A1 l1.length c1] w fun e w'=>∃ v0_ : Value,e=.returned (v0_)∧Kd.R (Kd.int .u32) 82 w' w.heap.size (fun _=>True) v0_ r∧Below w.heap.size w w':=by
 have HR0:=Aside0.mk hr0;have HC0:=Aside0.mk hc0;clear hr0 hc0;have HR1:=Aside0.mk hr1;have HC1:=Aside0.mk hc1;clear hr1 hc1;have HB:=Aside0.mk (Below.refl w.heap.size w);have H : (if 0≤(wrap64 ((wrap64 ((l0.length : Int)+(l1.length : Int)))+1)) then (if (wrap64 ((wrap64 ((l0.length : Int)+(l1.length : Int)))+1) : Int).toNat≤70368744177664 then (penumbraref01_Mul.l0 k l0 l1 (List.replicate (wrap64 ((wrap64 ((l0.length : Int)+(l1.length : Int)))+1) : Int).toNat 0) 0) else (none)) else (none))=some r:=h;clear h;obtain ⟨ji3,hji3⟩ : ∃ j_ : Int,(wrap64 ((wrap64 ((l0.length : Int)+(l1.length : Int)))+1))=j_:=⟨_,rfl⟩
 first|rw [hji3] at H|simp only [hji3] at H ⊢
 have hji3w:=(i64_w _).trans hji3;refine ifT H ?_;clear H;intro c4 H;have c4b0:=eq_true c4;have c4b1 : decide (0≤(ji3))=true:=decide_eq_true c4;clear c4;refine ifT H ?_;clear H;intro c5 H;have c5b0:=eq_true c5;have c5b1 : decide ((ji3 : Int).toNat≤70368744177664)=true:=decide_eq_true c5;clear c5;obtain ⟨y530,hy_⟩ : ∃ y_ : List Int,y_=(List.replicate (ji3 : Int).toNat 0):=⟨_,rfl⟩;replace H : (penumbraref01_Mul.l0 k l0 l1 y530 0)=some r:=yH H;have Ny530:=Aside0.mk hy_;clear hy_;have H':=Aside0.mk H;clear H
 go_enter Try.func52,Try.ntmps52
 go_wp2_with (first|((with_reducible refine gate_dst (N:=16) rfl ?_);refine Kd.R_make (Kd.int .u32) _ 82 rfl (N:=16) rfl 61 _ _ rfl ji3 rfl rfl Try.underlying61 (.int .u32 0) 4 info82 rfl (by decide) (by omega) 0 (ok:=fun _=>True) (okp:=fun _=>True) rfl (fun _ hk=>hk) trivial (oA) (Nat.le_trans (Nat.mul_le_mul_right _ (oA : ji3.toNat≤70368744177664)) (by omega)) (Below.refl _ _) (Nat.le_refl _) ?_;intro v531 w6 ho7 hb hg_ hnew_;clear hg_ hnew_;(first|rw [← Ny530.out] at ho7|(simp only [Int.reduceToNat] at ho7;rw [← Ny530.out] at ho7));have HO532:=Aside0.mk (Kd.R_lower ho7 (below_size (bL HB.out)));replace HB:=bH HB hb;clear hb ho7))
 go_loopg [6] k (fun kq v6 w'=>∃ (x5_1 : List Int) (x6_1 : Int),v6=.int .i64 x6_1∧Aside0 (penumbraref01_Mul.l0 kq l0 l1 x5_1 x6_1=some r)∧Aside0 (kq≤k)∧Aside0 (Kd.R (Kd.int .u32) 82 w' w.heap.size (fun _=>True) v531 x5_1)∧Aside0 (Below w.heap.size w w'))
 case atStart=>exact ⟨(y530),(0),sD,H',⟨Nat.le_refl _⟩,⟨Ru HO532.out⟩,⟨bL HB.out⟩⟩
 case round =>
  clear H';obtain ⟨x5_1,x6_1,rfl,HA,HK1,HO_5,HB⟩:=hrel
  cases gk with
  | zero=>exact absurd HA.out (by simp [penumbraref01_Mul.l0])
  | succ k1 =>
   have H:=HA.out;clear HA;simp only [penumbraref01_Mul.l0] at H
   by_cases c8 : x6_1 < (l0.length : Int)
   ·rw [if_pos c8] at H
    have c8b0 : decide (x6_1 < (l0.length : Int))=true:=decide_eq_true c8;clear c8;have H':=Aside0.mk H;clear H
    go_wp2
    go_loopg [7,8] k1 (fun kq v7 v8 w'=>∃ (x5_2 : List Int) (x7_2 : Int) (x8_2 : Int),v7=.int .u64 x7_2∧v8=.int .i64 x8_2∧Aside0 (penumbraref01_Mul.l1 kq l0 l1 x5_2 x6_1 x7_2 x8_2=some r)∧Aside0 (kq≤k1)∧Aside0 (Kd.R (Kd.int .u32) 82 w' w.heap.size (fun _=>True) v531 x5_2)∧Aside0 (Below w.heap.size w w'))
    case atStart=>exact ⟨(x5_1),(0),(0),sD,sD,H',⟨Nat.le_refl _⟩,⟨Ru HO_5.out⟩,⟨bL HB.out⟩⟩
    case round =>
     clear H';obtain ⟨x5_2,x7_2,x8_2,rfl,rfl,HA,HK2,HO_5,HB⟩:=hrel
     cases gk with
     | zero=>exact absurd HA.out (by simp [penumbraref01_Mul.l1])
     | succ k2 =>
      have H:=HA.out;clear HA;simp only [penumbraref01_Mul.l1] at H
      by_cases c9 : x8_2 < (l1.length : Int)
      ·rw [if_pos c9] at H
       have c9b0 : decide (x8_2 < (l1.length : Int))=true:=decide_eq_true c9;clear c9;refine ifT H ?_;clear H;intro c10 H;have c10b0 : decide (0≤x6_1)=true:=decide_eq_true c10;clear c10;refine ifT H ?_;clear H;intro c11 H;have c11b0 : decide (x6_1 < (l0.length : Int))=true:=decide_eq_true c11;clear c11;refine ifT H ?_;clear H;intro c12 H;have c12b0 : decide (0≤x8_2)=true:=decide_eq_true c12;clear c12;obtain ⟨ji13,hji13⟩ : ∃ j_ : Int,(wrap64 (x6_1+x8_2))=j_:=⟨_,rfl⟩
       first|rw [hji13] at H|simp only [hji13] at H ⊢
       have hji13w:=(i64_w _).trans hji13;refine ifT H ?_;clear H;intro c14 H;have c14b0 : decide (0≤(ji13))=true:=decide_eq_true c14;clear c14;refine ifT H ?_;clear H;intro c15 H;have c15b0 : decide ((ji13) < (x5_2.length : Int))=true:=decide_eq_true c15;clear c15;obtain ⟨y539,hy_⟩ : ∃ y_ : List Int,y_=(x5_2.set ((ji13) : Int).toNat ((Int.tmod (IntKind.u64.wrap ((IntKind.u64.wrap ((IntKind.u64.wrap ((IntKind.u64.wrap (rd l0 x6_1)) * (IntKind.u64.wrap (rd l1 x8_2))))+(IntKind.u64.wrap (rd x5_2 (ji13)))))+x7_2)) 4294967296) % 4294967296)):=⟨_,rfl⟩;replace H : (penumbraref01_Mul.l1 k2 l0 l1 y539 x6_1 (IntKind.u64.wrap (Int.tdiv (IntKind.u64.wrap ((IntKind.u64.wrap ((IntKind.u64.wrap ((IntKind.u64.wrap (rd l0 x6_1)) * (IntKind.u64.wrap (rd l1 x8_2))))+(IntKind.u64.wrap (rd x5_2 (ji13)))))+x7_2)) 4294967296)) (wrap64 (x8_2+1)))=some r:=yH H;have Ny539:=Aside0.mk hy_;clear hy_;have H':=Aside0.mk H;clear H;have p536 : 0≤(x6_1 : Int):=oA;have q536 : x6_1 < (l0.length : Int):=oA;obtain ⟨ad536,e536,hx536_0⟩:=Kd.at_int HR0.out x6_1 p536 q536;cases e536;replace hx536_0:=(HB.out.cell (World.block_lt_of_cell? w _ hx536_0)).trans hx536_0;replace p536:=eq_true p536;replace q536:=eq_true q536;have p537 : 0≤(x8_2 : Int):=oA;have q537 : x8_2 < (l1.length : Int):=oA;obtain ⟨ad537,e537,hx537_0⟩:=Kd.at_int HR1.out x8_2 p537 q537;cases e537;replace hx537_0:=(HB.out.cell (World.block_lt_of_cell? w _ hx537_0)).trans hx537_0;replace p537:=eq_true p537;replace q537:=eq_true q537;obtain ⟨Ao17,co17,eo17⟩:=Kd.R_slice HO_5.out
       subst eo17;have p538 : 0≤((ji13) : Int):=oA;have q538 : (ji13) < (x5_2.length : Int):=oA;obtain ⟨ad538,e538,hx538_0⟩:=Kd.at_int (Kd.R_reads' HO_5.out).2.2 (ji13) p538 q538;cases e538;replace p538:=eq_true p538;replace q538:=eq_true q538;have p16 : 0≤((ji13) : Int):=oA;have q16 : ((ji13) : Int) < ((x5_2.length : Int) : Int):=oA;obtain ⟨go16,co16,eo16,gb16,gl16,cl16,HG16⟩:=Kd.R_form HO_5.out (by omega)
       (first|cases eo16|(injection eo16 with ea_ en_ ec_;(first|subst ea_|(injection ea_ with ea_;subst ea_));subst ec_;clear en_))
       have GB16:=Aside0.mk gb16;have GG16:=Aside0.mk HG16;clear gb16 gl16 HG16
       (first|simp only [add_plain] at hx538_0|skip)
       obtain ⟨hx16_0,hf16_0⟩:=Kd.R_celln 0 HO_5.out ((ji13) : Int) p16 q16;replace p16:=eq_true p16;replace q16:=eq_true q16;obtain ⟨hy18_,hz18_⟩:=Kd.R_celln 0 HO_5.out ((ji13) : Int) (oA) (oA);have HP18:=Kd.R_putg HO_5.out ((ji13) : Int) ((Int.tmod (IntKind.u64.wrap ((IntKind.u64.wrap ((IntKind.u64.wrap ((IntKind.u64.wrap (rd l0 x6_1)) * (IntKind.u64.wrap (rd l1 x8_2))))+(IntKind.u64.wrap (rd x5_2 (ji13)))))+x7_2)) 4294967296) % 4294967296)
       go_wp2_with (first|((with_reducible refine gate_store (t:=82) (p:=57) rfl ?_);(try (rw [drewN_self wr];generalize hq_ : World.drewN wr _=wr;have n0_:=Aside0.mk (Kd.R_at hq_ HO_5.out);have n1_:=Aside0.mk (below_at hq_ HB.out);clear hq_ HO_5 HB;have HO_5:=n0_;have HB:=n1_;clear n0_ n1_;(try (obtain ⟨hy18_,hz18_⟩:=Kd.R_celln 0 HO_5.out ((ji13) : Int) (oA) (oA)));(try (have HP18:=Kd.R_putg HO_5.out ((ji13) : Int) ((Int.tmod (IntKind.u64.wrap ((IntKind.u64.wrap ((IntKind.u64.wrap ((IntKind.u64.wrap (rd l0 x6_1)) * (IntKind.u64.wrap (rd l1 x8_2))))+(IntKind.u64.wrap (rd x5_2 (ji13)))))+x7_2)) 4294967296) % 4294967296)))));refine store_event (t:=82) (p:=57) (v:=?vo_w19) (w1:=(wr.setCell ⟨go16,((ji13) : Int).toNat,none⟩ (.int .u32 ((Int.tmod (IntKind.u64.wrap ((IntKind.u64.wrap ((IntKind.u64.wrap ((IntKind.u64.wrap (rd l0 x6_1)) * (IntKind.u64.wrap (rd l1 x8_2))))+(IntKind.u64.wrap (rd x5_2 (ji13)))))+x7_2)) 4294967296) % 4294967296)))) ?hg ?ho ?hn ?hr ?_;(case ho=>rfl);(case hg=>rfl);(case hn=>rfl);(case hr=>first|(go_simp;done)|(go_simp;(with_reducible rfl))|(go_simp;rfl)|(go_simp;simp only [hu,Int.emod_sub_emod]));intro w19 hw;have hg : wr.grownBy w19 (some go16):=(by rw [hw];exact HP18.2);have hp_ : Kd.R (Kd.int .u32) 82 w19 w.heap.size (fun _=>True) (.slice (some ⟨go16,0,none⟩) x5_2.length co17) y539:=(by rw [hw,Ny539.out];exact HP18.1);clear HP18;replace HO_5:=Aside0.mk hp_;replace HB:=Aside0.mk ((by rw [hw];exact below_set (HB.out) GB16.out : Below w.heap.size w w19));clear hg hw hp_))
       repeat (go_quiet (first|((with_reducible refine gate_store (t:=82) (p:=57) rfl ?_);(try (rw [drewN_self wr];generalize hq_ : World.drewN wr _=wr;have n0_:=Aside0.mk (Kd.R_at hq_ HO_5.out);have n1_:=Aside0.mk (below_at hq_ HB.out);clear hq_ HO_5 HB;have HO_5:=n0_;have HB:=n1_;clear n0_ n1_;(try (obtain ⟨hy18_,hz18_⟩:=Kd.R_celln 0 HO_5.out ((ji13) : Int) (oA) (oA)));(try (have HP18:=Kd.R_putg HO_5.out ((ji13) : Int) ((Int.tmod (IntKind.u64.wrap ((IntKind.u64.wrap ((IntKind.u64.wrap ((IntKind.u64.wrap (rd l0 x6_1)) * (IntKind.u64.wrap (rd l1 x8_2))))+(IntKind.u64.wrap (rd x5_2 (ji13)))))+x7_2)) 4294967296) % 4294967296)))));refine store_event (t:=82) (p:=57) (v:=?vo_w19) (w1:=(wr.setCell ⟨go16,((ji13) : Int).toNat,none⟩ (.int .u32 ((Int.tmod (IntKind.u64.wrap ((IntKind.u64.wrap ((IntKind.u64.wrap ((IntKind.u64.wrap (rd l0 x6_1)) * (IntKind.u64.wrap (rd l1 x8_2))))+(IntKind.u64.wrap (rd x5_2 (ji13)))))+x7_2)) 4294967296) % 4294967296)))) ?hg ?ho ?hn ?hr ?_;(case ho=>rfl);(case hg=>rfl);(case hn=>rfl);(case hr=>first|(go_simp;done)|(go_simp;(with_reducible rfl))|(go_simp;rfl)|(go_simp;have hu_ : ∀ x : Int,IntKind.u32.wrap x=HMod.hMod x (4294967296 : Int):=(fun x=>by simp only [IntKind.wrap,IntKind.bits,IntKind.signed];simp);simp only [hu_,Int.emod_sub_emod]));intro w19 hw;have hg : wr.grownBy w19 (some go16):=(by rw [hw];exact HP18.2);have hp_ : Kd.R (Kd.int .u32) 82 w19 w.heap.size (fun _=>True) (.slice (some ⟨go16,0,none⟩) x5_2.length co17) y539:=(by rw [hw,Ny539.out];exact HP18.1);clear HP18;replace HO_5:=Aside0.mk hp_;replace HB:=Aside0.mk ((by rw [hw];exact below_set (HB.out) GB16.out : Below w.heap.size w w19));clear hg hw hp_));try go_wp2_with (first|((with_reducible refine gate_store (t:=82) (p:=57) rfl ?_);(try (rw [drewN_self wr];generalize hq_ : World.drewN wr _=wr;have n0_:=Aside0.mk (Kd.R_at hq_ HO_5.out);have n1_:=Aside0.mk (below_at hq_ HB.out);clear hq_ HO_5 HB;have HO_5:=n0_;have HB:=n1_;clear n0_ n1_;(try (obtain ⟨hy18_,hz18_⟩:=Kd.R_celln 0 HO_5.out ((ji13) : Int) (oA) (oA)));(try (have HP18:=Kd.R_putg HO_5.out ((ji13) : Int) ((Int.tmod (IntKind.u64.wrap ((IntKind.u64.wrap ((IntKind.u64.wrap ((IntKind.u64.wrap (rd l0 x6_1)) * (IntKind.u64.wrap (rd l1 x8_2))))+(IntKind.u64.wrap (rd x5_2 (ji13)))))+x7_2)) 4294967296) % 4294967296)))));refine store_event (t:=82) (p:=57) (v:=?vo_w19) (w1:=(wr.setCell ⟨go16,((ji13) : Int).toNat,none⟩ (.int .u32 ((Int.tmod (IntKind.u64.wrap ((IntKind.u64.wrap ((IntKind.u64.wrap ((IntKind.u64.wrap (rd l0 x6_1)) * (IntKind.u64.wrap (rd l1 x8_2))))+(IntKind.u64.wrap (rd x5_2 (ji13)))))+x7_2)) 4294967296) % 4294967296)))) ?hg ?ho ?hn ?hr ?_;(case ho=>rfl);(case hg=>rfl);(case hn=>rfl);(case hr=>first|(go_simp;done)|(go_simp;(with_reducible rfl))|(go_simp;rfl)|(go_simp;have hu_ : ∀ x : Int,IntKind.u32.wrap x=HMod.hMod x (4294967296 : Int):=(fun x=>by simp only [IntKind.wrap,IntKind.bits,IntKind.signed];simp);simp only [hu_,Int.emod_sub_emod]));intro w19 hw;have hg : wr.grownBy w19 (some go16):=(by rw [hw];exact HP18.2);have hp_ : Kd.R (Kd.int .u32) 82 w19 w.heap.size (fun _=>True) (.slice (some ⟨go16,0,none⟩) x5_2.length co17) y539:=(by rw [hw,Ny539.out];exact HP18.1);clear HP18;replace HO_5:=Aside0.mk hp_;replace HB:=Aside0.mk ((by rw [hw];exact below_set (HB.out) GB16.out : Below w.heap.size w w19));clear hg hw hp_)))
       go_roundg k2
       case measure=>have:=HK1.out;have:=HK2.out;omega
       case rel=>exact ⟨(y539),(IntKind.u64.wrap (Int.tdiv (IntKind.u64.wrap ((IntKind.u64.wrap ((IntKind.u64.wrap ((IntKind.u64.wrap (rd l0 x6_1)) * (IntKind.u64.wrap (rd l1 x8_2))))+(IntKind.u64.wrap (rd x5_2 (ji13)))))+x7_2)) 4294967296)),(wrap64 (x8_2+1)),(by first|rfl|(simp;done)|(simp only [← hji13] <;> (first|rfl|simp))|(simp [*];done)),sD,H',⟨by have:=HK1.out;have:=HK2.out;omega⟩,⟨Ru HO_5.out⟩,⟨bL HB.out⟩⟩
      ·rw [if_neg c9] at H
       have c9b0 : decide (x8_2 < (l1.length : Int))=false:=decide_eq_false c9;clear c9;obtain ⟨ji20,hji20⟩ : ∃ j_ : Int,(wrap64 (x6_1+(l1.length : Int)))=j_:=⟨_,rfl⟩
       first|rw [hji20] at H|simp only [hji20] at H ⊢
       have hji20w:=(i64_w _).trans hji20;refine ifT H ?_;clear H;intro c21 H;have c21b0 : decide (0≤(ji20))=true:=decide_eq_true c21;clear c21;refine ifT H ?_;clear H;intro c22 H;have c22b0 : decide ((ji20) < (x5_2.length : Int))=true:=decide_eq_true c22;clear c22;obtain ⟨y540,hy_⟩ : ∃ y_ : List Int,y_=(x5_2.set ((ji20) : Int).toNat ((x7_2) % 4294967296)):=⟨_,rfl⟩;replace H : (penumbraref01_Mul.l0 k2 l0 l1 y540 (wrap64 (x6_1+1)))=some r:=yH H;have Ny540:=Aside0.mk hy_;clear hy_;have H':=Aside0.mk H;clear H;have p23 : 0≤((ji20) : Int):=oA;have q23 : ((ji20) : Int) < ((x5_2.length : Int) : Int):=oA;obtain ⟨go23,co23,eo23,gb23,gl23,cl23,HG23⟩:=Kd.R_form HO_5.out (by omega)
       (first|cases eo23|(injection eo23 with ea_ en_ ec_;(first|subst ea_|(injection ea_ with ea_;subst ea_));subst ec_;clear en_))
       have GB23:=Aside0.mk gb23;have GG23:=Aside0.mk HG23;clear gb23 gl23 HG23;obtain ⟨hx23_0,hf23_0⟩:=Kd.R_celln 0 HO_5.out ((ji20) : Int) p23 q23;replace p23:=eq_true p23;replace q23:=eq_true q23;obtain ⟨hy24_,hz24_⟩:=Kd.R_celln 0 HO_5.out ((ji20) : Int) (oA) (oA);have HP24:=Kd.R_putg HO_5.out ((ji20) : Int) ((x7_2) % 4294967296)
       go_wp2_with (first|((with_reducible refine gate_store (t:=82) (p:=67) rfl ?_);(try (rw [drewN_self wr];generalize hq_ : World.drewN wr _=wr;have n0_:=Aside0.mk (Kd.R_at hq_ HO_5.out);have n1_:=Aside0.mk (below_at hq_ HB.out);clear hq_ HO_5 HB;have HO_5:=n0_;have HB:=n1_;clear n0_ n1_;(try (obtain ⟨hy24_,hz24_⟩:=Kd.R_celln 0 HO_5.out ((ji20) : Int) (oA) (oA)));(try (have HP24:=Kd.R_putg HO_5.out ((ji20) : Int) ((x7_2) % 4294967296)))));refine store_event (t:=82) (p:=67) (v:=?vo_w25) (w1:=(wr.setCell ⟨go23,((ji20) : Int).toNat,none⟩ (.int .u32 ((x7_2) % 4294967296)))) ?hg ?ho ?hn ?hr ?_;(case ho=>rfl);(case hg=>rfl);(case hn=>rfl);(case hr=>first|(go_simp;done)|(go_simp;(with_reducible rfl))|(go_simp;rfl)|(go_simp;simp only [hu,Int.emod_sub_emod]));intro w25 hw;have hg : wr.grownBy w25 (some go23):=(by rw [hw];exact HP24.2);have hp_ : Kd.R (Kd.int .u32) 82 w25 w.heap.size (fun _=>True) (.slice (some ⟨go23,0,none⟩) x5_2.length co23) y540:=(by rw [hw,Ny540.out];exact HP24.1);clear HP24;replace HO_5:=Aside0.mk hp_;replace HB:=Aside0.mk ((by rw [hw];exact below_set (HB.out) GB23.out : Below w.heap.size w w25));clear hg hw hp_))
       go_roundg k2
       case measure=>have:=HK1.out;have:=HK2.out;omega
       case rel=>exact ⟨(y540),(wrap64 (x6_1+1)),sD,H',⟨by have:=HK1.out;have:=HK2.out;omega⟩,⟨Ru HO_5.out⟩,⟨bL HB.out⟩⟩
   ·rw [if_neg c8] at H
    have c8b0 : decide (x6_1 < (l0.length : Int))=false:=decide_eq_false c8;clear c8;refine biT H ?_;clear H;intro t533 A26 H;(try dsimp only at H);replace A26:=Aside0.mk A26;obtain rfl:=Option.some.inj H;obtain ⟨Ao27,co27,eo27⟩:=Kd.R_slice HO_5.out;subst eo27
    go_wp2_with (first|(go_at_call 67;(with_reducible refine (penumbraref01_Norm.calls k1 _ _ x5_1 t533 _ ?s1_ ?s2_ A26.out).mono ?_);(case s1_=>exact Cu (Kd.R_reads' HO_5.out).2.2);(case s2_=>exact (Kd.R_reads' HO_5.out).2.1);rintro e w28 ⟨v534,rfl,ho0,hb⟩;have HO535:=Aside0.mk (Kd.R_lower (Kd.R_new' ho0 (Kd.R_lt (Ru HO_5.out))) (below_size (bL HB.out)));replace HO_5:=Aside0.mk (Kd.R_elder' (Ru HO_5.out) (Kd.R_base ho0) hb);replace HB:=bH HB hb))
    go_ret
    exact ⟨_,by first|rfl|(simp [errW_none,errW_some] <;> rfl)|(simp only [← hji3];first|rfl|(simp [errW_none,errW_some] <;> rfl))|(simp [*,errW_none,errW_some] <;> rfl),Kd.R_mono (Ru HO535.out) (fun _ hk=>trivial),bL HB.out⟩
theorem penumbraref01_Sub.calls (k : Nat) (A0 : Option Addr) (c0 : Nat) (l0 : List Int) (A1 : Option Addr) (c1 : Nat) (l1 : List Int) (r1 : List Int) (r2 : Bool) (w : World) (hr0 : Kd.C (Kd.int .u32) w A0 l0.length l0) (hc0 : l0.length≤c0) (hr1 : Kd.C (Kd.int .u32) w A1 l1.length l1) (hc1 : l1.length≤c1) (h : penumbraref01_Sub.f k l0 l1=some (r1,r2)) :
  Calls Try.prog 55 #[.slice A0 l0.length c0,.slice A1 l1.length c1] w fun e w'=>∃ v0_ : Value,e=.returned (.tuple #[v0_,.bool r2])∧Kd.R (Kd.int .u32) 82 w' w.heap.size (fun _=>True) v0_ r1∧Below w.heap.size w w':=by
 have HR0:=Aside0.mk hr0;have HC0:=Aside0.mk hc0;clear hr0 hc0;have HR1:=Aside0.mk hr1;have HC1:=Aside0.mk hc1;clear hr1 hc1;have HB:=Aside0.mk (Below.refl w.heap.size w);have H : ((penumbraref01_Cmp.f k l0 l1).bind fun t555=>(if t555 < 0 then (some (([] : List Int),false)) else (penumbraref01_Sub.l0 k l0 l1 (([] : List Int)) 0 0)))=some (r1,r2):=h;clear h;refine biT H ?_;clear H;intro t555 A3 H;(try dsimp only at H);replace A3:=Aside0.mk A3
 by_cases c4 : t555 < 0
 ·rw [if_pos c4] at H
  have c4b0 : decide (t555 < 0)=true:=decide_eq_true c4;clear c4;simp only [Option.some.injEq,Prod.mk.injEq] at H;obtain ⟨rfl,rfl⟩:=H
  go_enter Try.func55,Try.ntmps55
  go_wp2_with (first|((with_reducible refine gate_callee (f:=54) rfl ?_);refine gL (some 12) Try.func54 #[.slice A0 l0.length c0,.slice A1 l1.length c1] ?_;(with_reducible refine (penumbraref01_Cmp.calls k _ _ l0 _ _ l1 t555 _ ?s1_ ?s2_ ?s3_ ?s4_ A3.out).mono ?_);(case s1_=>exact Cu HR0.out);(case s2_=>exact HC0.out);(case s3_=>exact Cu HR1.out);(case s4_=>exact HC1.out);rintro e w5 ⟨rfl,hb⟩;refine ⟨_,rfl,?_⟩;replace HB:=bH HB hb))
  go_ret2
  exact ⟨_,eW,by first|exact Kd.R_nil _ _ _ _ _|exact Kd.N_nil _ _ _ _ _|exact Kd.V_nil _ _ _ _ _|exact Kd.Q_nil _ _ _ _ _|exact Kd.S_nil _ _ _ _ _,bL HB.out⟩
 ·rw [if_neg c4] at H
  have c4b0 : decide (t555 < 0)=false:=decide_eq_false c4;clear c4;obtain ⟨y556,hy_⟩ : ∃ y_ : List Int,y_=(([] : List Int)):=⟨_,rfl⟩;replace H : (penumbraref01_Sub.l0 k l0 l1 y556 0 0)=some (r1,r2):=yH H;have Ny556:=Aside0.mk hy_;clear hy_;have H':=Aside0.mk H;clear H
  go_enter Try.func55,Try.ntmps55
  go_wp2_with (first|((with_reducible refine gate_callee (f:=54) rfl ?_);refine gL (some 12) Try.func54 #[.slice A0 l0.length c0,.slice A1 l1.length c1] ?_;(with_reducible refine (penumbraref01_Cmp.calls k _ _ l0 _ _ l1 t555 _ ?s1_ ?s2_ ?s3_ ?s4_ A3.out).mono ?_);(case s1_=>exact Cu HR0.out);(case s2_=>exact HC0.out);(case s3_=>exact Cu HR1.out);(case s4_=>exact HC1.out);rintro e w6 ⟨rfl,hb⟩;refine ⟨_,rfl,?_⟩;replace HB:=bH HB hb)|((with_reducible refine gate_dst (N:=14) rfl ?_);refine Kd.R_lit (Kd.int .u32) _ 82 ?hg (N:=14) ?hd (xs:=([] : List Int)) (inner:=[]) (ok:=fun _=>True) (okp:=fun _=>True) ?hr ?hp (fun _ hk=>hk) trivial (Below.refl _ _) (Nat.le_refl _) (by simp) ?_;(case hd=>rfl);(case hg=>rfl);(case hr=>first|(go_simp;done)|(go_simp;(with_reducible rfl))|(go_simp;rfl)|(go_simp;simp only [hu,Int.emod_sub_emod]));(case hp=>exact (Reps.none _ _));intro v557 w7 ho8 hb hg_ hnew_;clear hg_ hnew_;(first|rw [← Ny556.out] at ho8|(simp only [Int.reduceToNat] at ho8;rw [← Ny556.out] at ho8));have HO558:=Aside0.mk (Kd.R_lower ho8 (below_size (bL HB.out)));replace HB:=bH HB hb;clear hb ho8))
  go_loopg [6,7,8] k (fun kq v6 v7 v8 w'=>∃ (x6_1 : List Int) (x7_1 : Int) (x8_1 : Int),v7=.int .u64 x7_1∧v8=.int .i64 x8_1∧Aside0 (penumbraref01_Sub.l0 kq l0 l1 x6_1 x7_1 x8_1=some (r1,r2))∧Aside0 (kq≤k)∧Aside0 (Kd.R (Kd.int .u32) 82 w' w.heap.size (fun _=>True) v6 x6_1)∧Aside0 (Below w.heap.size w w'))
  case atStart=>exact ⟨(y556),(0),(0),sD,sD,H',⟨Nat.le_refl _⟩,⟨Ru HO558.out⟩,⟨bL HB.out⟩⟩
  case round =>
   clear H';obtain ⟨x6_1,x7_1,x8_1,rfl,rfl,HA,HK1,HO_6,HB⟩:=hrel
   cases gk with
   | zero=>exact absurd HA.out (by simp [penumbraref01_Sub.l0])
   | succ k1 =>
    have H:=HA.out;clear HA;simp only [penumbraref01_Sub.l0] at H
    by_cases c9 : x8_1 < (l0.length : Int)
    ·rw [if_pos c9] at H
     have c9b0 : decide (x8_1 < (l0.length : Int))=true:=decide_eq_true c9;clear c9;refine biT H ?_;clear H;intro t559 A10 H;(try dsimp only at H);replace A10:=Aside0.mk A10;refine biT H ?_;clear H;intro t560 A11 H;(try dsimp only at H);replace A11:=Aside0.mk A11;refine ifT H ?_;clear H;intro c12 H;have LMc12:=Aside0.mk c12;clear c12;obtain ⟨y561,hy_⟩ : ∃ y_ : List Int,y_=(x6_1++[(Int.tmod (IntKind.u64.wrap ((IntKind.u64.wrap ((IntKind.u64.wrap (4294967296+t559)) - t560)) - x7_1)) 4294967296) % 4294967296]):=⟨_,rfl⟩;replace H : (penumbraref01_Sub.l0 k1 l0 l1 y561 (IntKind.u64.wrap (1 - (IntKind.u64.wrap (Int.tdiv (IntKind.u64.wrap ((IntKind.u64.wrap ((IntKind.u64.wrap (4294967296+t559)) - t560)) - x7_1)) 4294967296)))) (wrap64 (x8_1+1)))=some (r1,r2):=yH H;have Ny561:=Aside0.mk hy_;clear hy_;have H':=Aside0.mk H;clear H
     go_wp2_with (first|((with_reducible refine gate_callee (f:=68) rfl ?_);refine gL (some 23) Try.func68 #[.slice A0 l0.length c0,.int .i64 x8_1] ?_;(with_reducible refine (penumbraref01_limb.calls _ _ l0 x8_1 t559 _ ?s1_ ?s2_ A10.out).mono ?_);(case s1_=>exact Cu (Kd.C_below HR0.out HB.out));(case s2_=>exact HC0.out);rintro e w' ⟨rfl,⟨nd,rfl⟩⟩;refine ⟨_,rfl,?_⟩)|((with_reducible refine gate_callee (f:=68) rfl ?_);refine gL (some 27) Try.func68 #[.slice A1 l1.length c1,.int .i64 x8_1] ?_;(with_reducible refine (penumbraref01_limb.calls _ _ l1 x8_1 t560 _ ?s1_ ?s2_ A11.out).mono ?_);(case s1_=>exact Cu (Kd.C_below HR1.out (bL HB.out)));(case s2_=>exact HC1.out);rintro e w' ⟨rfl,⟨nd,rfl⟩⟩;refine ⟨_,rfl,?_⟩)|((with_reducible refine gate_builtin (b:=.append) (xs:=#[.tmp 31,.tmp 35]) rfl ?_);at_builtin;refine Kd.R_append (Kd.int .u32) (w0:=w) w.heap.size rfl (.tmp 31) (.tmp 35) 61 82 (.int .u32 0) 4 rfl Try.underlying61 info82 rfl (by decide) (by omega) u6 x6_1 ((Int.tmod (IntKind.u64.wrap ((IntKind.u64.wrap ((IntKind.u64.wrap (4294967296+t559)) - t560)) - x7_1)) 4294967296) % 4294967296) [.int .u32 ((Int.tmod (IntKind.u64.wrap ((IntKind.u64.wrap ((IntKind.u64.wrap (4294967296+t559)) - t560)) - x7_1)) 4294967296) % 4294967296)] (fun _=>True) (fun _=>False) rfl rfl ?aP (fun _ hk=>hk.elim) ?aF ?aO ?aB ?aS ?aL ?_;(case aP=>exact rfl);(case aB=>exact (bL HB.out));(case aF=>exact (fun _ _=>trivial));(case aO=>exact (Ru HO_6.out));(case aS=>exact (below_size (bL HB.out)));(case aL=>have:=LMc12.out;omega);intro v562 w13 ho hb hg hat;rw [← Ny561.out] at ho;replace HB:=Aside0.mk hb;have HO563:=Aside0.mk ho;clear HO_6;clear ho hb hg hat))
     go_roundg k1
     case measure=>have:=HK1.out;omega
     case rel=>exact ⟨(y561),(IntKind.u64.wrap (1 - (IntKind.u64.wrap (Int.tdiv (IntKind.u64.wrap ((IntKind.u64.wrap ((IntKind.u64.wrap (4294967296+t559)) - t560)) - x7_1)) 4294967296)))),(wrap64 (x8_1+1)),sD,sD,H',⟨by have:=HK1.out;omega⟩,⟨Ru HO563.out⟩,⟨bL HB.out⟩⟩
    ·rw [if_neg c9] at H
     have c9b0 : decide (x8_1 < (l0.length : Int))=false:=decide_eq_false c9;clear c9;refine biT H ?_;clear H;intro t564 A14 H;(try dsimp only at H);replace A14:=Aside0.mk A14;simp only [Option.some.injEq,Prod.mk.injEq] at H;obtain ⟨rfl,rfl⟩:=H;obtain ⟨Ao15,co15,eo15⟩:=Kd.R_slice HO_6.out;subst eo15
     go_wp2_with (first|((with_reducible refine gate_callee (f:=67) rfl ?_);refine gL (some 41) Try.func67 #[.slice Ao15 x6_1.length co15] ?_;(with_reducible refine (penumbraref01_Norm.calls k1 _ _ x6_1 t564 _ ?s1_ ?s2_ A14.out).mono ?_);(case s1_=>exact Cu (Kd.R_reads' HO_6.out).2.2);(case s2_=>exact (Kd.R_reads' HO_6.out).2.1);rintro e w16 ⟨v565,rfl,ho0,hb⟩;refine ⟨_,rfl,?_⟩;have HO566:=Aside0.mk (Kd.R_lower (Kd.R_new' ho0 (Kd.R_lt (Ru HO_6.out))) (below_size (bL HB.out)));replace HO_6:=Aside0.mk (Kd.R_elder' (Ru HO_6.out) (Kd.R_base ho0) hb);replace HB:=bH HB hb))
     go_ret2
     exact ⟨_,eW,Kd.R_mono (Ru HO566.out) (fun _ hk=>trivial),bL HB.out⟩
theorem penumbraref01_Double.calls (k : Nat) (A0 : Option Addr) (c0 : Nat) (l0 : List Int) (a1 : Bool) (r : List Int) (w : World) (hr0 : Kd.C (Kd.int .u32) w A0 l0.length l0) (hc0 : l0.length≤c0) (h : penumbraref01_Double.f k l0 a1=some r) :
  Calls Try.prog 77 #[.slice A0 l0.length c0,.bool a1] w fun e w'=>∃ v0_ : Value,e=.returned (v0_)∧Kd.R (Kd.int .u32) 82 w' w.heap.size (fun _=>True) v0_ r∧Below w.heap.size w w':=by
 have HR0:=Aside0.mk hr0;have HC0:=Aside0.mk hc0;clear hr0 hc0;have HB:=Aside0.mk (Below.refl w.heap.size w);have H : ((some (([] : List Int) : List Int)).bind fun y567=>(if a1=true then (penumbraref01_Double.j0 k l0 y567 1) else (penumbraref01_Double.j0 k l0 y567 0)))=some r:=h;clear h;obtain ⟨y567,hy_⟩ : ∃ y_ : List Int,y_=(([] : List Int)):=⟨_,rfl⟩;replace H : (if a1=true then (penumbraref01_Double.j0 k l0 y567 1) else (penumbraref01_Double.j0 k l0 y567 0))=some r:=yH H;have Ny567:=Aside0.mk hy_;clear hy_;have HC3:=Aside0.mk H;clear H
 go_enter Try.func77,Try.ntmps77
 go_upto_if 10 with (first|((with_reducible refine gate_dst (N:=9) rfl ?_);refine Kd.R_lit (Kd.int .u32) _ 82 ?hg (N:=9) ?hd (xs:=([] : List Int)) (inner:=[]) (ok:=fun _=>True) (okp:=fun _=>True) ?hr ?hp (fun _ hk=>hk) trivial (Below.refl _ _) (Nat.le_refl _) (by simp) ?_;(case hd=>rfl);(case hg=>rfl);(case hr=>first|(go_simp;done)|(go_simp;(with_reducible rfl))|(go_simp;rfl)|(go_simp;simp only [hu,Int.emod_sub_emod]));(case hp=>exact (Reps.none _ _));intro v568 w4 ho5 hb hg_ hnew_;clear hg_ hnew_;(first|rw [← Ny567.out] at ho5|(simp only [Int.reduceToNat] at ho5;rw [← Ny567.out] at ho5));have HO569:=Aside0.mk (Kd.R_lower ho5 (below_size (bL HB.out)));replace HB:=bH HB hb;clear hb ho5))
 (try simp only [Act.put,s0,s1,s2])
 go_cut [6] (fun v6 wc=>∃ (kq : Nat) (x6_2 : Int),v6=.int .u64 x6_2∧Aside0 (penumbraref01_Double.j0 kq l0 y567 x6_2=some r)∧Aside0 (kq≤k)∧Aside0 (Kd.R (Kd.int .u32) 82 wc w.heap.size (fun _=>True) v568 y567)∧Aside0 (Below w.heap.size w wc))
 case first =>
  have H:=HC3.out;clear HC3
  by_cases c6 : a1=true
  ·subst c6
   rw [if_pos rfl] at H;have H':=Aside0.mk H;clear H
   go_wp2
   go_meet
   case rel=>exact ⟨_,(1),sD,H',⟨by first|omega|exact Nat.le_refl _⟩,⟨Ru HO569.out⟩,⟨bL HB.out⟩⟩
  ·replace c6:=Bool.eq_false_iff.mpr c6
   subst c6;rw [if_neg (show ¬ (false=true) by decide)] at H;have H':=Aside0.mk H;clear H
   go_wp2
   go_meet
   case rel=>exact ⟨_,(0),sD,H',⟨by first|omega|exact Nat.le_refl _⟩,⟨Ru HO569.out⟩,⟨bL HB.out⟩⟩
 case rest =>
  clear HC3;obtain ⟨kq,x6_2,rfl,HA,HJ2,HO_5,HB⟩:=hcut
  cases kq with
  | zero=>exact absurd HA.out (by simp [penumbraref01_Double.j0])
  | succ kj2 =>
   have H:=HA.out;clear HA;simp only [penumbraref01_Double.j0] at H;have H':=Aside0.mk H;clear H
   go_wp2
   go_loopg [5,6,7] kj2 (fun kq v5 v6 v7 w'=>∃ (x5_2 : List Int) (x6_2 : Int) (x7_2 : Int),v6=.int .u64 x6_2∧v7=.int .i64 x7_2∧Aside0 (penumbraref01_Double.l0 kq l0 x5_2 x6_2 x7_2=some r)∧Aside0 (kq≤kj2)∧Aside0 (Kd.R (Kd.int .u32) 82 w' w.heap.size (fun _=>True) v5 x5_2)∧Aside0 (Below w.heap.size w w'))
   case atStart=>exact ⟨(y567),(x6_2),(0),sD,sD,H',⟨Nat.le_refl _⟩,⟨Ru HO_5.out⟩,⟨bL HB.out⟩⟩
   case round =>
    clear H';obtain ⟨x5_2,x6_2,x7_2,rfl,rfl,HA,HK2,HO_5,HB⟩:=hrel
    cases gk with
    | zero=>exact absurd HA.out (by simp [penumbraref01_Double.l0])
    | succ k2 =>
     have H:=HA.out;clear HA;simp only [penumbraref01_Double.l0] at H
     by_cases c7 : x7_2 < (l0.length : Int)
     ·rw [if_pos c7] at H
      have c7b0 : decide (x7_2 < (l0.length : Int))=true:=decide_eq_true c7;clear c7;refine ifT H ?_;clear H;intro c8 H;have c8b0 : decide (0≤x7_2)=true:=decide_eq_true c8;clear c8;refine ifT H ?_;clear H;intro c9 H;have LMc9:=Aside0.mk c9;clear c9;obtain ⟨y571,hy_⟩ : ∃ y_ : List Int,y_=(x5_2++[(Int.tmod (IntKind.u64.wrap ((IntKind.u64.wrap (2 * (IntKind.u64.wrap (rd l0 x7_2))))+x6_2)) 4294967296) % 4294967296]):=⟨_,rfl⟩;replace H : (penumbraref01_Double.l0 k2 l0 y571 (IntKind.u64.wrap (Int.tdiv (IntKind.u64.wrap ((IntKind.u64.wrap (2 * (IntKind.u64.wrap (rd l0 x7_2))))+x6_2)) 4294967296)) (wrap64 (x7_2+1)))=some r:=yH H;have Ny571:=Aside0.mk hy_;clear hy_;have H':=Aside0.mk H;clear H;have p570 : 0≤(x7_2 : Int):=oA;have q570 : x7_2 < (l0.length : Int):=oA;obtain ⟨ad570,e570,hx570_0⟩:=Kd.at_int HR0.out x7_2 p570 q570;cases e570;replace hx570_0:=(HB.out.cell (World.block_lt_of_cell? w _ hx570_0)).trans hx570_0;replace p570:=eq_true p570;replace q570:=eq_true q570
      go_wp2_with (first|((with_reducible refine gate_builtin (b:=.append) (xs:=#[.tmp 25,.tmp 29]) rfl ?_);at_builtin;refine Kd.R_append (Kd.int .u32) (w0:=w) w.heap.size rfl (.tmp 25) (.tmp 29) 61 82 (.int .u32 0) 4 rfl Try.underlying61 info82 rfl (by decide) (by omega) u5 x5_2 ((Int.tmod (IntKind.u64.wrap ((IntKind.u64.wrap (2 * (IntKind.u64.wrap (rd l0 x7_2))))+x6_2)) 4294967296) % 4294967296) [.int .u32 ((Int.tmod (IntKind.u64.wrap ((IntKind.u64.wrap (2 * (IntKind.u64.wrap (rd l0 x7_2))))+x6_2)) 4294967296) % 4294967296)] (fun _=>True) (fun _=>False) rfl rfl ?aP (fun _ hk=>hk.elim) ?aF ?aO ?aB ?aS ?aL ?_;(case aP=>exact rfl);(case aB=>exact (bL HB.out));(case aF=>exact (fun _ _=>trivial));(case aO=>exact (Ru HO_5.out));(case aS=>exact (below_size (bL HB.out)));(case aL=>have:=LMc9.out;omega);intro v572 w10 ho hb hg hat;rw [← Ny571.out] at ho;replace HB:=Aside0.mk hb;have HO573:=Aside0.mk ho;clear HO_5;clear ho hb hg hat))
      go_roundg k2
      case measure=>have:=HJ2.out;have:=HK2.out;omega
      case rel=>exact ⟨(y571),(IntKind.u64.wrap (Int.tdiv (IntKind.u64.wrap ((IntKind.u64.wrap (2 * (IntKind.u64.wrap (rd l0 x7_2))))+x6_2)) 4294967296)),(wrap64 (x7_2+1)),sD,sD,H',⟨by have:=HJ2.out;have:=HK2.out;omega⟩,⟨Ru HO573.out⟩,⟨bL HB.out⟩⟩
     ·rw [if_neg c7] at H
      have c7b0 : decide (x7_2 < (l0.length : Int))=false:=decide_eq_false c7;clear c7;refine ifT H ?_;clear H;intro c11 H;have LMc11:=Aside0.mk c11;clear c11;obtain ⟨y574,hy_⟩ : ∃ y_ : List Int,y_=(x5_2++[(x6_2) % 4294967296]):=⟨_,rfl⟩;replace H : ((penumbraref01_Norm.f k2 y574).bind fun t577=>(some t577))=some r:=yH H;have Ny574:=Aside0.mk hy_;clear hy_;refine biT H ?_;clear H;intro t577 A12 H;(try dsimp only at H);replace A12:=Aside0.mk A12;obtain rfl:=Option.some.inj H
      go_wp2_with (first|((with_reducible refine gate_builtin (b:=.append) (xs:=#[.tmp 33,.tmp 36]) rfl ?_);at_builtin;refine Kd.R_append (Kd.int .u32) (w0:=w) w.heap.size rfl (.tmp 33) (.tmp 36) 61 82 (.int .u32 0) 4 rfl Try.underlying61 info82 rfl (by decide) (by omega) u5 x5_2 ((x6_2) % 4294967296) [.int .u32 ((x6_2) % 4294967296)] (fun _=>True) (fun _=>False) rfl rfl ?aP (fun _ hk=>hk.elim) ?aF ?aO ?aB ?aS ?aL ?_;(case aP=>exact rfl);(case aB=>exact (bL HB.out));(case aF=>exact (fun _ _=>trivial));(case aO=>exact (Ru HO_5.out));(case aS=>exact (below_size (bL HB.out)));(case aL=>have:=LMc11.out;omega);intro v575 w13 ho hb hg hat;rw [← Ny574.out] at ho;replace HB:=Aside0.mk hb;have HO576:=Aside0.mk ho;clear HO_5;clear ho hb hg hat;obtain ⟨Ao14,co14,eo14⟩:=Kd.R_slice HO576.out;subst eo14)|((with_reducible refine gate_callee (f:=67) rfl ?_);refine gL (some 39) Try.func67 #[.slice Ao14 y574.length co14] ?_;(with_reducible refine (penumbraref01_Norm.calls k2 _ _ y574 t577 _ ?s1_ ?s2_ A12.out).mono ?_);(case s1_=>exact Cu (Kd.R_reads' HO576.out).2.2);(case s2_=>exact (Kd.R_reads' HO576.out).2.1);rintro e w15 ⟨v578,rfl,ho0,hb⟩;refine ⟨_,rfl,?_⟩;have HO579:=Aside0.mk (Kd.R_lower (Kd.R_new' ho0 (Kd.R_lt (Ru HO576.out))) (below_size (bL HB.out)));replace HO576:=Aside0.mk (Kd.R_elder' (Ru HO576.out) (Kd.R_base ho0) hb);replace HB:=bH HB hb))
      go_ret
      exact ⟨_,eW,Kd.R_mono (Ru HO579.out) (fun _ hk=>trivial),bL HB.out⟩
def penumbraref01_Half.T5 : Bool × List (List Nat × List Nat):=(true,[([],[]),([],[]),([],[]),([2],[2]),([1,3],[1,3]),([4],[4]),([5],[5]),([],[]),([],[]),([7,8],[7,8]),([9],[9]),([10],[10]),([6,11],[6,11]),([12],[12]),([13],[13]),([14],[14]),([0,15,4],[0,15]),([16,16,0,1,2,3,4,5,6,7,8,9,10,11,12,13,14,15,16],[0,16])])
def penumbraref01_Half.B5 : List Nat:=[0,0,0,4,14,30,62,0,0,384,896,1920,4094,8190,16382,32766,65535,131071]
theorem penumbraref01_Half.tab5 : rtab .any (opsOf Try.f79 5)=penumbraref01_Half.T5:=by kernel_rfl
theorem penumbraref01_Half.bits5 : waitsOk penumbraref01_Half.T5.2 penumbraref01_Half.B5=true:=by kernel_rfl
theorem penumbraref01_Half.calls (k : Nat) (A0 : Option Addr) (c0 : Nat) (l0 : List Int) (r : List Int) (w : World) (hr0 : Kd.C (Kd.int .u32) w A0 l0.length l0) (hc0 : l0.length≤c0) (h : penumbraref01_Half.f k l0=some r) :
  Calls Try.prog 79 #[.slice A0 l0.length c0] w fun e w'=>∃ v0_ : Value,e=.returned (v0_)∧Kd.R (Kd.int .u32) 82 w' w.heap.size (fun _=>True) v0_ r∧Below w.heap.size w w':=by
 have HR0:=Aside0.mk hr0;have HC0:=Aside0.mk hc0;clear hr0 hc0;have HB:=Aside0.mk (Below.refl w.heap.size w);have H : (penumbraref01_Half.l0 k l0 (([] : List Int)) 0)=some r:=h;clear h;obtain ⟨y589,hy_⟩ : ∃ y_ : List Int,y_=(([] : List Int)):=⟨_,rfl⟩;replace H : (penumbraref01_Half.l0 k l0 y589 0)=some r:=yH H;have Ny589:=Aside0.mk hy_;clear hy_;have H':=Aside0.mk H;clear H
 go_enter Try.func79,Try.ntmps79
 go_wp2_with (first|((with_reducible refine gate_dst (N:=5) rfl ?_);refine Kd.R_lit (Kd.int .u32) _ 82 ?hg (N:=5) ?hd (xs:=([] : List Int)) (inner:=[]) (ok:=fun _=>True) (okp:=fun _=>True) ?hr ?hp (fun _ hk=>hk) trivial (Below.refl _ _) (Nat.le_refl _) (by simp) ?_;(case hd=>rfl);(case hg=>rfl);(case hr=>first|(go_simp;done)|(go_simp;(with_reducible rfl))|(go_simp;rfl)|(go_simp;simp only [hu,Int.emod_sub_emod]));(case hp=>exact (Reps.none _ _));intro v590 w2 ho3 hb hg_ hnew_;clear hg_ hnew_;(first|rw [← Ny589.out] at ho3|(simp only [Int.reduceToNat] at ho3;rw [← Ny589.out] at ho3));have HO591:=Aside0.mk (Kd.R_lower ho3 (below_size (bL HB.out)));replace HB:=bH HB hb;clear hb ho3))
 go_loopg [3,4] k (fun kq v3 v4 w'=>∃ (x3_1 : List Int) (x4_1 : Int),v4=.int .i64 x4_1∧Aside0 (penumbraref01_Half.l0 kq l0 x3_1 x4_1=some r)∧Aside0 (kq≤k)∧Aside0 (Kd.R (Kd.int .u32) 82 w' w.heap.size (fun _=>True) v3 x3_1)∧Aside0 (Below w.heap.size w w'))
 case atStart=>exact ⟨(y589),(0),sD,H',⟨Nat.le_refl _⟩,⟨Ru HO591.out⟩,⟨bL HB.out⟩⟩
 case round =>
  clear H';obtain ⟨x3_1,x4_1,rfl,HA,HK1,HO_3,HB⟩:=hrel
  cases gk with
  | zero=>exact absurd HA.out (by simp [penumbraref01_Half.l0])
  | succ k1 =>
   have H:=HA.out;clear HA;simp only [penumbraref01_Half.l0] at H
   by_cases c4 : x4_1 < (l0.length : Int)
   ·rw [if_pos c4] at H
    have c4b0 : decide (x4_1 < (l0.length : Int))=true:=decide_eq_true c4;clear c4;refine biT H ?_;clear H;intro t592 A5 H;(try dsimp only at H);replace A5:=Aside0.mk A5;refine ifT H ?_;clear H;intro c6 H;have c6b0 : decide (0≤x4_1)=true:=decide_eq_true c6;clear c6;refine ifT H ?_;clear H;intro c7 H;have LMc7:=Aside0.mk c7;clear c7;obtain ⟨y594,hy_⟩ : ∃ y_ : List Int,y_=(x3_1++[(IntKind.u64.wrap (Int.tdiv (IntKind.u64.wrap ((IntKind.u64.wrap ((Int.tmod t592 2) * 4294967296))+(IntKind.u64.wrap (rd l0 x4_1)))) 2)) % 4294967296]):=⟨_,rfl⟩;replace H : (penumbraref01_Half.l0 k1 l0 y594 (wrap64 (x4_1+1)))=some r:=yH H;have Ny594:=Aside0.mk hy_;clear hy_;have H':=Aside0.mk H;clear H
    try go_wp2
    replace HO_3:=Aside0.mk (Rd HO_3.out);replace HB:=Aside0.mk (b1 HB.out);have p593 : 0≤(x4_1 : Int):=oA;have q593 : x4_1 < (l0.length : Int):=oA;obtain ⟨ad593,e593,hx593_0⟩:=Kd.at_int HR0.out x4_1 p593 q593;have hw593_0:=hx593_0;cases e593;replace hx593_0:=(HB.out.cell (World.block_lt_of_cell? w _ hx593_0)).trans hx593_0;replace p593:=eq_true p593;replace q593:=eq_true q593;refine sT (n:=18) (S:=fun w'=>w'.cell? (ad593.add (x4_1).toNat)=some (.int .u32 (rd l0 x4_1))) (ds:=[]) (by kernel_rfl) rfl (((HB.out.cell (World.block_lt_of_cell? w _ hw593_0)).trans hw593_0)) (fun hHeld=>?_);refine with_tabW penumbraref01_Half.tab5 penumbraref01_Half.bits5 (fun HT_ HW_=>?_);generalize wr.drew=w8 at HO_3 HB hx593_0 hHeld ⊢;refine zp 0 12 ?_;refine zp 1 13 ?_;refine zp 2 14 ?_;refine zp 3 15 ?_;refine zp 7 19 ?_;refine zp 8 20 ?_;refine zp 9 21 ?_;refine zt 10 22 ?_;refine zp 11 23 ?_
    refine oN 4 (some 16) rfl rfl fun K hK=>?_
    refine gS Try.func68 #[.slice (some ad593) l0.length c0,.int .i64 (wrap64 (x4_1+1))] ?_
    with_reducible refine (penumbraref01_limb.calls _ _ l0 (wrap64 (x4_1+1)) t592 _ ?s1_ ?s2_ A5.out).mono ?_
    (case s1_=>exact Cu (Kd.C_below HR0.out HB.out))
    (case s2_=>exact HC0.out)
    rintro e w' ⟨rfl,⟨nd,rfl⟩⟩;refine ⟨_,rfl,?_⟩;refine hK.out _ _ (((HB.out.cell (World.block_lt_of_cell? w _ hw593_0)).trans hw593_0)) (fun hHeld=>?_);clear hK K;refine nZ ?_;refine zp 5 17 ?_;refine zp 6 18 ?_;refine zp 12 24 ?_;refine zp 13 25 ?_;refine zp 14 26 ?_
    refine oN 15 (some 27) rfl rfl fun K hK=>?_
    refine value_ (w1:=?_) (v:=?_) (by rfl) rfl ?_ ?_;rotate_left 2
    ·go_simp
     constructor
     ·rfl
     ·rfl
    refine hK.out _ _ ((World.cell?_alloc_lt _ _ _ (World.block_lt_of_cell? _ _ (((HB.out.cell (World.block_lt_of_cell? w _ hw593_0)).trans hw593_0)))).trans (((HB.out.cell (World.block_lt_of_cell? w _ hw593_0)).trans hw593_0))) (fun hHeld=>?_);clear hK K;refine nZ ?_
    refine oN 16 (some 28) rfl rfl fun K hK=>?_
    refine Kd.R_append_step (Kd.int .u32) (w0:=w) w.heap.size (by rfl) (.tmp 12) (.tmp 27) 61 82 (.int .u32 0) 4 rfl Try.underlying61 info82 rfl (by decide) (by omega) u3 x3_1 ((IntKind.u64.wrap (Int.tdiv (IntKind.u64.wrap ((IntKind.u64.wrap ((Int.tmod t592 2) * 4294967296))+(IntKind.u64.wrap (rd l0 x4_1)))) 2)) % 4294967296) [.int .u32 ((IntKind.u64.wrap (Int.tdiv (IntKind.u64.wrap ((IntKind.u64.wrap ((Int.tmod t592 2) * 4294967296))+(IntKind.u64.wrap (rd l0 x4_1)))) 2)) % 4294967296)] (fun _=>True) (fun _=>False) rfl rfl ?aP (fun _ hk=>hk.elim) ?aF ?aO ?aB ?aS ?aL ?_
    (case aP=>exact rfl)
    (case aB=>exact (bL HB.out))
    (case aF=>exact (fun _ _=>trivial))
    (case aO=>exact (Ru HO_3.out))
    (case aS=>exact (below_size (bL HB.out)))
    (case aL=>have:=LMc7.out;omega)
    intro v595 w9 ho hb hg hat;rw [← Ny594.out] at ho;replace HB:=Aside0.mk hb;have HO596:=Aside0.mk ho;clear HO_3;clear ho hb hg hat;refine hK.out _ _ (((HB.out.cell (World.block_lt_of_cell? w _ hw593_0)).trans hw593_0)) (fun hHeld=>?_);clear hK K;refine nZ ?_;refine zp 17 3 ?_;refine dN ?_
    try go_wp2
    go_roundg k1
    case measure=>have:=HK1.out;omega
    case rel=>exact ⟨(y594),(wrap64 (x4_1+1)),sD,H',⟨by have:=HK1.out;omega⟩,⟨Ru HO596.out⟩,⟨bL HB.out⟩⟩
   ·rw [if_neg c4] at H
    have c4b0 : decide (x4_1 < (l0.length : Int))=false:=decide_eq_false c4;clear c4;refine biT H ?_;clear H;intro t597 A10 H;(try dsimp only at H);replace A10:=Aside0.mk A10;obtain rfl:=Option.some.inj H;obtain ⟨Ao11,co11,eo11⟩:=Kd.R_slice HO_3.out;subst eo11
    go_wp2_with (first|((with_reducible refine gate_callee (f:=67) rfl ?_);refine gL (some 30) Try.func67 #[.slice Ao11 x3_1.length co11] ?_;(with_reducible refine (penumbraref01_Norm.calls k1 _ _ x3_1 t597 _ ?s1_ ?s2_ A10.out).mono ?_);(case s1_=>exact Cu (Kd.R_reads' HO_3.out).2.2);(case s2_=>exact (Kd.R_reads' HO_3.out).2.1);rintro e w12 ⟨v598,rfl,ho0,hb⟩;refine ⟨_,rfl,?_⟩;have HO599:=Aside0.mk (Kd.R_lower (Kd.R_new' ho0 (Kd.R_lt (Ru HO_3.out))) (below_size (bL HB.out)));replace HO_3:=Aside0.mk (Kd.R_elder' (Ru HO_3.out) (Kd.R_base ho0) hb);replace HB:=bH HB hb))
    go_ret
    exact ⟨_,eW,Kd.R_mono (Ru HO599.out) (fun _ hk=>trivial),bL HB.out⟩
theorem penumbraref01_Zero.calls (k : Nat) (A0 : Option Addr) (c0 : Nat) (l0 : List Int) (r : Bool) (w : World) (hr0 : Kd.C (Kd.int .u32) w A0 l0.length l0) (hc0 : l0.length≤c0) (h : penumbraref01_Zero.f k l0=some r) :
  Calls Try.prog 64 #[.slice A0 l0.length c0] w fun e w'=>e=.returned (.bool r)∧Below w.heap.size w w':=by
 have HR0:=Aside0.mk hr0;have HC0:=Aside0.mk hc0;clear hr0 hc0;have HB:=Aside0.mk (Below.refl w.heap.size w);have H : ((penumbraref01_Cmp.f k l0 ([] : List Int)).bind fun t514=>(some (t514 == 0)))=some r:=h;clear h;refine biT H ?_;clear H;intro t514 A2 H;(try dsimp only at H);replace A2:=Aside0.mk A2;obtain rfl:=Option.some.inj H
 go_enter Try.func64,Try.ntmps64
 go_wp2_with (first|((with_reducible refine gate_callee (f:=54) rfl ?_);refine gL (some 4) Try.func54 #[.slice A0 l0.length c0,.slice none 0 0] ?_;(refine (penumbraref01_Cmp.calls k _ _ l0 _ _ ([] : List Int) t514 _ ?s1_ ?s2_ ?s3_ ?s4_ A2.out).mono ?_);(case s1_=>exact Cu HR0.out);(case s2_=>exact HC0.out);(case s3_=>exact Kd.C_nil _ _);(case s4_=>exact Nat.le_refl _);rintro e w3 ⟨rfl,hb⟩;refine ⟨_,rfl,?_⟩;replace HB:=bH HB hb))
 go_ret
 exact ⟨eW,bL HB.out⟩
end Go.Proofs.Ytjiaobcoeegioaa.Pq
end
