import Derived.Test.YtjiaobcoeegioaaPBas6
import Derived.Test.YtjiaobcoeegioaaProg
import Derived.Test.YtjiaobcoeegioaaRows
set_option linter.unusedVariables false
set_option linter.unusedSimpArgs false
section
namespace Go.Proofs.Ytjiaobcoeegioaa.Pq
open Go.RowKit Go.Proofs.YtjiaobcoeegioaaW.PrintWords Go.Proofs.YtjiaobcoeegioaaW.PrintLast Go.Proofs.YtjiaobcoeegioaaW.PrintMore Go.Proofs.Ytjiaobcoeegioaa.N
set_option linter.unusedVariables false
set_option linter.unusedSimpArgs false
set_option maxRecDepth 100000
theorem okWide_arr {P : Program} {w : World} {r : Reach} {b0 : Nat} {t e : TypeId} {n : Nat} {v : Value} (ht : P.underlying t=some (.array n e)) (h : Value.okWide P w r b0 t v) : ∃ cs,v=.agg cs∧cs.size=P.cellsOf t:=by
 simp only [Value.okWide,ht] at h
 obtain ⟨cs,h1,h2,_⟩:=h
 exact ⟨cs,h1,h2⟩
section
variable {H : Type} {enc : TypeId × Value→H} {W : World} {base : Nat} {spare : Nat→Bool} {held : Bool} {v : Value} {d : DataW H} {ps : List MemPlace} {r : Reach} {b0 : Nat}
theorem pair_open {t e : TypeId} (ht : Try.prog.underlying t=some (.array 2 e)) (ce : Try.prog.cellsOf e=1) (ct : Try.prog.cellsOf t=2) (hv : Value.okWide Try.prog W r b0 t v) (hd : DataW.Trod enc Try.prog W base spare held t v d ps) :
  ∃ (x y : Value) (n : Nat) (z1 z2 : DataW H × List MemPlace),v=.agg #[x,y]∧DataW.trod enc Try.prog W base spare held n e [x]=some z1∧DataW.trod enc Try.prog W base spare held n e [y]=some z2:=by
 obtain ⟨cs,rfl,hs⟩:=okWide_arr ht hv
 rw [ct] at hs
 obtain ⟨fuel,hf⟩:=hd
 obtain ⟨xs,m,_,hx,hl,hn,he⟩:=DataW.trod_array ht hf
 have e0:=he 0 (by decide)
 have e1:=he 1 (by decide)
 obtain ⟨l⟩:=cs
 match l,hs with
|[x,y],_ =>
  rw [ce] at e0 e1
  match xs,hn with
 |[z1,z2],_=>exact ⟨x,y,m,z1,z2,rfl,by simpa [Value.cells] using e0,by simpa [Value.cells] using e1⟩
theorem open37 (hv : Value.okWide Try.prog W r b0 37 v) (hd : DataW.Trod enc Try.prog W base spare held 37 v d ps) : ∃ k l : Int,v=.agg #[.int .i64 k,.int .i64 l]∧(-9223372036854775808≤k∧k≤9223372036854775807)∧(-9223372036854775808≤l∧l≤9223372036854775807):=by
 obtain ⟨x,y,n,z1,z2,rfl,h1,h2⟩:=pair_open (e:=3) Try.underlying37 (by kernel_rfl) (by kernel_rfl) hv hd
 obtain ⟨k,e1,_,w1⟩:=DataW.trod_int Try.underlying3 h1
 obtain ⟨l,e2,_,w2⟩:=DataW.trod_int Try.underlying3 h2
 obtain rfl : x=.int .i64 k:=by simpa using e1
 obtain rfl : y=.int .i64 l:=by simpa using e2
 exact ⟨k,l,rfl,i64_wf w1,i64_wf w2⟩
theorem open38 (hv : Value.okWide Try.prog W r b0 38 v) (hd : DataW.Trod enc Try.prog W base spare held 38 v d ps) : ∃ A cp B dp,∃ p1 p2 : List Int,v=.agg #[.slice A p1.length cp,.slice B p2.length dp]∧(Kd.int .i64).C W A p1.length p1∧(Kd.int .i64).C W B p2.length p2:=by
 obtain ⟨x,y,n,z1,z2,rfl,h1,h2⟩:=pair_open (e:=23) Try.underlying38 (by kernel_rfl) (by kernel_rfl) hv hd
 obtain ⟨p1,⟨A,cp,e1,_,g1⟩,_,_⟩:=op_slice (d:=Kd.int .i64) (t:=23) (e:=3) Try.underlying23 (by kernel_rfl) (op_int Try.underlying3) _ _ _ h1
 obtain ⟨p2,⟨B,dp,e2,_,g2⟩,_,_⟩:=op_slice (d:=Kd.int .i64) (t:=23) (e:=3) Try.underlying23 (by kernel_rfl) (op_int Try.underlying3) _ _ _ h2
 obtain rfl : x=.slice A p1.length cp:=by simpa using e1
 obtain rfl : y=.slice B p2.length dp:=by simpa using e2
 exact ⟨A,cp,B,dp,p1,p2,rfl,g1,g2⟩
end
end Go.Proofs.Ytjiaobcoeegioaa.Pq
end
section
namespace Go.Proofs.Ytjiaobcoeegioaa.poolAny
open Go.ChangeShapes Go.WideShapes Go.ChangeAt Go.RowKit
set_option linter.unusedVariables false
theorem own : ownKnob Try.prog.godebug=none:=by kernel_rfl
theorem laidOut : laidOutB Try.prog=true:=by kernel_rfl
set_option maxRecDepth 100000 in
theorem lifted (os : Os) (started : os.Started) (H : Type) (enc : TypeId × Value→H) (F : Stop.Interp) :
  ReturnsInHanded {} Try.checked os 6 .any ((Rows.OpenSpec.upto Rows.poolAnySpec).pre6 enc Try.prog Try.f6 Rows.poolAnyUptoRow.domain false) (((Rows.OpenSpec.upto Rows.poolAnySpec).at F).post enc Try.prog Try.f6 false true false false):=by
 refine returnsInHanded_of_cond (C:=Try.checked) (s:=(Rows.OpenSpec.upto Rows.poolAnySpec)) (k:=Rows.uptoSmall) rfl own started (by kernel_rfl) Try.func6
  (OpenSpec.witness (enc:=enc) (C:=Try.checked) (s:=(Rows.OpenSpec.upto Rows.poolAnySpec)) (k:=Rows.uptoSmall) rfl false ⟨#[],#[.slice none 0 0,.agg #[.int .i64 0,.int .i64 0],.agg #[.slice none 0 0,.slice none 0 0]],[]⟩ 8 (by kernel_rfl) (by kernel_rfl) (by kernel_rfl)
   (x:=([.nil,.agg [.lit (.int .i64 0),.lit (.int .i64 0)],.agg [.nil,.nil]],[],[])) (by kernel_rfl) rfl (by kernel_rfl)) ?_
 intro W base args ds gs before hval0 hW hcnd hk0 _
 have hval : ∀ (j : Nat) t v,Try.f6.params[j]? = some t→args[j]? = some v→Value.okWide Try.prog W .any base t v:=hval0
 have hW':=hW
 obtain ⟨p,q,hA0,hV,rfl,hfz,hnd⟩:=hW
 have hA : DataW.TrodAll enc Try.prog W 0 (fun _=>true) true Try.f6.params.toList args.toList ds p:=hA0
 rw [Try.params6] at hA hval
 obtain ⟨v0,vs0,d0,ds0,p0,q0,hargs,rfl,rfl,h0,r0⟩:=trodAll_cons hA
 obtain ⟨v1,vs1,d1,ds1,p1,q1,rfl,rfl,rfl,h1,r1⟩:=trodAll_cons r0
 obtain ⟨v2,vs2,d2,ds2,p2,q2,rfl,rfl,rfl,h2,r2⟩:=trodAll_cons r1
 obtain ⟨rfl,rfl,rfl⟩:=trodAll_nil r2
 obtain rfl : args=#[v0,v1,v2]:=by cases args;simp_all
 obtain ⟨rfl,rfl⟩:=trodVars_none hV
 obtain ⟨a0,len0,cap0,rfl⟩:=okWide_slice Try.underlying22 (hval 0 22 v0 rfl rfl)
 have k0:=h0
 have lt0 : ∀ x∈p0,x.block < W.heap.size:=by obtain ⟨m,hm⟩:=k0;exact DataW.trod_lt m _ _ _ hm
 obtain ⟨Fs,rfl,l0,g0,H0⟩:=Pq.open22 (Nat.le_trans (U.part_le (by simp)) (U.bound hk0)) h0
 have k1:=h1
 have lt1 : ∀ x∈p1,x.block < W.heap.size:=by obtain ⟨m,hm⟩:=k1;exact DataW.trod_lt m _ _ _ hm
 obtain ⟨a1,b1,rfl,w1,w2⟩:=Pq.open37 (hval 1 37 v1 rfl rfl) h1
 have k2:=h2
 have lt2 : ∀ x∈p2,x.block < W.heap.size:=by obtain ⟨m,hm⟩:=k2;exact DataW.trod_lt m _ _ _ hm
 obtain ⟨a2,c2,b2,e2,xs,ys,rfl,g2,g3⟩:=Pq.open38 (hval 2 38 v2 rfl rfl) h2
 clear hA0 hval0
 refine (Pq.any_walk H0 a1 b1 w1 w2 a0 cap0 W g0 xs ys a2 c2 b2 e2 g2 g3).mono fun e W' ⟨he,bel⟩=>?_
 subst he
 exact ⟨_,rfl,_,_,_,[],_,[],hW',trodAll_mk1 (shut_bool Try.underlying4 _),(trodAll_cons_mk (Below.trod laidOut (by kernel_rfl) (of_decide_eq_true (by kernel_rfl)) k0 bel lt0) (trodAll_cons_mk (Below.trod laidOut (by kernel_rfl) (of_decide_eq_true (by kernel_rfl)) k1 bel lt1) (trodAll_cons_mk (Below.trod laidOut (by kernel_rfl) (of_decide_eq_true (by kernel_rfl)) k2 bel lt2) trodAll_mk0))),rfl,bel.frame _,fun h=>by cases h⟩
theorem over : Rows.poolAnyUptoRow.holds Try.pinned (Rows.OpenSpec.upto Rows.poolAnySpec) :=
 OpenClaim.holds_of_cond 6 Try.f6 rfl rfl rfl rfl rfl rfl rfl ⟨rfl,rfl,rfl,rfl,rfl⟩ rfl rfl rfl rfl rfl (by kernel_rfl) Try.func6 (by kernel_rfl)
  (of_decide_eq_true (by kernel_rfl)) (by unfold Func.isWrapper;first|(rw [if_pos (by decide +kernel)];kernel_rfl)|(rw [if_neg (by decide +kernel)];exact ⟨rfl,rfl⟩))
  (fun os started H enc _ F=>lifted os started H enc F)
theorem proved : Rows.PoolAnyUptoSaid:=over
#print axioms proved
end Go.Proofs.Ytjiaobcoeegioaa.poolAny
namespace Go.Proofs.Ytjiaobcoeegioaa
theorem poolAny_holds : Rows.PoolAnyUptoSaid:=poolAny.proved
end Go.Proofs.Ytjiaobcoeegioaa
end
