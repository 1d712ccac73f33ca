import Derived.Test.YtjiaobcoeegioaaPP6
import Derived.Test.YtjiaobcoeegioaaProg
import Derived.Test.YtjiaobcoeegioaaRows
set_option linter.unusedVariables false
set_option linter.unusedSimpArgs false
section
namespace Go.Proofs.Ytjiaobcoeegioaa.poolPlays
open Go.ChangeShapes Go.WideShapes Go.ChangeAt Go.RowKit
theorem own : ownKnob Try.prog.godebug=none:=by kernel_rfl
theorem laidOut : laidOutB Try.prog=true:=by kernel_rfl
set_option maxRecDepth 100000 in
theorem lifted (os : Os) (started : os.Started) (H : Type) (enc : TypeId × Value→H) (F : Stop.Interp) :
  ReturnsInHanded {} Try.checked os 3 .any ((Rows.OpenSpec.upto Rows.poolPlaysSpec).pre6 enc Try.prog Try.f3 Rows.poolPlaysUptoRow.domain false) (((Rows.OpenSpec.upto Rows.poolPlaysSpec).at F).post enc Try.prog Try.f3 false true false false):=by
 refine returnsInHanded_of_cond (C:=Try.checked) (s:=(Rows.OpenSpec.upto Rows.poolPlaysSpec)) (k:=Rows.uptoSmall) rfl own started (by kernel_rfl) Try.func3
  (OpenSpec.witness (enc:=enc) (C:=Try.checked) (s:=(Rows.OpenSpec.upto Rows.poolPlaysSpec)) (k:=Rows.uptoSmall) rfl false ⟨#[],#[.slice none 0 0,.int .i64 0,.slice none 0 0],[]⟩ 8 (by kernel_rfl) (by kernel_rfl) (by kernel_rfl)
   (x:=([.nil,.lit (.int .i64 0),.nil],[],[])) (by kernel_rfl) rfl (by kernel_rfl)) ?_
 intro W base args ds gs before hval0 hW hcnd hk0 _;have hval : ∀ (j : Nat) t v,Try.f3.params[j]? = some t→args[j]? = some v→Value.okWide Try.prog W .any base t v:=hval0;have hW':=hW;obtain ⟨p,q,hA0,hV,rfl,hfz,hnd⟩:=hW;have hA : DataW.TrodAll enc Try.prog W 0 (fun _=>true) true Try.f3.params.toList args.toList ds p:=hA0;rw [Try.params3] at hA hval;obtain ⟨v0,vs0,d0,ds0,p0,q0,hargs,rfl,rfl,h0,r0⟩:=trodAll_cons hA;obtain ⟨v1,vs1,d1,ds1,p1,q1,rfl,rfl,rfl,h1,r1⟩:=trodAll_cons r0;obtain ⟨v2,vs2,d2,ds2,p2,q2,rfl,rfl,rfl,h2,r2⟩:=trodAll_cons r1;obtain ⟨rfl,rfl,rfl⟩:=trodAll_nil r2
 obtain rfl : args=#[v0,v1,v2]:=by cases args;simp_all
 obtain ⟨rfl,rfl⟩:=trodVars_none hV;obtain ⟨a0,len0,cap0,rfl⟩:=okWide_slice Try.underlying22 (hval 0 22 v0 rfl rfl);have k0:=h0
 have lt0 : ∀ x∈p0,x.block < W.heap.size:=by obtain ⟨m,hm⟩:=k0;exact DataW.trod_lt m _ _ _ hm
 obtain ⟨Fs,rfl,l0,g0,H0,HL⟩:=Pq.open22M (Nat.le_trans (U.part_le (by simp)) (U.bound hk0)) h0;obtain ⟨a1,rfl,rfl,rfl,w1⟩:=open_int Try.underlying3 (hval 1 3 v1 rfl rfl) h1;have k1:=Pq.i64_wf w1;obtain ⟨a2,len2,cap2,rfl⟩:=okWide_slice Try.underlying23 (hval 2 23 v2 rfl rfl);have k2:=h2
 have lt2 : ∀ x∈p2,x.block < W.heap.size:=by obtain ⟨m,hm⟩:=k2;exact DataW.trod_lt m _ _ _ hm
 obtain ⟨xs,rfl,l2,g2⟩:=Pq.open23 h2;clear hA0 hval0
 refine (Pq.plays_walk H0 HL a1 k1 a0 cap0 W g0 xs a2 cap2 g2).mono fun e W' ⟨he,bel⟩=>?_
 subst he;exact ⟨_,rfl,_,_,_,[],_,[],hW',trodAll_mk1 (shut_bool Try.underlying4 _),(trodAll_cons_mk (Below.trod laidOut (by kernel_rfl) (of_decide_eq_true (by kernel_rfl)) k0 bel lt0) (trodAll_cons_mk (shut_int Try.underlying3 w1) (trodAll_cons_mk (Below.trod laidOut (by kernel_rfl) (of_decide_eq_true (by kernel_rfl)) k2 bel lt2) trodAll_mk0))),rfl,bel.frame _,fun h=>by cases h⟩
theorem over : Rows.poolPlaysUptoRow.holds Try.pinned (Rows.OpenSpec.upto Rows.poolPlaysSpec) :=
 OpenClaim.holds_of_cond 3 Try.f3 rfl rfl rfl rfl rfl rfl rfl ⟨rfl,rfl,rfl,rfl,rfl⟩ rfl rfl rfl rfl rfl (by kernel_rfl) Try.func3 (by kernel_rfl)
  (of_decide_eq_true (by kernel_rfl)) (by unfold Func.isWrapper;first|(rw [if_pos (by decide +kernel)];kernel_rfl)|(rw [if_neg (by decide +kernel)];exact ⟨rfl,rfl⟩))
  (fun os started H enc _ F=>lifted os started H enc F)
theorem proved : Rows.PoolPlaysUptoSaid:=over
#print axioms proved
end Go.Proofs.Ytjiaobcoeegioaa.poolPlays
namespace Go.Proofs.Ytjiaobcoeegioaa
theorem poolPlays_holds : Rows.PoolPlaysUptoSaid:=poolPlays.proved
end Go.Proofs.Ytjiaobcoeegioaa
end
