/- ref01: Div's contract; Gcd. -/
import Derived.Test.YtgfjdngnneoeoaaGreatB27
set_option linter.unusedVariables false
namespace Go.Am.B
open Go Go.Am.N AV Proofs.Tryz IntKind
theorem PS {c:Ctx} (h0:∀nx k x,c.k0 k=some x->k<nx) {A B V s lq R0:Nat} (hs:s<32) (hB0:B≠0) (hV:V=B*2^s) (hR0:R0=A*2^s) (hn:2<=nl V) (hnV:nl V<2^39) (hlq:lq<2^39) (hv1:0<aB V (nl V-1)) (hnR:nl R0<2^40) (hlt:R0<V*2^(32*lq))
  {s':aL} (hv:bC fh s'=some (iV V s R0 lq ((lq:Int)-1) 7,dn 7 lq fun _=>0)):
  ay P c f148.ntmps (part (aF f148) oM) s' (ej (fun s'=>aJ P c f148.ntmps (behind (aF f148) oM) s' (eG c (Fin T f148 (mX A B)))) (eG c (Fin T f148 (mX A B)))):=by
 have hV0:0<V:=Nat.pos_of_ne_zero (gA.1 aa)
 refine ay.ij (i:=0) (y:=o8) ah fh 8 (h0 _) (fun p:Nat×Nat×(Nat->Nat)=>iV V s p.2.1 lq ((p.1:Int)-1) 7) (fun p=>dn 7 lq p.2.2) (fun _=>rfl) (fun _=>gX aa)
  (fun p=>p.1<=lq/\(∀i,i<lq->p.2.2 i<2^32)/\(∀i,i<p.1->p.2.2 i=0)/\val lq p.2.2*V+p.2.1=R0/\p.2.1<V*2^(32*p.1)) (fun p=>p.1) (lq,R0,fun _=>0) hv
  ⟨by simp,fun _ _=>by simp,fun _ _=>rfl,?_,hlt⟩ ?_
 ·simp only;rw[val_zero fun _ _=>rfl];simp
 rintro⟨m,R,q⟩ ⟨hm',hq,hq0,hval,hR⟩
 simp only at hm' hq hq0 hval hR
 refine ay.hole [0] ah (show ay P c f148.ntmps (part o8 [0]) _ _ from ay.bE hT mD hm 60 fh acA ah ?_)
 simp only[ag.all,bz,bF]
 refine⟨fun hb s' hv=>cF ?_,fun hb s' hv=>pY (fG ?_)⟩
 ·obtain⟨j,rfl⟩:∃j,m=j+1:=⟨m-1,aa⟩
  have hv:bC fh s'=some (iV V s R lq (j:Nat) 7,dn 7 lq q):=dS hv (by simp only[iV,List.cons.injEq,AV.int.injEq,and_true,true_and];omega) rfl
  show aJ P c f148.ntmps [part o8 [1]] s' _
  refine ay.hole [0] ah ?_
  show ay P c f148.ntmps (part o8 [1,0]) s' _
  refine ay.oF (i:=1) (y:=mN) ah ?_
  refine Qa h0 hn hnV aa aa aa hR hv1 hv fun s' hqt hv=>?_
  show aJ P c f148.ntmps [part o8 [1,1]] s' _
  refine aJ.fu hT mD hm 60 hv (h0 8) rfl (gX aa) fh Qh ah ah fun s' hv=>cF ?_
  refine⟨(j,R%(V*2^(32*j)),cA q j (R/(V*2^(32*j)))),dS hv ?_ rfl,⟨by simp only;omega,iG hqt hq,fun i hi=>(fR (by simp only at hi;omega)).trans (hq0 i (by simp only at hi;omega)),?_,Nat.mod_lt _ (Nat.mul_pos hV0 (Nat.two_pow_pos _))⟩,by simp only;omega⟩
  ·rw[wrap_i64 aa aa]
  ·simp only
   rw[p8 aa (hq0 j aa),Nat.add_mul]
   have h1:=Nat.div_add_mod R (V*2^(32*j))
   generalize R/(V*2^(32*j))=qt at*
   generalize R%(V*2^(32*j))=r at*
   rw[show qt*2^(32*j)*V=V*2^(32*j)*qt by rw[Nat.mul_comm (V*_),Nat.mul_assoc,Nat.mul_comm (2^_)]]
   omega
 ·have hm0:m=0:=aa
  have hRV:R<V:=by rw[hm0]at hR;simpa using hR
  show aJ P c f148.ntmps (behind (aF f148) oM) s' _
  refine aJ.jN hT mD hm 60 hv (h0 _) rfl (gX aa) TF ah ah ?_
  have hS:0<2^s:=Nat.two_pow_pos _
  have hnR2:nl R<=nl R0:=ic aa
  obtain⟨e1,e2⟩:=Ff hval hRV
  simp only[ag.all,au,bw,Nat.add_zero,jE]
  refine⟨⟨gG hq,aa,aa,aa,aa⟩,dM (congrArg AV.mag ?_),dM (congrArg AV.mag ?_),bU (by rw[if_neg hB0]),trivial⟩
  ·rw[<-e1,hR0,hV,Nat.mul_div_mul_right _ _ hS]
  ·rw[if_neg hB0,<-e2,hR0,hV,Nat.mul_mod_mul_right,Nat.mul_div_cancel _ hS]
theorem SH {A B:Nat} (hA:nl A<2^38) (hB:nl B<2^38) (K:Nat):aO P 148 K [.mag A,.mag B] [] (aI (mX A B) []):=by
 refine ji hT QX rfl aV rfl (fun _ c h0=>?_) K []
 have hk0:=yx h0
 refine ay.hole oM ah (aJ.chunk 5 (aJ.bE hT mD hm 60 [0,1,4,5,6] WB ah ?_))
 simp only[ag.all,au,beq_iff_eq,beq_eq_false_iff_ne,ne_eq,bz,bF,xQ]
 have hnl0:nl B=0↔B=0:=jX
 refine⟨fun hb s' hv=>fA (fA (.inl ?_)),fun hb=>⟨⟨aa,aa⟩,fun hlt=>⟨aa,fun s' hv=>fA (fA (.inl ?_))⟩,fun hge=>⟨fun hf=>?_,fun hf=>⟨fun h1=>?_,fun h1 s' hv=>cF ?_⟩⟩⟩⟩
 ·have hB0:B=0:=hnl0.1 aa
  exact gL (us:=[.nil,.nil,.int .i64 3]) (.inr rfl) hv ah ⟨by rw[hB0];simpa using kP,by rw[if_pos hB0];exact kP,bU (by simp[hB0]),trivial⟩
 ·have hB0:B≠0:=fun h=>hb (by rw[hnl0.2 h];rfl)
  refine gL (us:=[.nil,.mag A,.int .i64 0]) (.inr rfl) hv ah ⟨?_,dM ?_,bU (by simp[hB0]),trivial⟩
  ·rw[Nat.div_eq_of_lt hlt];exact kP
  ·rw[if_neg hB0,Nat.mod_eq_of_lt hlt]
 ·have hB0:B≠0:=fun h=>hb (by rw[hnl0.2 h];rfl)
  have hA64:A<2^64:=by unfold gl at hf;simpa using hf
  have Nt:gl B=true:=by unfold gl;simp;omega
  rw[if_pos hf,if_pos Nt]
  have hdl:=Nat.div_le_self A B
  have hml:A%B<=A:=Nat.mod_le _ _
  have e1:u64.wrap ((A:Int).tdiv (B:Int))=((A/B:Nat):Int):=by rw[<-Int.ofNat_tdiv,wB,Nat.mod_eq_of_lt aa]
  have e2:(A:Int).tmod (B:Int)=((A%B:Nat):Int):=(Int.ofNat_tmod _ _).symm
  rw[e1,e2]
  have cn:∀{x:Nat},x<2^64->(0:Int)<=(x:Int)/\(x:Int)<2^64:=fun {x} h=>aa
  refine⟨⟨aa,cn (Nat.lt_of_le_of_lt hdl hA64),aa,cn (Nat.lt_of_le_of_lt hml hA64)⟩,fun s' hv=>fA (fA (.inl ?_))⟩
  refine gL (us:=[.mag (A/B),.mag (A%B),.int .i64 0]) (.inr rfl) hv ah ⟨.refl _,dM (by rw[if_neg hB0]),bU (by simp[hB0]),trivial⟩
 ·have hB0:B≠0:=fun h=>hb (by rw[hnl0.2 h];rfl)
  have hl0:aB B 0=B:=by
   have:=gp (N:=B)
   rw[show nl B=1 by omega,val,val]at this
   simpa using this
  have hBlt:B<2^32:=by rw[<-hl0];exact dO
  have hmod:A%B<2^32:=Nat.lt_trans (Nat.mod_lt _ aa) hBlt
  simp only[Int.toNat_zero,hl0,bw]
  have e1:u64.wrap ((A%B:Nat):Int)=((A%B:Nat):Int):=by rw[wB,Nat.mod_eq_of_lt aa]
  rw[e1]
  have cn:∀{x:Nat},x<2^32->(0:Int)<=(x:Int)/\(x:Int)<2^64:=fun {x} h=>aa
  refine⟨⟨aa,aa,aa,aa⟩,cn hmod,fun s' hv=>fA (fA (.inl ?_))⟩
  refine gL (us:=[.mag (A/B),.mag (A%B),.int .i64 0]) (.inr rfl) hv ah ⟨.refl _,dM (by rw[if_neg hB0]),bU (by simp[hB0]),trivial⟩
 have hB0:B≠0:=fun h=>hb (by rw[hnl0.2 h];rfl)
 have hn2:2<=nl B:=by have:=gA.2 hB0;omega
 have hv:=jn (ls:=[0,1]) (l:=[4,5,6]) (vs:=[.mag A,.mag B]) hv rfl rfl
 refine aJ.chunk 1 (aJ.fu hT mD hm 60 hv (h0 0) rfl trivial [0,1,13] XZ ah ah ?_)
 have w1:i64.wrap ((nl B:Int)-1)=((nl B-1:Nat):Int):=eM aa aa
 rw[w1]
 simp only[ag.all,au,bw]
 have e1:nl B-(nl B-1)=1:=aa
 rw[e1]
 have hlB:=dO (N:=B) (i:=nl B-1)
 have htopB:=CN hB0
 have e2:(val 1 fun i=>numOf (AV.int .u32 (aB B (i+(nl B-1)):Nat)))=aB B (nl B-1):=by
  rw[val,val];simp[numOf]
 rw[e2]
 have hb32:bO (aB B (nl B-1))<=32:=j5.2 hlB
 have w2:i64.wrap (32-((bO (aB B (nl B-1)):Nat):Int))=((32-bO (aB B (nl B-1)):Nat):Int):=eM aa aa
 rw[w2]
 have hnl1:nl (aB B (nl B-1))=1:=by
  have:=gA.2 htopB
  have:nl (aB B (nl B-1))<=1:=dy.2 aa
  omega
 refine⟨⟨aa,fun i hi=>⟨_,dO,rfl⟩,aa,hnl1⟩,fun s' hv=>cF ?_⟩
 obtain⟨s,hs⟩:∃s,s=32-bO (aB B (nl B-1)):=⟨_,rfl⟩
 rw[<-hs]at hv
 obtain⟨hs32,hnV,hnorm,hVlt⟩:=Jn hB0 hs
 rw[List.drop_drop]
 refine aJ.fu hT mD hm 60 hv (h0 0) rfl trivial fh acu ah ah ?_
 simp only[ag.all,au,bw]
 obtain⟨V,hV⟩:∃V,V=B*2^s:=⟨_,rfl⟩
 obtain⟨R0,hR0⟩:∃R0,R0=A*2^s:=⟨_,rfl⟩
 rw[<-hV,<-hR0]
 rw[<-hV]at hnV hnorm hVlt
 have hnR1:nl R0<=nl A+1:=dy.2 (by
  rw[hR0,show 32*(nl A+1)=32*nl A+32 by omega,Nat.pow_add]
  have h1:2^s<=2^32:=Nat.pow_le_pow_right aa aa
  exact Nat.lt_of_lt_of_le ((Nat.mul_lt_mul_right (Nat.two_pow_pos s)).2 nr) (Nat.mul_le_mul_left _ h1))
 have hnR2:nl V<=nl R0:=ic (by rw[hV,hR0];exact Nat.mul_le_mul_right _ aa)
 obtain⟨lq,hlq⟩:∃lq,lq=nl R0-nl V+1:=⟨_,rfl⟩
 have w3:i64.wrap ((nl R0:Int)-(nl V:Int))=((lq:Nat):Int)-1:=by rw[wrap_i64 aa aa];omega
 have w4:i64.wrap (((lq:Nat):Int)-1+1)=((lq:Nat):Int):=eM aa aa
 rw[w3,w4]
 simp only[bw]
 refine⟨⟨aa,aa,aa,aa,aa,aa⟩,aa,fun s' hv=>cF ?_⟩
 refine ay.lP (dD (vs:=iV V s R0 lq ((lq:Int)-1) 7) (ps:=dn 7 lq fun _=>0) (nx:=8) [(7,65536)] hv hk0 rfl
  ⟨aQ,aQ,aQ,aQ,⟨rfl,dw rfl rfl rfl⟩,aQ,trivial⟩ ⟨⟨_,_,rfl,rfl,fL rfl fun j _=>rfl⟩,trivial⟩) ?_
 have hv1:0<aB V (nl V-1):=by rw[hnV];omega
 refine PS h0 hs32 hB0 hV hR0 aa aa aa hv1 aa ?_ rfl
 have hVge:2^(32*(nl V-1))<=V:=by
  rcases Nat.lt_or_ge V (2^(32*(nl V-1)))with h|h
  ·have:=dy.2 h;omega
  ·exact h
 have h1:=Nat.mul_le_mul_right (2^(32*lq)) hVge
 rw[<-Nat.pow_add,show 32*(nl V-1)+32*lq=32*nl R0 by omega]at h1
 exact Nat.lt_of_lt_of_le nr h1
def Jo:Spec:=mY (fun A B=>mX A B) fun A B=>[nl A<2^38,nl B<2^38]
theorem L8:aY P Jo 148:=oB fun h=>SH h.1 h.2
end Go.Am.B
