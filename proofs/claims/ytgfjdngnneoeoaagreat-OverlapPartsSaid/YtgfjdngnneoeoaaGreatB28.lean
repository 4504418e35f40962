/- ref01: Div's contract; Gcd. -/
import Derived.Test.YtgfjdngnneoeoaaGreatB27
set_option linter.unusedVariables false
namespace Go.Am.B
open Go Go.Am.N AV Proofs.Tryz IntKind
theorem Vj {c:Ctx} (h0:∀nx k x,c.k0 k=some x->k<nx) {A B V s lq R0:Nat} (hs:s<32) (hB0:B≠0) (hV:V=B*2^s) (hR0:R0=A*2^s) (hn:2<=nl V) (hnV:nl V<2^39) (hlq:lq<2^39) (hv1:0<aB V (nl V-1)) (hnR:nl R0<2^40) (hlt:R0<V*2^(32*lq))
  {s':aK} (hv:bB fC s'=some (je V s R0 lq ((lq:Int)-1) 7,dz 7 lq fun _=>0)):
  ay P c f148.ntmps (part (aF f148) pn) s' (ey (fun s'=>aI P c f148.ntmps (behind (aF f148) pn) s' (eU c (Fin T f148 (mO A B)))) (eU c (Fin T f148 (mO A B)))):=by
 have hV0:0<V:=Nat.pos_of_ne_zero (gE.1 aa)
 refine ay.iF (i:=0) (y:=pD) ah fC 8 (h0 _) (fun p:Nat×Nat×(Nat->Nat)=>je V s p.2.1 lq ((p.1:Int)-1) 7) (fun p=>dz 7 lq p.2.2) (fun _=>rfl) (fun _=>ij aa)
  (fun p=>p.1<=lq/\(∀i,i<lq->p.2.2 i<2^32)/\(∀i,i<p.1->p.2.2 i=0)/\val lq p.2.2*V+p.2.1=R0/\p.2.1<V*2^(32*p.1)) (fun p=>p.1) (lq,R0,fun _=>0) hv
  ⟨by simp,fun _ _=>by simp,fun _ _=>rfl,?_,hlt⟩ ?_
 ·simp only;rw[val_zero fun _ _=>rfl];simp
 rintro⟨m,R,q⟩ ⟨hm',hq,hq0,hval,hR⟩
 simp only at hm' hq hq0 hval hR
 refine ay.hole [0] ah (show ay P c f148.ntmps (part pD [0]) _ _ from ay.bH hT me hm 60 fC aad ah ?_)
 simp only[ag.all,bz,bG]
 refine⟨fun hb s' hv=>cL ?_,fun hb s' hv=>qq (fK ?_)⟩
 ·obtain⟨j,rfl⟩:∃j,m=j+1:=⟨m-1,aa⟩
  have hv:bB fC s'=some (je V s R lq (j:Nat) 7,dz 7 lq q):=ee hv (by simp only[je,List.cons.injEq,AV.int.injEq,and_true,true_and];omega) rfl
  show aI P c f148.ntmps [part pD [1]] s' _
  refine ay.hole [0] ah ?_
  show ay P c f148.ntmps (part pD [1,0]) s' _
  refine ay.o9 (i:=1) (y:=mP) ah ?_
  refine aey h0 hn hnV aa aa aa hR hv1 hv fun s' hqt hv=>?_
  show aI P c f148.ntmps [part pD [1,1]] s' _
  refine aI.fE hT me hm 60 hv (h0 8) rfl (ij aa) fC ac4 ah ah fun s' hv=>cL ?_
  refine⟨(j,R%(V*2^(32*j)),cE q j (R/(V*2^(32*j)))),ee hv ?_ rfl,⟨by simp only;omega,iS hqt hq,fun i hi=>(fS (by simp only at hi;omega)).trans (hq0 i (by simp only at hi;omega)),?_,Nat.mod_lt _ (Nat.mul_pos hV0 (Nat.two_pow_pos _))⟩,by simp only;omega⟩
  ·rw[wrap_i64 aa aa]
  ·simp only
   rw[qc aa (hq0 j aa),Nat.add_mul]
   have h1:=Nat.div_add_mod R (V*2^(32*j))
   generalize R/(V*2^(32*j))=qt at*
   generalize R%(V*2^(32*j))=r at*
   rw[show qt*2^(32*j)*V=V*2^(32*j)*qt by rw[Nat.mul_comm (V*_),Nat.mul_assoc,Nat.mul_comm (2^_)]]
   omega
 ·have hm0:m=0:=aa
  have hRV:R<V:=by rw[hm0]at hR;simpa using hR
  show aI P c f148.ntmps (behind (aF f148) pn) s' _
  refine aI.kA hT me hm 60 hv (h0 _) rfl (ij aa) adt ah ah ?_
  have hS:0<2^s:=Nat.two_pow_pos _
  have hnR2:nl R<=nl R0:=iC aa
  obtain⟨e1,e2⟩:=Ga hval hRV
  simp only[ag.all,au,br,Nat.add_zero,jO]
  refine⟨⟨gD hq,aa,aa,aa,aa⟩,dX (congrArg AV.mag ?_),dX (congrArg AV.mag ?_),bW (by rw[if_neg hB0]),trivial⟩
  ·rw[<-e1,hR0,hV,Nat.mul_div_mul_right _ _ hS]
  ·rw[if_neg hB0,<-e2,hR0,hV,Nat.mul_mod_mul_right,Nat.mul_div_cancel _ hS]
theorem ag1 {A B:Nat} (hA:nl A<2^38) (hB:nl B<2^38) (K:Nat):aN P 148 K [.mag A,.mag B] [] (aH (mO A B) []):=by
 refine jq hT TQ rfl aW rfl (fun _ c h0=>?_) K []
 have hk0:=yR h0
 refine ay.hole pn ah (aI.chunk 5 (aI.bH hT me hm 60 [0,1,4,5,6] abQ ah ?_))
 simp only[ag.all,au,beq_iff_eq,beq_eq_false_iff_ne,ne_eq,bz,bG,x6]
 have hnl0:nl B=0↔B=0:=j9
 refine⟨fun hb s' hv=>fI (fI (.inl ?_)),fun hb=>⟨⟨aa,aa⟩,fun hlt=>⟨aa,fun s' hv=>fI (fI (.inl ?_))⟩,fun hge=>⟨fun hf=>?_,fun hf=>⟨fun h1=>?_,fun h1 s' hv=>cL ?_⟩⟩⟩⟩
 ·have hB0:B=0:=hnl0.1 aa
  exact gU (us:=[.nil,.nil,.int .i64 3]) (.inr rfl) hv ah ⟨by rw[hB0];simpa using kO,by rw[if_pos hB0];exact kO,bW (by simp[hB0]),trivial⟩
 ·have hB0:B≠0:=fun h=>hb (by rw[hnl0.2 h];rfl)
  refine gU (us:=[.nil,.mag A,.int .i64 0]) (.inr rfl) hv ah ⟨?_,dX ?_,bW (by simp[hB0]),trivial⟩
  ·rw[Nat.div_eq_of_lt hlt];exact kO
  ·rw[if_neg hB0,Nat.mod_eq_of_lt hlt]
 ·have hB0:B≠0:=fun h=>hb (by rw[hnl0.2 h];rfl)
  have hA64:A<2^64:=by unfold gr at hf;simpa using hf
  have N5:gr B=true:=by unfold gr;simp;omega
  rw[if_pos hf,if_pos N5]
  have hdl:=Nat.div_le_self A B
  have hml:A%B<=A:=Nat.mod_le _ _
  have e1:u64.wrap ((A:Int).tdiv (B:Int))=((A/B:Nat):Int):=by rw[<-Int.ofNat_tdiv,xA,Nat.mod_eq_of_lt aa]
  have e2:(A:Int).tmod (B:Int)=((A%B:Nat):Int):=(Int.ofNat_tmod _ _).symm
  rw[e1,e2]
  have cn:∀{x:Nat},x<2^64->(0:Int)<=(x:Int)/\(x:Int)<2^64:=fun {x} h=>aa
  refine⟨⟨aa,cn (Nat.lt_of_le_of_lt hdl hA64),aa,cn (Nat.lt_of_le_of_lt hml hA64)⟩,fun s' hv=>fI (fI (.inl ?_))⟩
  refine gU (us:=[.mag (A/B),.mag (A%B),.int .i64 0]) (.inr rfl) hv ah ⟨.refl _,dX (by rw[if_neg hB0]),bW (by simp[hB0]),trivial⟩
 ·have hB0:B≠0:=fun h=>hb (by rw[hnl0.2 h];rfl)
  have hl0:aB B 0=B:=by
   have:=gq (N:=B)
   rw[show nl B=1 by omega,val,val]at this
   simpa using this
  have hBlt:B<2^32:=by rw[<-hl0];exact dS
  have hmod:A%B<2^32:=Nat.lt_trans (Nat.mod_lt _ aa) hBlt
  simp only[Int.toNat_zero,hl0,br]
  have e1:u64.wrap ((A%B:Nat):Int)=((A%B:Nat):Int):=by rw[xA,Nat.mod_eq_of_lt aa]
  rw[e1]
  have cn:∀{x:Nat},x<2^32->(0:Int)<=(x:Int)/\(x:Int)<2^64:=fun {x} h=>aa
  refine⟨⟨aa,aa,aa,aa⟩,cn hmod,fun s' hv=>fI (fI (.inl ?_))⟩
  refine gU (us:=[.mag (A/B),.mag (A%B),.int .i64 0]) (.inr rfl) hv ah ⟨.refl _,dX (by rw[if_neg hB0]),bW (by simp[hB0]),trivial⟩
 have hB0:B≠0:=fun h=>hb (by rw[hnl0.2 h];rfl)
 have hn2:2<=nl B:=by have:=gE.2 hB0;omega
 have hv:=jI (ls:=[0,1]) (l:=[4,5,6]) (vs:=[.mag A,.mag B]) hv rfl rfl
 refine aI.chunk 1 (aI.fE hT me hm 60 hv (h0 0) rfl trivial [0,1,13] QA ah ah ?_)
 have w1:i64.wrap ((nl B:Int)-1)=((nl B-1:Nat):Int):=fe aa aa
 rw[w1]
 simp only[ag.all,au,br]
 have e1:nl B-(nl B-1)=1:=aa
 rw[e1]
 have hlB:=dS (N:=B) (i:=nl B-1)
 have htopB:=BO hB0
 have e2:(val 1 fun i=>numOf (AV.int .u32 (aB B (i+(nl B-1)):Nat)))=aB B (nl B-1):=by
  rw[val,val];simp[numOf]
 rw[e2]
 have hb32:bN (aB B (nl B-1))<=32:=ki.2 hlB
 have w2:i64.wrap (32-((bN (aB B (nl B-1)):Nat):Int))=((32-bN (aB B (nl B-1)):Nat):Int):=fe aa aa
 rw[w2]
 have hnl1:nl (aB B (nl B-1))=1:=by
  have:=gE.2 htopB
  have:nl (aB B (nl B-1))<=1:=dL.2 aa
  omega
 refine⟨⟨aa,fun i hi=>⟨_,dS,rfl⟩,aa,hnl1⟩,fun s' hv=>cL ?_⟩
 obtain⟨s,hs⟩:∃s,s=32-bN (aB B (nl B-1)):=⟨_,rfl⟩
 rw[<-hs]at hv
 obtain⟨hs32,hnV,hnorm,hVlt⟩:=Md hB0 hs
 rw[List.drop_drop]
 refine aI.fE hT me hm 60 hv (h0 0) rfl trivial fC Wv ah ah ?_
 simp only[ag.all,au,br]
 obtain⟨V,hV⟩:∃V,V=B*2^s:=⟨_,rfl⟩
 obtain⟨R0,hR0⟩:∃R0,R0=A*2^s:=⟨_,rfl⟩
 rw[<-hV,<-hR0]
 rw[<-hV]at hnV hnorm hVlt
 have hnR1:nl R0<=nl A+1:=dL.2 (by
  rw[hR0,show 32*(nl A+1)=32*nl A+32 by omega,Nat.pow_add]
  have h1:2^s<=2^32:=Nat.pow_le_pow_right aa aa
  exact Nat.lt_of_lt_of_le ((Nat.mul_lt_mul_right (Nat.two_pow_pos s)).2 nj) (Nat.mul_le_mul_left _ h1))
 have hnR2:nl V<=nl R0:=iC (by rw[hV,hR0];exact Nat.mul_le_mul_right _ aa)
 obtain⟨lq,hlq⟩:∃lq,lq=nl R0-nl V+1:=⟨_,rfl⟩
 have w3:i64.wrap ((nl R0:Int)-(nl V:Int))=((lq:Nat):Int)-1:=by rw[wrap_i64 aa aa];omega
 have w4:i64.wrap (((lq:Nat):Int)-1+1)=((lq:Nat):Int):=fe aa aa
 rw[w3,w4]
 simp only[br]
 refine⟨⟨aa,aa,aa,aa,aa,aa⟩,aa,fun s' hv=>cL ?_⟩
 refine ay.lD (dI (vs:=je V s R0 lq ((lq:Int)-1) 7) (ps:=dz 7 lq fun _=>0) (nx:=8) [(7,65536)] hv hk0 rfl
  ⟨aP,aP,aP,aP,⟨rfl,dx rfl rfl rfl⟩,aP,trivial⟩ ⟨⟨_,_,rfl,rfl,fP rfl fun j _=>rfl⟩,trivial⟩) ?_
 have hv1:0<aB V (nl V-1):=by rw[hnV];omega
 refine Vj h0 hs32 hB0 hV hR0 aa aa aa hv1 aa ?_ rfl
 have hVge:2^(32*(nl V-1))<=V:=by
  rcases Nat.lt_or_ge V (2^(32*(nl V-1)))with h|h
  ·have:=dL.2 h;omega
  ·exact h
 have h1:=Nat.mul_le_mul_right (2^(32*lq)) hVge
 rw[<-Nat.pow_add,show 32*(nl V-1)+32*lq=32*nl R0 by omega]at h1
 exact Nat.lt_of_lt_of_le nj h1
def MW:Spec:=nE (fun A B=>mO A B) fun A B=>[nl A<2^38,nl B<2^38]
theorem HK:bf P MW 148:=pq fun h=>ag1 h.1 h.2
end Go.Am.B
