/- ref01: Div. -/
import Derived.Test.YtgfjdngnneoeoaaGreatB26
set_option linter.unusedVariables false
namespace Go.Am.B
open Go Go.Am.N AV Proofs.Tryz IntKind
theorem Pu {R i:Nat} (h:R<2^(32*(i+2))):aB R (i+1)*4294967296+aB R i=R/2^(32*i):=by
 unfold aB
 have e:R/2^(32*(i+1))=R/2^(32*i)/4294967296:=by rw[Nat.div_div_eq_div_mul,show(4294967296:Nat)=2^32 from rfl,<-Nat.pow_add];congr 2
 rw[e]
 have h2:R/2^(32*i)<4294967296*4294967296:=by
  rw[Nat.div_lt_iff_lt_mul (Nat.two_pow_pos _),show(4294967296*4294967296:Nat)=2^64 from rfl,<-Nat.pow_add]
  rw[show 64+32*i=32*(i+2) by omega];exact h
 generalize R/2^(32*i)=X at*
 omega
theorem Z6 {a b:Nat}:cY a b>0↔b<a:=by
 unfold cY
 split
 ·simp;omega
 ·split<;>simp_all
theorem ahj {x:Nat} (h:4294967295<x):(4294967295:Int)<(x:Int):=aa
theorem ahK {x:Nat} (h:¬4294967295<x):¬(4294967295:Int)<(x:Int):=aa
section pieces
variable {c:Ctx} (h0:∀nx k x,c.k0 k=some x->k<nx) {Q:aq->aK->Prop} {V s R lq j:Nat} {q:Nat->Nat} {s':aK}
include h0 in
theorem RV (hn:2<=nl V) (hnV:nl V<2^40) (hj:j<2^40) (hR:R<2^(32*(j+nl V+1)))
  (hv:bB fC s'=some (je V s R lq j 7,dz 7 lq q))
  (fin:∀s',bB (fC++[16]) s'=some (je V s R lq j 7++[.int .u64 (R/2^(32*(j+nl V-1)):Nat)],dz 7 lq q)->Q .normal s'):
  aI P c f148.ntmps ((before mP [1,1,1,1,1,0]).take 3) s' Q:=by
 refine aI.fE hT me hm 60 hv (h0 _) rfl (ij aa) (fC++[16]) YF ah ah ?_
 have w1:i64.wrap ((j:Int)+(nl V:Int))=((j+nl V:Nat):Int):=fe aa aa
 have w2:i64.wrap (((j+nl V:Nat):Int)-1)=((j+nl V-1:Nat):Int):=fe aa aa
 have l1:=dS (N:=R) (i:=j+nl V)
 have l2:=dS (N:=R) (i:=j+nl V-1)
 have ht:=Pu (R:=R) (i:=j+nl V-1) (by rw[show j+nl V-1+2=j+nl V+1 by omega];exact hR)
 rw[show j+nl V-1+1=j+nl V by omega]at ht
 have wl:u64.wrap (aB R (j+nl V):Int)=((aB R (j+nl V):Nat):Int):=cw aa aa
 rw[w1,w2]
 simp only[ag.all,au,bz,bG,br]
 rw[wl,sL l1 l2]
 have hz:=sL (a:=0) (b:=aB R (j+nl V-1)) aa l2
 have ez:((0:Nat):Int)=0:=rfl
 rw[ez]at hz
 rw[hz]
 refine⟨fun h1=>⟨aa,fun h2=>⟨⟨aa,aa⟩,fun s' hv=>fin s' (ee hv ?_ rfl)⟩,fun h2=>aa⟩,fun h1=>⟨fun h2=>⟨⟨aa,aa⟩,fun s' hv=>fin s' (ee hv ?_ rfl)⟩,fun h2=>⟨aa,fun s' hv=>fin s' (ee hv ?_ rfl)⟩⟩⟩
 ·rw[ht];rfl
 ·rw[jD (A:=R) (i:=j+nl V) aa]at ht
  rw[ht];rfl
 ·rw[jD (A:=R) (i:=j+nl V) aa,jD (A:=R) (i:=j+nl V-1) aa]at ht
  rw[<-ht];rfl
include h0 in
theorem aey (hn:2<=nl V) (hnV:nl V<2^39) (hj:j<2^39) (hjq:j<lq) (hlq:lq<2^40) (hR:R<V*2^(32*(j+1))) (hv1:0<aB V (nl V-1))
  (hv:bB fC s'=some (je V s R lq j 7,dz 7 lq q))
  (fin:∀s',R/(V*2^(32*j))<4294967296->bB fC s'=some (je V s (R%(V*2^(32*j))) lq j 7,dz 7 lq (cE q j (R/(V*2^(32*j)))))->Q .normal s'):
  ay P c f148.ntmps mP s' Q:=by
 have hV0:0<V:=Nat.pos_of_ne_zero (gE.1 aa)
 have hTp:0<2^(32*j):=Nat.two_pow_pos _
 have hVT:0<V*2^(32*j):=Nat.mul_pos hV0 hTp
 have hVl:V<2^(32*nl V):=nj
 have hR2:R<2^(32*(j+nl V+1)):=by
  refine Nat.lt_trans hR ?_
  rw[show 32*(j+nl V+1)=32*nl V+32*(j+1) by omega,Nat.pow_add]
  exact(Nat.mul_lt_mul_right (Nat.two_pow_pos _)).2 hVl
 have hnR:nl R<=j+nl V+1:=dL.2 hR2
 obtain⟨qt,hqt⟩:∃qt,qt=R/(V*2^(32*j)):=⟨_,rfl⟩
 have hq32:qt<4294967296:=by
  rw[hqt,Nat.div_lt_iff_lt_mul hVT]
  have e:V*2^(32*(j+1))=4294967296*(V*2^(32*j)):=by rw[iB,<-Nat.mul_assoc,Nat.mul_comm V,Nat.mul_assoc]
  omega
 have hqle:qt*(V*2^(32*j))<=R:=by rw[hqt];exact Nat.div_mul_le_self _ _
 have hqlt:∀d,R<d*(V*2^(32*j))->qt<d:=fun d h=>by rw[hqt,Nat.div_lt_iff_lt_mul hVT];exact h
 have wU:aB V (nl V-1)*2^(32*(nl V-1))<=V:=by
  have:=gq (N:=V)
  obtain⟨k,hk⟩:∃k,nl V=k+1:=⟨nl V-1,aa⟩
  rw[hk,val]at this
  rw[hk,Nat.add_sub_cancel]
  omega
 have hqtop:qt<=R/2^(32*(j+nl V-1))/aB V (nl V-1):=by
  rw[Nat.le_div_iff_mul_le hv1,Nat.le_div_iff_mul_le (Nat.two_pow_pos _)]
  refine Nat.le_trans ?_ hqle
  rw[show 32*(j+nl V-1)=32*(nl V-1)+32*j by omega,Nat.pow_add,Nat.mul_assoc,<-Nat.mul_assoc (aB V (nl V-1))]
  exact Nat.mul_le_mul_left _ (Nat.mul_le_mul_right _ wU)
 refine ay.hole [1,1,1,1,1,0] ah (aI.chunk 3 (RV h0 hn aa aa hR2 hv fun s' hv=>cL ?_))
 have lv1:=dS (N:=V) (i:=nl V-1)
 have w1:i64.wrap ((nl V:Int)-1)=((nl V-1:Nat):Int):=fe aa aa
 have htop64:R/2^(32*(j+nl V-1))<2^64:=by
  rw[Nat.div_lt_iff_lt_mul (Nat.two_pow_pos _),<-Nat.pow_add,show 64+32*(j+nl V-1)=32*(j+nl V+1) by omega];exact hR2
 refine aI.chunk 1 (aI.fE hT me hm 60 hv (h0 _) rfl (ij aa) (fC++[17]) aaI ah ah ?_)
 have wl:u64.wrap (aB V (nl V-1):Int)=((aB V (nl V-1):Nat):Int):=cw aa aa
 rw[w1]
 simp only[ag.all,au,br]
 rw[wl]
 obtain⟨t,ht⟩:∃t,t=R/2^(32*(j+nl V-1)):=⟨_,rfl⟩
 rw[<-ht]at hqtop htop64 ⊢
 have htd:t/aB V (nl V-1)<=t:=Nat.div_le_self _ _
 have w2:u64.wrap ((t:Int).tdiv ((aB V (nl V-1):Nat):Int))=((t/aB V (nl V-1):Nat):Int):=by
  rw[<-Int.ofNat_tdiv,xA,Nat.mod_eq_of_lt aa]
 rw[w2]
 obtain⟨d0,hd0⟩:∃d0:Nat,d0=if 4294967295<t/aB V (nl V-1)then 4294967295 else t/aB V (nl V-1):=⟨_,rfl⟩
 have w3:(if(4294967295:Int)<((t/aB V (nl V-1):Nat):Int)then(4294967295:Int)else((t/aB V (nl V-1):Nat):Int))=(d0:Int):=by
  rw[hd0]
  by_cases h:4294967295<t/aB V (nl V-1)
  ·rw[if_pos h,if_pos (ahj h)];rfl
  ·rw[if_neg h,if_neg (ahK h)]
 have hd32:d0<4294967296:=by rw[hd0];split<;>omega
 have hqd:qt<=d0:=by rw[hd0];split<;>omega
 rw[w3]
 refine⟨⟨aa,aa⟩,fun s' hv=>cL ?_⟩
 rw[List.drop_drop]
 refine aI.fE hT me hm 60 hv (h0 _) rfl (ij aa) (fC++[17,18]) af0 ah ah ?_
 have w4:u32.wrap (d0:Int)=(d0:Int):=wrap_u32 aa aa
 rw[w4]
 simp only[ag.all,au,br]
 have nlmul:∀{d:Nat},d<4294967296->nl (V*d*2^(32*j))<=nl V+1+j/\nl (V*d)<=nl V+1:=fun {d} hd=>by
  have h1:V*d<2^(32*(nl V+1)):=by
   rw[iB,Nat.mul_comm]
   exact Nat.mul_lt_mul'' hd hVl
  refine⟨dL.2 ?_,dL.2 h1⟩
  rw[Nat.mul_add,Nat.pow_add]
  exact(Nat.mul_lt_mul_right hTp).2 h1
 have hnd:=nlmul hd32
 refine⟨⟨hnV,aa,aa,aa,aa,aa⟩,fun s' hv=>cL ?_⟩
 refine ay.iF (i:=2) (y:=part mP [1,1,1,1,1,0,0,0]) ah (fC++[17,18]) 8 (h0 _) (fun d:Nat=>je V s R lq j 7++[.int .u64 (d:Nat),.mag (V*d*2^(32*j))]) (fun _=>dz 7 lq q) (fun _=>rfl) (fun _=>ij aa)
  (fun d=>qt<=d/\d<4294967296) id d0 hv ⟨hqd,hd32⟩ ?_
 rintro d ⟨hqd,hd⟩
 have hnd:=nlmul hd
 have eX:V*d*2^(32*j)=d*(V*2^(32*j)):=by rw[Nat.mul_comm V d,Nat.mul_assoc]
 refine ay.bH hT me hm 60 (fC++[17,18]) Rc ah ?_
 simp only[ag.all,au,bz,bG,br,Z6]
 refine⟨⟨aa,aa⟩,fun hb=>?_,fun hb s' hv=>fK ?_⟩
 ·rw[eX]at hb
  have hqd1:=hqlt d hb
  have hd1:0<d:=aa
  have e1:V*d*2^(32*j)-V*2^(32*j)=V*(d-1)*2^(32*j):=by
   rw[Nat.mul_sub,Nat.mul_one,Nat.sub_mul]
  have e2:V*2^(32*j)<=V*d*2^(32*j):=Nat.mul_le_mul_right _ (by have:=Nat.mul_le_mul_left V hd1;omega)
  refine⟨⟨aa,aa,aa,e2,aa⟩,fun s' hv=>⟨d-1,ee hv ?_ rfl,⟨aa,aa⟩,by simp;omega⟩⟩
  rw[e1,cw aa aa,show(d:Int)-1=((d-1:Nat):Int) by omega]
  rfl
 ·have hXR:d*(V*2^(32*j))<=R:=by rw[eX]at hb;omega
  have hdq:d=qt:=by
   have:d<=qt:=by rw[hqt,Nat.le_div_iff_mul_le hVT];exact hXR
   omega
  show aI P c f148.ntmps (behind mP [1,1,1,1,1,0]) s' _
  refine aI.fE hT me hm 60 hv (h0 _) rfl (ij aa) fC aeE ah ah ?_
  simp only[ag.all,au,br,Nat.add_zero,beq_iff_eq]
  refine⟨⟨aa,aa⟩,⟨by rw[eX];exact hXR,aa⟩,fun s' hv=>fin s' aa (ee hv ?_ ?_)⟩
  ·have:R-V*d*2^(32*j)=R%(V*2^(32*j)):=by
    rw[eX,hdq,hqt,Nat.mul_comm]
    have:=Nat.div_add_mod R (V*2^(32*j))
    omega
   rw[this]
  ·simp only[dz]
   congr 3
   funext k
   rw[<-hqt,<-hdq]
   exact hU (wrap_u32 aa aa) k
end pieces
end Go.Am.B
