/- ref01: Div. -/
import Derived.Test.YtolopdkjjlfgjaaGreatB26
set_option linter.unusedVariables false
namespace Go.Am.B
open Go Go.Am.N AV Proofs.Tryz IntKind
theorem YG {R i:Nat} (h:R<2^(32*(i+2))):aB R (i+1)*4294967296+aB R i=R/2^(32*i):=by
 unfold aB
 have e:R/2^(32*(i+1))=R/2^(32*i)/4294967296:=by rw[Nat.div_div_eq_div_mul,show(4294967296:Nat)=2^32 from rfl,<-Nat.pow_add];congr 2
 rw[e]
 have h2:R/2^(32*i)<4294967296*4294967296:=by
  rw[Nat.div_lt_iff_lt_mul (Nat.two_pow_pos _),show(4294967296*4294967296:Nat)=2^64 from rfl,<-Nat.pow_add]
  rw[show 64+32*i=32*(i+2) by omega];exact h
 generalize R/2^(32*i)=X at*
 omega
theorem aeg {a b:Nat}:cV a b>0↔b<a:=by
 unfold cV
 split
 ·simp;omega
 ·split<;>simp_all
theorem Ry {x:Nat} (h:4294967295<x):(4294967295:Int)<(x:Int):=aa
theorem adz {x:Nat} (h:¬4294967295<x):¬(4294967295:Int)<(x:Int):=aa
section pieces
variable {c:Ctx} (h0:∀nx k x,c.k0 k=some x->k<nx) {Q:aq->aI->Prop} {V s R lq j:Nat} {q:Nat->Nat} {s':aI}
include h0 in
theorem UO (hn:2<=nl V) (hnV:nl V<2^40) (hj:j<2^40) (hR:R<2^(32*(j+nl V+1)))
  (hv:bk fB s'=some (iS V s R lq j 7,dn 7 lq q))
  (fin:∀s',bk (fB++[16]) s'=some (iS V s R lq j 7++[.int .u64 (R/2^(32*(j+nl V-1)):Nat)],dn 7 lq q)->Q .normal s'):
  aF P c f174.ntmps ((before mC [1,1,1,1,1,0]).take 3) s' Q:=by
 refine aF.fE hT lZ hm 60 hv (h0 _) rfl (ic aa) (fB++[16]) acV ag ag ?_
 have w1:i64.wrap ((j:Int)+(nl V:Int))=((j+nl V:Nat):Int):=fk aa aa
 have w2:i64.wrap (((j+nl V:Nat):Int)-1)=((j+nl V-1:Nat):Int):=fk aa aa
 have l1:=dS (N:=R) (i:=j+nl V)
 have l2:=dS (N:=R) (i:=j+nl V-1)
 have ht:=YG (R:=R) (i:=j+nl V-1) (by rw[show j+nl V-1+2=j+nl V+1 by omega];exact hR)
 rw[show j+nl V-1+1=j+nl V by omega]at ht
 have wl:u64.wrap (aB R (j+nl V):Int)=((aB R (j+nl V):Nat):Int):=cj aa aa
 rw[w1,w2]
 simp only[af.all,az,bz,bE,bu]
 rw[wl,s5 l1 l2]
 have hz:=s5 (a:=0) (b:=aB R (j+nl V-1)) aa l2
 have ez:((0:Nat):Int)=0:=rfl
 rw[ez]at hz
 rw[hz]
 refine⟨fun h1=>⟨aa,fun h2=>⟨⟨aa,aa⟩,fun s' hv=>fin s' (ef hv ?_ rfl)⟩,fun h2=>aa⟩,fun h1=>⟨fun h2=>⟨⟨aa,aa⟩,fun s' hv=>fin s' (ef hv ?_ rfl)⟩,fun h2=>⟨aa,fun s' hv=>fin s' (ef hv ?_ rfl)⟩⟩⟩
 ·rw[ht];rfl
 ·rw[jB (A:=R) (i:=j+nl V) aa]at ht
  rw[ht];rfl
 ·rw[jB (A:=R) (i:=j+nl V) aa,jB (A:=R) (i:=j+nl V-1) aa]at ht
  rw[<-ht];rfl
include h0 in
theorem Oq (hn:2<=nl V) (hnV:nl V<2^39) (hj:j<2^39) (hjq:j<lq) (hlq:lq<2^40) (hR:R<V*2^(32*(j+1))) (hv1:0<aB V (nl V-1))
  (hv:bk fB s'=some (iS V s R lq j 7,dn 7 lq q))
  (fin:∀s',R/(V*2^(32*j))<4294967296->bk fB s'=some (iS V s (R%(V*2^(32*j))) lq j 7,dn 7 lq (cy q j (R/(V*2^(32*j)))))->Q .normal s'):
  au P c f174.ntmps mC s' Q:=by
 have hV0:0<V:=Nat.pos_of_ne_zero (gI.1 aa)
 have hTp:0<2^(32*j):=Nat.two_pow_pos _
 have hVT:0<V*2^(32*j):=Nat.mul_pos hV0 hTp
 have hVl:V<2^(32*nl V):=nj
 have hR2:R<2^(32*(j+nl V+1)):=by
  refine Nat.lt_trans hR ?_
  rw[show 32*(j+nl V+1)=32*nl V+32*(j+1) by omega,Nat.pow_add]
  exact(Nat.mul_lt_mul_right (Nat.two_pow_pos _)).2 hVl
 have hnR:nl R<=j+nl V+1:=dB.2 hR2
 obtain⟨qt,hqt⟩:∃qt,qt=R/(V*2^(32*j)):=⟨_,rfl⟩
 have hq32:qt<4294967296:=by
  rw[hqt,Nat.div_lt_iff_lt_mul hVT]
  have e:V*2^(32*(j+1))=4294967296*(V*2^(32*j)):=by rw[iC,<-Nat.mul_assoc,Nat.mul_comm V,Nat.mul_assoc]
  omega
 have hqle:qt*(V*2^(32*j))<=R:=by rw[hqt];exact Nat.div_mul_le_self _ _
 have hqlt:∀d,R<d*(V*2^(32*j))->qt<d:=fun d h=>by rw[hqt,Nat.div_lt_iff_lt_mul hVT];exact h
 have JF:aB V (nl V-1)*2^(32*(nl V-1))<=V:=by
  have:=gq (N:=V)
  obtain⟨k,hk⟩:∃k,nl V=k+1:=⟨nl V-1,aa⟩
  rw[hk,val]at this
  rw[hk,Nat.add_sub_cancel]
  omega
 have hqtop:qt<=R/2^(32*(j+nl V-1))/aB V (nl V-1):=by
  rw[Nat.le_div_iff_mul_le hv1,Nat.le_div_iff_mul_le (Nat.two_pow_pos _)]
  refine Nat.le_trans ?_ hqle
  rw[show 32*(j+nl V-1)=32*(nl V-1)+32*j by omega,Nat.pow_add,Nat.mul_assoc,<-Nat.mul_assoc (aB V (nl V-1))]
  exact Nat.mul_le_mul_left _ (Nat.mul_le_mul_right _ JF)
 refine au.hole [1,1,1,1,1,0] ag (aF.chunk 3 (UO h0 hn aa aa hR2 hv fun s' hv=>cD ?_))
 have lv1:=dS (N:=V) (i:=nl V-1)
 have w1:i64.wrap ((nl V:Int)-1)=((nl V-1:Nat):Int):=fk aa aa
 have htop64:R/2^(32*(j+nl V-1))<2^64:=by
  rw[Nat.div_lt_iff_lt_mul (Nat.two_pow_pos _),<-Nat.pow_add,show 64+32*(j+nl V-1)=32*(j+nl V+1) by omega];exact hR2
 refine aF.chunk 1 (aF.fE hT lZ hm 60 hv (h0 _) rfl (ic aa) (fB++[17]) aaY ag ag ?_)
 have wl:u64.wrap (aB V (nl V-1):Int)=((aB V (nl V-1):Nat):Int):=cj aa aa
 rw[w1]
 simp only[af.all,az,bu]
 rw[wl]
 obtain⟨t,ht⟩:∃t,t=R/2^(32*(j+nl V-1)):=⟨_,rfl⟩
 rw[<-ht]at hqtop htop64 ⊢
 have htd:t/aB V (nl V-1)<=t:=Nat.div_le_self _ _
 have w2:u64.wrap ((t:Int).tdiv ((aB V (nl V-1):Nat):Int))=((t/aB V (nl V-1):Nat):Int):=by
  rw[<-Int.ofNat_tdiv,u5,Nat.mod_eq_of_lt aa]
 rw[w2]
 obtain⟨d0,hd0⟩:∃d0:Nat,d0=if 4294967295<t/aB V (nl V-1)then 4294967295 else t/aB V (nl V-1):=⟨_,rfl⟩
 have w3:(if(4294967295:Int)<((t/aB V (nl V-1):Nat):Int)then(4294967295:Int)else((t/aB V (nl V-1):Nat):Int))=(d0:Int):=by
  rw[hd0]
  by_cases h:4294967295<t/aB V (nl V-1)
  ·rw[if_pos h,if_pos (Ry h)];rfl
  ·rw[if_neg h,if_neg (adz h)]
 have hd32:d0<4294967296:=by rw[hd0];split<;>omega
 have hqd:qt<=d0:=by rw[hd0];split<;>omega
 rw[w3]
 refine⟨⟨aa,aa⟩,fun s' hv=>cD ?_⟩
 rw[List.drop_drop]
 refine aF.fE hT lZ hm 60 hv (h0 _) rfl (ic aa) (fB++[17,18]) ac4 ag ag ?_
 have w4:u32.wrap (d0:Int)=(d0:Int):=wrap_u32 aa aa
 rw[w4]
 simp only[af.all,az,bu]
 have nlmul:∀{d:Nat},d<4294967296->nl (V*d*2^(32*j))<=nl V+1+j/\nl (V*d)<=nl V+1:=fun {d} hd=>by
  have h1:V*d<2^(32*(nl V+1)):=by
   rw[iC,Nat.mul_comm]
   exact Nat.mul_lt_mul'' hd hVl
  refine⟨dB.2 ?_,dB.2 h1⟩
  rw[Nat.mul_add,Nat.pow_add]
  exact(Nat.mul_lt_mul_right hTp).2 h1
 have hnd:=nlmul hd32
 refine⟨⟨hnV,aa,aa,aa,aa,aa⟩,fun s' hv=>cD ?_⟩
 refine au.iy (i:=2) (y:=part mC [1,1,1,1,1,0,0,0]) ag (fB++[17,18]) 8 (h0 _) (fun d:Nat=>iS V s R lq j 7++[.int .u64 (d:Nat),.mag (V*d*2^(32*j))]) (fun _=>dn 7 lq q) (fun _=>rfl) (fun _=>ic aa)
  (fun d=>qt<=d/\d<4294967296) id d0 hv ⟨hqd,hd32⟩ ?_
 rintro d ⟨hqd,hd⟩
 have hnd:=nlmul hd
 have eX:V*d*2^(32*j)=d*(V*2^(32*j)):=by rw[Nat.mul_comm V d,Nat.mul_assoc]
 refine au.bF hT lZ hm 60 (fB++[17,18]) Xe ag ?_
 simp only[af.all,az,bz,bE,bu,aeg]
 refine⟨⟨aa,aa⟩,fun hb=>?_,fun hb s' hv=>fL ?_⟩
 ·rw[eX]at hb
  have hqd1:=hqlt d hb
  have hd1:0<d:=aa
  have e1:V*d*2^(32*j)-V*2^(32*j)=V*(d-1)*2^(32*j):=by
   rw[Nat.mul_sub,Nat.mul_one,Nat.sub_mul]
  have e2:V*2^(32*j)<=V*d*2^(32*j):=Nat.mul_le_mul_right _ (by have:=Nat.mul_le_mul_left V hd1;omega)
  refine⟨⟨aa,aa,aa,e2,aa⟩,fun s' hv=>⟨d-1,ef hv ?_ rfl,⟨aa,aa⟩,by simp;omega⟩⟩
  rw[e1,cj aa aa,show(d:Int)-1=((d-1:Nat):Int) by omega]
  rfl
 ·have hXR:d*(V*2^(32*j))<=R:=by rw[eX]at hb;omega
  have hdq:d=qt:=by
   have:d<=qt:=by rw[hqt,Nat.le_div_iff_mul_le hVT];exact hXR
   omega
  show aF P c f174.ntmps (behind mC [1,1,1,1,1,0]) s' _
  refine aF.fE hT lZ hm 60 hv (h0 _) rfl (ic aa) fB Z5 ag ag ?_
  simp only[af.all,az,bu,Nat.add_zero,beq_iff_eq]
  refine⟨⟨aa,aa⟩,⟨by rw[eX];exact hXR,aa⟩,fun s' hv=>fin s' aa (ef hv ?_ ?_)⟩
  ·have:R-V*d*2^(32*j)=R%(V*2^(32*j)):=by
    rw[eX,hdq,hqt,Nat.mul_comm]
    have:=Nat.div_add_mod R (V*2^(32*j))
    omega
   rw[this]
  ·simp only[dn]
   congr 3
   funext k
   rw[<-hqt,<-hdq]
   exact ig (wrap_u32 aa aa) k
end pieces
end Go.Am.B
