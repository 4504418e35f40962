/- ref01: Div. -/
import Derived.Test.YtppeigelbecpbaaGreatB26
set_option linter.unusedVariables false
namespace Go.Am.B
open Go Go.Am.N AV
theorem VD {R i:Nat} (h:R<2^(32*(i+2))):az R (i+1)*4294967296+az R i=R/2^(32*i):=by
 unfold az
 have e:R/2^(32*(i+1))=R/2^(32*i)/4294967296:=by rw[Nat.div_div_eq_div_mul,show(4294967296:Nat)=2^32 from rfl,←Nat.pow_add];congr 2
 rw[e]
 have h2:R/2^(32*i)<4294967296*4294967296:=by
  rw[Nat.div_lt_iff_lt_mul (Nat.two_pow_pos _),show(4294967296*4294967296:Nat)=2^64 from rfl,←Nat.pow_add]
  rw[show 64+32*i=32*(i+2) by omega];exact h
 generalize R/2^(32*i)=X at*
 omega
theorem Vi {a b:Nat}:cA a b>0↔b<a:=by
 unfold cA
 split
 ·simp;omega
 ·split<;>simp_all
theorem aeF {x:Nat} (h:4294967295<x):(4294967295:Int)<(x:Int):=by omega
theorem Wh {x:Nat} (h:¬4294967295<x):¬(4294967295:Int)<(x:Int):=by omega
section pieces
variable {c:Ctx} (h0:∀nx k x,c.k0 k=some x→k<nx) {Q:aj→aF→Prop} {V s R lq j:Nat} {q:Nat→Nat} {s':aF}
include h0 in
theorem ahA (hn:2≤nl V) (hnV:nl V<2^40) (hj:j<2^40) (hR:R<2^(32*(j+nl V+1)))
  (hv:aX eC s'=some (ia V s R lq j 7,cR 7 lq q))
  (fin:∀s',aX (eC++[16]) s'=some (ia V s R lq j 7++[.int .u64 (R/2^(32*(j+nl V-1)):Nat)],cR 7 lq q)→Q .normal s'):
  aD P c fL.ntmps ((before mB [1,1,1,1,1,0]).take 3) s' Q:=by
 refine aD.eH hT lU hm 60 hv (h0 _) rfl (gx (by omega)) (eC++[16]) aj1 (by kernel_rfl) (by kernel_rfl) ?_
 have w1:IntKind.i64.wrap ((j:Int)+(nl V:Int))=((j+nl V:Nat):Int):=ef (by omega) (by omega)
 have w2:IntKind.i64.wrap (((j+nl V:Nat):Int)-1)=((j+nl V-1:Nat):Int):=ef (by omega) (by omega)
 have l1:=de (N:=R) (i:=j+nl V)
 have l2:=de (N:=R) (i:=j+nl V-1)
 have ht:=VD (R:=R) (i:=j+nl V-1) (by rw[show j+nl V-1+2=j+nl V+1 by omega];exact hR)
 rw[show j+nl V-1+1=j+nl V by omega]at ht
 have wl:IntKind.u64.wrap (az R (j+nl V):Int)=((az R (j+nl V):Nat):Int):=bN (by omega) (by omega)
 rw[w1,w2]
 simp only[aa.all,ax,decide_eq_true_eq,decide_eq_false_iff_not,Int.toNat_natCast]
 rw[wl,tq l1 l2]
 have hz:=tq (a:=0) (b:=az R (j+nl V-1)) (by omega) l2
 have ez:((0:Nat):Int)=0:=rfl
 rw[ez]at hz
 rw[hz]
 refine⟨fun h1=>⟨by omega,fun h2=>⟨⟨by omega,by omega⟩,fun s' hv=>fin s' (dm hv ?_ rfl)⟩,fun h2=>by omega⟩,fun h1=>⟨fun h2=>⟨⟨by omega,by omega⟩,fun s' hv=>fin s' (dm hv ?_ rfl)⟩,fun h2=>⟨by omega,fun s' hv=>fin s' (dm hv ?_ rfl)⟩⟩⟩
 ·rw[ht];rfl
 ·rw[iV (A:=R) (i:=j+nl V) (by omega)]at ht
  rw[ht];rfl
 ·rw[iV (A:=R) (i:=j+nl V) (by omega),iV (A:=R) (i:=j+nl V-1) (by omega)]at ht
  rw[←ht];rfl
include h0 in
theorem afw (hn:2≤nl V) (hnV:nl V<2^39) (hj:j<2^39) (hjq:j<lq) (hlq:lq<2^40) (hR:R<V*2^(32*(j+1))) (hv1:0<az V (nl V-1))
  (hv:aX eC s'=some (ia V s R lq j 7,cR 7 lq q))
  (fin:∀s',R/(V*2^(32*j))<4294967296→aX eC s'=some (ia V s (R%(V*2^(32*j))) lq j 7,cR 7 lq (bU q j (R/(V*2^(32*j)))))→Q .normal s'):
  aq P c fL.ntmps mB s' Q:=by
 have hV0:0<V:=Nat.pos_of_ne_zero (fY.1 (by omega))
 have hTp:0<2^(32*j):=Nat.two_pow_pos _
 have hVT:0<V*2^(32*j):=Nat.mul_pos hV0 hTp
 have hVl:V<2^(32*nl V):=mQ
 have hR2:R<2^(32*(j+nl V+1)):=by
  refine Nat.lt_trans hR ?_
  rw[show 32*(j+nl V+1)=32*nl V+32*(j+1) by omega,Nat.pow_add]
  exact(Nat.mul_lt_mul_right (Nat.two_pow_pos _)).2 hVl
 have hnR:nl R≤j+nl V+1:=cT.2 hR2
 obtain⟨qt,hqt⟩:∃qt,qt=R/(V*2^(32*j)):=⟨_,rfl⟩
 have hq32:qt<4294967296:=by
  rw[hqt,Nat.div_lt_iff_lt_mul hVT]
  have e:V*2^(32*(j+1))=4294967296*(V*2^(32*j)):=by rw[gz,←Nat.mul_assoc,Nat.mul_comm V,Nat.mul_assoc]
  omega
 have hqle:qt*(V*2^(32*j))≤R:=by rw[hqt];exact Nat.div_mul_le_self _ _
 have hqlt:∀d,R<d*(V*2^(32*j))→qt<d:=fun d h=>by rw[hqt,Nat.div_lt_iff_lt_mul hVT];exact h
 have Qi:az V (nl V-1)*2^(32*(nl V-1))≤V:=by
  have:=fJ (N:=V)
  obtain⟨k,hk⟩:∃k,nl V=k+1:=⟨nl V-1,by omega⟩
  rw[hk,val]at this
  rw[hk,Nat.add_sub_cancel]
  omega
 have hqtop:qt≤R/2^(32*(j+nl V-1))/az V (nl V-1):=by
  rw[Nat.le_div_iff_mul_le hv1,Nat.le_div_iff_mul_le (Nat.two_pow_pos _)]
  refine Nat.le_trans ?_ hqle
  rw[show 32*(j+nl V-1)=32*(nl V-1)+32*j by omega,Nat.pow_add,Nat.mul_assoc,←Nat.mul_assoc (az V (nl V-1))]
  exact Nat.mul_le_mul_left _ (Nat.mul_le_mul_right _ Qi)
 refine aq.hole [1,1,1,1,1,0] (by kernel_rfl) (aD.chunk 3 (ahA h0 hn (by omega) (by omega) hR2 hv fun s' hv=>bY ?_))
 have lv1:=de (N:=V) (i:=nl V-1)
 have w1:IntKind.i64.wrap ((nl V:Int)-1)=((nl V-1:Nat):Int):=ef (by omega) (by omega)
 have htop64:R/2^(32*(j+nl V-1))<2^64:=by
  rw[Nat.div_lt_iff_lt_mul (Nat.two_pow_pos _),←Nat.pow_add,show 64+32*(j+nl V-1)=32*(j+nl V+1) by omega];exact hR2
 refine aD.chunk 1 (aD.eH hT lU hm 60 hv (h0 _) rfl (gx (by omega)) (eC++[17]) aiL (by kernel_rfl) (by kernel_rfl) ?_)
 have wl:IntKind.u64.wrap (az V (nl V-1):Int)=((az V (nl V-1):Nat):Int):=bN (by omega) (by omega)
 rw[w1]
 simp only[aa.all,ax,Int.toNat_natCast]
 rw[wl]
 obtain⟨t,ht⟩:∃t,t=R/2^(32*(j+nl V-1)):=⟨_,rfl⟩
 rw[←ht]at hqtop htop64 ⊢
 have htd:t/az V (nl V-1)≤t:=Nat.div_le_self _ _
 have w2:IntKind.u64.wrap ((t:Int).tdiv ((az V (nl V-1):Nat):Int))=((t/az V (nl V-1):Nat):Int):=by
  rw[←Int.ofNat_tdiv,xA,Nat.mod_eq_of_lt (by omega)]
 rw[w2]
 obtain⟨d0,hd0⟩:∃d0:Nat,d0=if 4294967295<t/az V (nl V-1)then 4294967295 else t/az V (nl V-1):=⟨_,rfl⟩
 have w3:(if(4294967295:Int)<((t/az V (nl V-1):Nat):Int)then(4294967295:Int)else((t/az V (nl V-1):Nat):Int))=(d0:Int):=by
  rw[hd0]
  by_cases h:4294967295<t/az V (nl V-1)
  ·rw[if_pos h,if_pos (aeF h)];rfl
  ·rw[if_neg h,if_neg (Wh h)]
 have hd32:d0<4294967296:=by rw[hd0];split<;>omega
 have hqd:qt≤d0:=by rw[hd0];split<;>omega
 rw[w3]
 refine⟨⟨by omega,by omega⟩,fun s' hv=>bY ?_⟩
 rw[List.drop_drop]
 refine aD.eH hT lU hm 60 hv (h0 _) rfl (gx (by omega)) (eC++[17,18]) agI (by kernel_rfl) (by kernel_rfl) ?_
 have w4:IntKind.u32.wrap (d0:Int)=(d0:Int):=wrap_u32 (by omega) (by omega)
 rw[w4]
 simp only[aa.all,ax,Int.toNat_natCast]
 have nlmul:∀{d:Nat},d<4294967296→nl (V*d*2^(32*j))≤nl V+1+j∧nl (V*d)≤nl V+1:=fun {d} hd=>by
  have h1:V*d<2^(32*(nl V+1)):=by
   rw[gz,Nat.mul_comm]
   exact Nat.mul_lt_mul'' hd hVl
  refine⟨cT.2 ?_,cT.2 h1⟩
  rw[Nat.mul_add,Nat.pow_add]
  exact(Nat.mul_lt_mul_right hTp).2 h1
 have hnd:=nlmul hd32
 refine⟨⟨hnV,by omega,by omega,by omega,by omega,by omega⟩,fun s' hv=>bY ?_⟩
 refine aq.gC (i:=2) (y:=part mB [1,1,1,1,1,0,0,0]) (by kernel_rfl) (eC++[17,18]) 8 (h0 _) (fun d:Nat=>ia V s R lq j 7++[.int .u64 (d:Nat),.mag (V*d*2^(32*j))]) (fun _=>cR 7 lq q) (fun _=>rfl) (fun _=>gx (by omega))
  (fun d=>qt≤d∧d<4294967296) id d0 hv ⟨hqd,hd32⟩ ?_
 rintro d ⟨hqd,hd⟩
 have hnd:=nlmul hd
 have eX:V*d*2^(32*j)=d*(V*2^(32*j)):=by rw[Nat.mul_comm V d,Nat.mul_assoc]
 refine aq.bf hT lU hm 60 (eC++[17,18]) ahx (by kernel_rfl) ?_
 simp only[aa.all,ax,decide_eq_true_eq,decide_eq_false_iff_not,Int.toNat_natCast,Vi]
 refine⟨⟨by omega,by omega⟩,fun hb=>?_,fun hb s' hv=>eV ?_⟩
 ·rw[eX]at hb
  have hqd1:=hqlt d hb
  have hd1:0<d:=by omega
  have e1:V*d*2^(32*j)-V*2^(32*j)=V*(d-1)*2^(32*j):=by
   rw[Nat.mul_sub,Nat.mul_one,Nat.sub_mul]
  have e2:V*2^(32*j)≤V*d*2^(32*j):=Nat.mul_le_mul_right _ (by have:=Nat.mul_le_mul_left V hd1;omega)
  refine⟨⟨by omega,by omega,by omega,e2,by omega⟩,fun s' hv=>⟨d-1,dm hv ?_ rfl,⟨by omega,by omega⟩,by simp;omega⟩⟩
  rw[e1,bN (by omega) (by omega),show(d:Int)-1=((d-1:Nat):Int) by omega]
  rfl
 ·have hXR:d*(V*2^(32*j))≤R:=by rw[eX]at hb;omega
  have hdq:d=qt:=by
   have:d≤qt:=by rw[hqt,Nat.le_div_iff_mul_le hVT];exact hXR
   omega
  show aD P c fL.ntmps (behind mB [1,1,1,1,1,0]) s' _
  refine aD.eH hT lU hm 60 hv (h0 _) rfl (gx (by omega)) eC aaU (by kernel_rfl) (by kernel_rfl) ?_
  simp only[aa.all,ax,Int.toNat_natCast,Nat.add_zero,beq_iff_eq]
  refine⟨⟨by omega,by omega⟩,⟨by rw[eX];exact hXR,by omega⟩,fun s' hv=>fin s' (by omega) (dm hv ?_ ?_)⟩
  ·have:R-V*d*2^(32*j)=R%(V*2^(32*j)):=by
    rw[eX,hdq,hqt,Nat.mul_comm]
    have:=Nat.div_add_mod R (V*2^(32*j))
    omega
   rw[this]
  ·simp only[cR]
   congr 3
   funext k
   rw[←hqt,←hdq]
   exact gu (wrap_u32 (by omega) (by omega)) k
end pieces
end Go.Am.B
