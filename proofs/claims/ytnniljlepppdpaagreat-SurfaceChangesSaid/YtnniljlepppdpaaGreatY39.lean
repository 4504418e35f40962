/- ref09.Polar, ref09.Blossom; contracts of polar forms. -/
import Derived.Test.YtnniljlepppdpaaGreatY38
import Derived.Test.YtnniljlepppdpaaGreatZ2
import Derived.Test.YtnniljlepppdpaaGreatY37
set_option linter.unusedVariables false
noncomputable section
namespace Go.Am.B
open Go Go.Am.N AV ah ax IntKind
theorem NA:aT P Cy xC (ay xC):=aU Proofs.Tryz.func224 ag ag ag
def oq:bf:=nG::(yq,jC kR kR Lg oU)::nY
abbrev oX:List Nat:=[10,0,1,3,4,11,12]
abbrev uZ (n:Nat) (k:Nat->Rat) (p i:Nat) (a:Nat->Rat) (r:Nat):List AV:=[.ptr 0 0 3 0 [],ls k n,.int .i64 p,.int .i64 i,ls a p,.own 1 3 0 (p+1),.int .i64 ((r+1:Nat):Int)]
abbrev Cp:Code:=ay xC
abbrev sZ:Code:=part Cp [1,1,0,1,0,0]
abbrev xU:Code:=part sZ [1,0,0]
abbrev xx:List Nat:=[10,0,1,3,4,11,12,13]
abbrev IL (n:Nat) (k:Nat->Rat) (p i:Nat) (a:Nat->Rat) (r j:Nat):List AV:=[.ptr 0 0 3 0 [],ls k n,.int .i64 p,.int .i64 i,ls a p,.own 1 3 0 (p+1),.int .i64 ((r+1:Nat):Int),.int .i64 j]
theorem ala {n m p i:Nat} {k c a:Nat->Rat}:aG T oq [] 60 oX (before Cp [1,1,0,1]) ⟨aP 0 [ls k n,.int .i64 p,ls c m,.int .i64 i,ls a p],[],0⟩=
  let c4:Int:=(2:Int)^63;let c2:Int:=(↑i:Int)-(↑p:Int);let c1:Int:=(↑i:Int)+1;let c3:Nat:=0+(c1.toNat-c2.toNat);some (aj [(0:Nat)*3<=2^24,-c4<=c2/\c2<c4,-c4<=c1/\c1<c4,(0:Int)<=c2/\c2<=c1/\c1<=c1/\c1<=(↑m:Int),c3*((56:Nat)+1)*2<=2^47] (leaf normal ([ptr 0 0 3 0 [],aq 3 n fun i=>rat (k i) 4096,int i64 (↑p:Int),int i64 (↑i:Int),aq 3 p fun i=>rat (a i) 4096,own 36864 3 0 c3,int i64 1],[(36864,ak.mk true true 3 c3 fun i=>rat (c (i-0+c2.toNat)) 4096),((0:Nat),aS fun x=>rat 0 1)]))):=ag
theorem VA {n p i r:Nat} {k a x:Nat->Rat} {s:Nat->Nat}:aG T oq [28] 60 oX (before sZ [1,0]) ⟨aB oX (uZ n k p i a r),oO p x s,2⟩=
  let c2:Int:=(↑(r+1):Int);let c1:List AV×aE:=([ptr 0 0 3 0 [],aq 3 n fun i=>rat (k i) 4096,int i64 (↑p:Int),int i64 (↑i:Int),aq 3 p fun i=>rat (a i) 4096,own 1 3 0 (p+1),int i64 c2],[(1,ak.mk true true 3 (p+1) fun i=>rat (x i) (s i)),((0:Nat),aS fun x=>rat 0 1)]);some (fork (decide (c2<=(↑p:Int))) (leaf normal c1) (leaf (exit 0) c1)):=ag
theorem Yv {n p i r:Nat} {k a x:Nat->Rat} {s:Nat->Nat}:aG T oq [] 60 xx (before xU [1]) ⟨aB oX (uZ n k p i a r),oO p x s,2⟩=
  some (leaf normal ([ptr 0 0 3 0 [],aq 3 n fun i=>rat (k i) 4096,int i64 (↑p:Int),int i64 (↑i:Int),aq 3 p fun i=>rat (a i) 4096,own 1 3 0 (p+1),int i64 (↑(r+1):Int),int i64 (↑p:Int)],[(1,ak.mk true true 3 (p+1) fun i=>rat (x i) (s i)),((0:Nat),aS fun x=>rat 0 1)])):=ag
theorem acX {n p i r j:Nat} {k a x:Nat->Rat} {s:Nat->Nat}:aG T oq [34] 60 xx [part xU [1,0,0]] ⟨aB xx (IL n k p i a r j),oO p x s,2⟩=
  let c25:Int:=(↑i:Int);let c17:AV:=ptr 0 0 3 0 [];let c15:AV:=aq 3 p fun i=>rat (a i) 4096;let c14:AV:=aq 3 n fun i=>rat (k i) 4096;let c13:Nat×ak:=((0:Nat),aS fun x=>rat 0 1);let c12:Prop:=0<1;let c11:Nat:=p+1;let c10:Nat:=sK+sK+1;let c5:Int:=(↑j:Int);let c4:Nat:=2^41;let c3:Int:=(↑(r+1):Int);let c2:Int:=(2:Int)^63;let c23:Prop:=(0:Int)<=c5/\c5.toNat<c11;let c20:AV:=own 1 3 0 c11;let c16:Int:=c3-1;let c9:Nat:=c5.toNat+0;let c8:Int:=c25-(↑p:Int);let c7:Int:=c25+1;let c1:Int:=c5-1;let c24:Nat:=(c8+c5).toNat;let c22:Prop:=(0:Int)<=c1/\c1.toNat<c11;let c21:Prop:=-c2<=c1/\c1<c2;let c19:Int:=c7+c5-c3;let c6:Nat:=c1.toNat+0;let c18:Nat:=s c9+s c6+1;some (fork (decide (c5>=c3)) (aj [-c2<=c8/\c8<c2,-c2<=c8+c5/\c8+c5<c2,(0:Int)<=c8+c5/\c24<n,-c2<=c7/\c7<c2,-c2<=c7+c5/\c7+c5<c2,-c2<=c19/\c19<c2,(0:Int)<=c19/\c19.toNat<n,c12,c12] (aj [-c2<=c16/\c16<c2,(0:Int)<=c16/\c16.toNat<p,c12,sK<c4,sK<c4,c12,c12,sK<c4,sK<c4,c10<c4,c10<c4,c12] (aj [c21,c22,c6<c11,c12,c23,c9<c11,c21,c22,c6<c11,s c9<c4,s c6<c4,c10+c10<c4,c18<c4,s c6<c4,c10+c10+c18<c4,c23,c9<c11] (aj [c21] (leaf normal ([c17,c14,int i64 (↑p:Int),int i64 c25,c15,c20,int i64 c3,int i64 c1],[(1,ak.mk true true 3 c11 fun j=>rat (bif j==c9 then x c6+(a c16.toNat-k c24)/(k c19.toNat-k c24)*(x c9-x c6)else x j) (bif j==c9 then s c6+(c10+c10+c18)+1 else s j)),c13])))))) (leaf (exit 2) ([c17,c14,int i64 (↑p:Int),int i64 c25,c15,c20,int i64 c3,int i64 c5],[(1,ak.mk true true 3 c11 fun i=>rat (x i) (s i)),c13]))):=ag
theorem ajh {n p i r j:Nat} {k a x:Nat->Rat} {s:Nat->Nat}:aG T oq [] 60 oX [part sZ [1,1]] ⟨aB xx (IL n k p i a r j),oO p x s,2⟩=
  let c1:Int:=(↑(r+1):Int)+1;some (aj [-(2:Int)^63<=c1/\c1<2^63] (leaf normal ([ptr 0 0 3 0 [],aq 3 n fun i=>rat (k i) 4096,int i64 (↑p:Int),int i64 (↑i:Int),aq 3 p fun i=>rat (a i) 4096,own 1 3 0 (p+1),int i64 c1],[(1,ak.mk true true 3 (p+1) fun i=>rat (x i) (s i)),((0:Nat),aS fun x=>rat 0 1)]))):=ag
theorem amH {n p i r:Nat} {k a x:Nat->Rat} {s:Nat->Nat}:cj T oq [] 60 xC [part Cp [1,1,1]] ⟨aB oX (uZ n k p i a r),oO p x s,2⟩=
  let c1:Nat:=(↑p:Int).toNat+0;some (aj [(0:Int)<=(↑p:Int)/\(↑p:Int).toNat<p+1,c1<p+1,(0:Nat)<1] (aj [(0:Nat)<1] (leaf ret [rat (x c1) (s c1)]))):=ag
theorem vD:bu P oq:=cz (aI (jY fun _ _ K hn=>HY hn.1 hn.2 K) oW)
theorem anP {n p m i:Nat} {k c a:Nat->Rat} (hp1:1<=p) (hp6:p<=6) (hn:n<2^40) (hm2:m<2^40) (hpi:p<=i) (him:i<m) (hin:i+p<n) (K:Nat):aQ P Cy K [ls k n,.int .i64 p,ls c m,.int .i64 i,ls a p] [] (aJ (.rat (bR k (i-p) p a (fun j=>c (i-p+j)) p p) sB) []):=by
 refine fc (r:=aJ (.rat (bR k (i-p) p a (fun j=>c (i-p+j)) p p) sB) []) hT NA rfl aX rfl (fun _ cx h0=>?_) K []
 have hk:=gV h0
 obtain⟨b,hb⟩:∃b,b=i-p:=⟨_,rfl⟩
 obtain⟨x,hx⟩:∃x:Nat->Nat->Rat,x=fun r=>bR k b p a (fun j=>c (b+j)) r:=⟨_,rfl⟩
 have hx0:x 0=fun j=>c (b+j):=by rw[hx];rfl
 have hxS:∀r,x (r+1)=iA k b p r (a r) (x r):=fun r=>by rw[hx];rfl
 have hSF:=An
 have hSK:sK=4096:=rfl
 have hSV:sV=268435456:=rfl
 refine au.tV hT vD hm [1,1,0,1] (i:=0) (y:=sZ) (z:=part Cp [1,1,1]) ag ag ag NA.dst hk (f1:=[]) 60 oX 2 (fun r:Nat=>uZ n k p i a r) (fun r=>oO p (x r) fun _=>SB r)
  (fun r=>r<=p) (fun r=>r=p) (fun r=>p-r) (fun _=>False) ⟨_,ala,?_⟩ (fun r hr=>?_) (fun r hr=>?_) (fun _ _ h=>h.elim)
 ·have e0:0+(((i:Int)+1).toNat-((i:Int)-(p:Int)).toNat)=p+1:=aa
  simp only[ah.all,aA,e0]
  refine⟨⟨aa,aa,aa,aa,aa⟩,0,aa,[(0,0),(1,36864)],rfl,rfl,rfl,bJ rfl rfl rfl (fun j hj=>?_) (aC trivial)⟩
  rw[hx0,show((i:Int)-(p:Int)).toNat=b by omega,Nat.sub_zero,Nat.add_comm j b]
  exact .inr ⟨rfl,bO rfl (show sK<=SB 0 by decide)⟩
 ·refine au.ow hT vD hm (y:=sZ) (x1:=xU) (zb:=part sZ [1,1]) [1,0] (j:=1) ag ag ag ag hk (f1:=[28]) 60 oX 2 (fun _:Unit=>uZ n k p i a r) (fun _=>oO p (x r) fun _=>SB r) (fun _=>r<p) ⟨_,VA,?_⟩ (fun _ hr'=>?_)
  ·simp only[ah.all,aA,bq,bw]
   have re:∀{s:Nat->Nat} {y:Nat->Rat},cU [] ([ptr 0 0 3 0 [],aq 3 n fun i=>rat (k i) sK,int i64 p,int i64 i,aq 3 p fun i=>rat (a i) sK,own 1 3 0 (p+1),int i64 ((r+1:Nat):Int)],[(1,ak.mk true true 3 (p+1) fun i=>rat (y i) (s i)),((0:Nat),aS fun x=>rat 0 1)]) (uZ n k p i a r) (oO p y s) 2:=
    ⟨[(0,0),(1,1)],rfl,rfl,rfl,bJ rfl rfl rfl (fun i hi=>cB rfl rfl) (aC trivial)⟩
   exact⟨fun h1=>⟨(),aa,re⟩,fun h1 s' hs'=>⟨rfl,r,aa,re.le hs' hk⟩⟩
  have h1:=tw (d:=r)
  have h2:=r9 (d:=r) aa
  have h3:=xV (d:=r)
  refine au.oV hT vD hm (x:=xU) [1] (i:=2) (y:=part xU [1,0,0]) ag ag ag hk (f1:=[]) (f2:=[34]) 60 xx 2 (fun j:Nat=>IL n k p i a r j) (fun j=>oO p (lK k b p r (a r) (x r) j) (jW r j)) (fun j=>r<=j/\j<=p) (fun j=>j=r) (fun j=>j) (fun _=>False) ⟨_,Yv,?_⟩ (fun j hj=>⟨_,acX,?_⟩) (fun j s' hj hle=>?_) (fun _ _ h=>h.elim)
  ·simp only[ah.all,aA,bn]
   refine⟨p,aa,[(0,0),(1,1)],rfl,rfl,rfl,bJ rfl rfl rfl (fun j hj=>cB rfl ?_) (aC trivial)⟩
   unfold lK jW
   rw[if_pos aa,if_pos aa]
  ·obtain⟨hj1,hj2⟩:=hj
   have e1:((i:Int)-(p:Int)+(j:Int)).toNat=b+j:=aa
   have e4:(((r+1:Nat):Int)-1).toNat=r:=aa
   have u1:∀{j':Nat},j'<=j->jW r j j'=SB r:=fun h=>by unfold jW;rw[if_pos h]
   simp only[ah.all,aA,bq,bw,e1,e4,bn,Nat.add_zero]
   refine⟨fun h4=>?_,fun h4=>⟨rfl,j,aa,[(0,0),(1,1)],rfl,rfl,rfl,bJ rfl rfl rfl (fun j hj=>cB rfl rfl) (aC trivial)⟩⟩
   have e2:((i:Int)+1+(j:Int)-((r+1:Nat):Int)).toNat=b+j+(p-r):=aa
   have e3:((j:Int)-1).toNat=j-1:=aa
   have u2:=u1 (j':=j) aY
   have u3:=u1 (j':=j-1) aa
   simp only[e2,e3,u2,u3]
   (repeat' with_reducible refine And.intro ?_ ?_)
   all_goals first|omega|skip
   exact⟨j-1,aa,by dsimp only;omega,[(0,0),(1,1)],rfl,by rw[show(j:Int)-1=((j-1:Nat):Int) by omega];rfl,rfl,bJ rfl rfl rfl (fun q hq=>U5 aa aa) (aC trivial)⟩
  ·subst hj
   show au P cx xC.ntmps (part sZ [1,1]) s' _
   refine au.jn hle (au.bC hT vD hm 60 oX ajh ag ?_)
   simp only[ah.all,aA]
   refine⟨aa,fun s' hs'=>⟨j+1,aa,by dsimp only;omega,cU.le ⟨[(0,0),(1,1)],rfl,rfl,rfl,bJ rfl rfl rfl (fun q hq=>?_) (aC trivial)⟩ hs' hk⟩⟩
   refine .inr ⟨rfl,bO (by rw[PS,hxS]) ?_⟩
   show jW j j q<=SB (j+1)
   unfold jW
   split<;>omega
 ·subst hr
  refine au.gr ((aH.fin hT vD hm 60 amH ag ?_).mono fun _ _ h=>.inl h)
  have h2:=r9 (d:=r) hp6
  simp only[ah.all,aA,bn,Nat.add_zero]
  refine⟨⟨aa,aa,aa⟩,aa,bO ?_ (by show SB r<=536870912;omega)⟩
  rw[hx,hb]
abbrev ane:rB ((Nat×(Nat->Rat))×Int×(Nat×(Nat->Rat))×Int×(Nat×(Nat->Rat))×Unit):=kC (kL sK) (kC kI (kC (kL sK) (kC kI (kC (kL sK) kN))))
def So:Spec:=cq ane (fun a=>.rat (bR a.1.2 (a.2.2.2.1.toNat-a.2.1.toNat) a.2.1.toNat a.2.2.2.2.1.2 (fun j=>a.2.2.1.2 (a.2.2.2.1.toNat-a.2.1.toNat+j)) a.2.1.toNat a.2.1.toNat) sB) fun a=>[1<=a.2.1,a.2.1<=6,a.1.1<2^40,a.2.2.1.1<2^40,a.2.1<=a.2.2.2.1,a.2.2.2.1<a.2.2.1.1,a.2.2.2.1+a.2.1<a.1.1,(a.2.2.2.2.1.1:Int)=a.2.1]
theorem adG:aW P So Cy:=ck fun⟨⟨n,k⟩,p,⟨m,c⟩,i,⟨l,a⟩,_⟩ K hn=>by
 obtain⟨h1,h2,h3,h4,h5,h6,h7,h8⟩:=hn
 have h8:(l:Int)=p:=h8
 simp only at h1 h2 h3 h4 h5 h6 h7
 have:=anP (p:=p.toNat) (i:=i.toNat) (k:=k) (c:=c) (a:=a) aa aa h3 h4 aa aa aa K
 rw[Int.toNat_of_nonneg aa,Int.toNat_of_nonneg aa]at this
 have hl:l=p.toNat:=aa
 subst hl
 exact this
abbrev lX (m:Nat) (c:Nat->Rat):ak:=⟨true,true,3,m,fun i=>.rat (c i) sK⟩
abbrev oZ:List Nat:=[10,11,2,4,0,1,3,12,66,67,68]
abbrev uA (n:Nat) (k:Nat->Rat) (p m:Nat) (a:Nat->Rat) (i:Nat) (r:Nat):List AV:=[.ptr 1 0 3 0 [],.int .i64 0,.own 0 3 0 m,ls a p,ls k n,.int .i64 p,.int .i64 i,.own 2 3 0 (p+1),ls a p,.int .i64 p,.int .i64 r]
abbrev oK (p m:Nat) (c:Nat->Rat) (x:Nat->Rat) (s:Nat->Nat):aE:=[(2,kz (p+1) x s),(1,zO),(0,lX m c)]
abbrev Ar:List Nat:=[10,11,2,4,0,1,3,12,66,67,68,13,14,15]
abbrev Ml (n:Nat) (k:Nat->Rat) (p m:Nat) (a:Nat->Rat) (i:Nat) (r j:Nat):List AV:=[.ptr 1 0 3 0 [],.int .i64 0,.own 0 3 0 m,ls a p,ls k n,.int .i64 p,.int .i64 i,.own 2 3 0 (p+1),ls a p,.int .i64 p,.int .i64 r,.int .i64 r,.ptr 3 0 3 0 [],.int .i64 j]
theorem akk {n m p l:Nat} {k c a:Nat->Rat} {i:Int}:aG T tn [18,25,36,42,32] 60 oZ (before He [1,1,1,1,0,1]) ⟨aP 0 [ls k n,.int .i64 p,.own 0 3 0 m,.int .i64 i,ls a l],[(0,lX m c)],1⟩=
  let c28:Prop:=n<2^40;let c27:Prop:=sK<2^42;let c26:Prop:=bt (fun i=>rat (k i) sK) n sK;let c25:AV:=own 0 3 0 m;let c24:Int:=i+1;let c23:AV:=aq 3 n fun i=>rat (k i) 4096;let c20:Int:=(2:Int)^40;let c19:AV:=rat 0 1;let c17:Nat×ak:=(0,ak.mk true true 3 m fun i=>rat (c i) 4096);let c15:AV:=ptr 1 0 3 0 [];let c14:AV:=aq 3 l fun i=>rat (a i) 4096;let c13:Int:=(2:Int)^63;let c12:Int:=(↑m:Int);let c5:Int:=(↑p:Int);let c21:Bool:=decide (i<c5);let c18:Bool:=c12 !=(↑n:Int)-c5-1;let c16:Bool:=bif false then true else decide (i>=c12);let c11:Int:=c5+1;let c10:Int:=eV (k i.toNat) (k c24.toNat);let c8:List AV:=[c25,c14,c23,int i64 c5,int i64 i,tuple [],tuple [],tuple [],tuple []];let c7:List Prop:=[(0:Int)<=i/\i.toNat<n,-c13<=c24/\c24<c13,(0:Int)<=c24/\c24.toNat<n,c27,c27];let c6:List (Nat×ak):=[c17,((1:Nat),aS fun j=>if(j==0)=true then aV (agg c19.kids)else c19)];let c22:Bool:=bif false then true else decide (c10>=0);let c9:Nat:=0+Min.min (c12.toNat-(i-c5).toNat) c11.toNat;let c4:ah (List AV×aE):=aj [(0:Nat)<1] (leaf ret (c15::int i64 1::c8,c6));let c2:ah (List AV×aE):=aj [(0:Nat)<1] (leaf ret (c15::int i64 7::c8,c6));let c1:ah (List AV×aE):=aj [-c13<=c11/\c11<c13,(0:Int)<=c11/\c11<=c11/\c11<=2^47/\c11*(↑(56:Nat):Int)<=2^47] (aj [-c13<=i-c5/\i-c5<c13,(0:Int)<=i-c5/\i-c5<=c12/\c12<=c12/\c12<=c12] (leaf normal ([c15,int i64 0,c25,c14,c23,int i64 c5,int i64 i,own 163841 3 0 c11.toNat,c14,int i64 (↑l:Int),int i64 0],[(163841,ak.mk true true 3 c11.toNat fun i_1=>if 0<=i_1/\i_1<c9 then rat (c (i_1-0+((0:Nat)+(i-c5).toNat))) sK else c19),c17,((1:Nat),aS fun x=>c19)])));let c3:ah (List AV×aE):=fork c21 (fork true (aj [c21=true,true=true] (fork true c2 c1)) (aj ((c21=true)::(true=false)::c7) (fork c22 c2 c1))) (fork c16 (aj [c21=false,c16=true] (fork true c2 c1)) (aj ((c21=false)::(c16=false)::c7) (fork c22 c2 c1)));some (fork c18 (aj [c26,c28,-c20<c5,c5<c20,c18=true] (fork true c4 c3)) (aj [c26,c28,-c20<c5,c5<c20,c18=false] (fork (bif false then true else(↑l:Int)!=c5) c4 c3))):=ag
theorem Vt {e:Int} {m:Nat} {c:Nat->Rat}:zo T mV .ret ⟨aB [10,11,2] [.ptr 1 0 3 0 [],.int .i64 e,.own 0 3 0 m],[(0,lX m c),(1,⟨false,true,3,1,fun j=>if(j==0)=true then aV (agg (kids (.rat 0 1)))else .rat 0 1⟩)],2⟩=
  some (aj [(0:Nat)<1] (leaf ret ([agg [AV.bool false,mag 0,mag 0],int i64 e],some (ak.mk true true 3 m fun i=>rat (c i) 4096)))):=ag
theorem YX {n p m i r:Nat} {k a c x:Nat->Rat} {s:Nat->Nat}:aG T tn [69] 60 oZ (before rG [1,1,0]) ⟨aB oZ (uA n k p m a i r),oK p m c x s,3⟩=
  let c3:Int:=(↑p:Int);let c2:AV:=aq 3 p fun i=>rat (a i) 4096;let c1:List AV×aE:=([ptr 1 0 3 0 [],int i64 0,own 0 3 0 m,c2,aq 3 n fun i=>rat (k i) 4096,int i64 c3,int i64 (↑i:Int),own 2 3 0 (p+1),c2,int i64 c3,int i64 (↑r:Int)],[(2,ak.mk true true 3 (p+1) fun i=>rat (x i) (s i)),(0,ak.mk true true 3 m fun i=>rat (c i) 4096),((1:Nat),aS fun x=>rat 0 1)]);some (fork (decide ((↑r:Int)<c3)) (leaf normal c1) (leaf (exit 1) c1)):=ag
theorem Wr {n p m i r:Nat} {k a c x:Nat->Rat} {s:Nat->Nat}:aG T tn [] 60 Ar (before xI [1,1]) ⟨aB oZ (uA n k p m a i r),oK p m c x s,3⟩=
  let c4:AV:=rat 0 1;let c3:Int:=(↑r:Int);let c2:AV:=int i64 (↑p:Int);let c1:AV:=aq 3 p fun i=>rat (a i) 4096;some (aj [(0:Int)<=c3/\c3.toNat<p,(0:Nat)<1] (leaf normal ([ptr 1 0 3 0 [],int i64 0,own 0 3 0 m,c1,aq 3 n fun i=>rat (k i) 4096,c2,int i64 (↑i:Int),own 2 3 0 (p+1),c1,c2,int i64 c3,int i64 c3,ptr 12291 0 3 0 [],c2],[((12291:Nat),aS fun j=>if(j==0)=true then aV (rat (a c3.toNat) sK)else c4),(2,ak.mk true true 3 (p+1) fun i=>rat (x i) (s i)),(0,ak.mk true true 3 m fun i=>rat (c i) 4096),((1:Nat),aS fun x=>c4)]))):=ag
theorem al0 {n p m i r j:Nat} {k a c x:Nat->Rat} {s:Nat->Nat} {t:Rat}:aG T tn [76] 60 Ar [part xI [1,1,0,0]] ⟨aB Ar (Ml n k p m a i r j),(3,tP t sK)::oK p m c x s,4⟩=
  let c27:Int:=(↑r:Int);let c23:Int:=(↑i:Int);let c21:AV:=own 0 3 0 m;let c19:Prop:=0<1;let c17:AV:=ptr 3 0 3 0 [];let c16:AV:=ptr 1 0 3 0 [];let c15:AV:=aq 3 n fun i=>rat (k i) 4096;let c13:Int:=(↑p:Int);let c12:Int:=(↑j:Int);let c11:Nat×ak:=((3:Nat),aS fun x=>rat t 4096);let c10:Nat:=2^42;let c8:Nat:=p+1;let c7:AV:=aq 3 p fun i=>rat (a i) 4096;let c6:List (Nat×ak):=[(0,ak.mk true true 3 m fun i=>rat (c i) 4096),((1:Nat),aS fun x=>rat 0 1)];let c3:Int:=(2:Int)^63;let c26:AV:=int i64 c13;let c24:Prop:=(0:Int)<=c12/\c12.toNat<c8;let c20:AV:=own 2 3 0 c8;let c14:AV:=int i64 c27;let c4:Nat:=c12.toNat+0;let c2:Int:=c23-c13+c12;let c1:Int:=c12-1;let c25:Prop:=(0:Int)<=c1/\c1.toNat<c8;let c22:Prop:=-c3<=c1/\c1<c3;let c9:Int:=c2+c13-c27;let c5:Nat:=c1.toNat+0;let c18:Nat:=s c4+s c5+1;some (fork (decide (c12>c27)) (aj [-c3<=c23-c13/\c23-c13<c3,-c3<=c2/\c2<c3] (aj [(0:Int)<=c2/\c2.toNat<n,-c3<=c2+c13/\c2+c13<c3,-c3<=c9/\c9<c3,(0:Int)<=c9/\c9.toNat<n,c19,sK<=sK,sK<=sK,sK<=sK,c19] (aj [c22,c25,c5<c8,c19,c24,c4<c8,c22,c25,c5<c8,s c4<c10,s c5<c10,sF<c10,c18<c10,s c5<c10,sF+c18<c10,c24,c4<c8] (aj [c22] (leaf normal ([c16,int i64 0,c21,c7,c15,c26,int i64 c23,c20,c7,c26,c14,c14,c17,int i64 c1],c11::(2,ak.mk true true 3 c8 fun j=>rat (bif j==c4 then x c5+fr (k c2.toNat) (k c9.toNat) t*(x c4-x c5)else x j) (bif j==c4 then s c5+(sF+c18)+1 else s j))::c6)))))) (leaf (exit 3) ([c16,int i64 0,c21,c7,c15,c26,int i64 c23,c20,c7,c26,c14,c14,c17,int i64 c12],c11::(2,ak.mk true true 3 c8 fun i=>rat (x i) (s i))::c6))):=ag
theorem W7 {n p m i r j:Nat} {k a c x:Nat->Rat} {s:Nat->Nat} {t:Rat}:aG T tn [] 60 oZ [part rG [1,1,1]] ⟨aB Ar (Ml n k p m a i r j),(3,tP t sK)::oK p m c x s,4⟩=
  let c2:Int:=(↑r:Int)+1;let c1:AV:=aq 3 p fun i=>rat (a i) 4096;some (aj [-(2:Int)^63<=c2/\c2<2^63] (leaf normal ([ptr 1 0 3 0 [],int i64 0,own 0 3 0 m,c1,aq 3 n fun i=>rat (k i) 4096,int i64 (↑p:Int),int i64 (↑i:Int),own 2 3 0 (p+1),c1,int i64 (↑p:Int),int i64 c2],[(2,ak.mk true true 3 (p+1) fun i=>rat (x i) (s i)),(0,ak.mk true true 3 m fun i=>rat (c i) 4096),((1:Nat),aS fun x=>rat 0 1)]))):=ag
theorem VO {n p m i r:Nat} {k a c x:Nat->Rat} {s:Nat->Nat}:IN T tn [] 60 mV [part He [1,1,1,1,1]] ⟨aB oZ (uA n k p m a i r),oK p m c x s,3⟩=
  let c1:Nat:=(↑p:Int).toNat+0;some (aj [(0:Int)<=(↑p:Int)/\(↑p:Int).toNat<p+1,c1<p+1,s c1<2^42,(1:Nat)<2^42,(0:Nat)<1] (aj [(0:Nat)<1] (leaf ret ([rat (x c1+0) (s c1+1+1),int i64 0],some (ak.mk true true 3 m fun i=>rat (c i) 4096))))):=ag
theorem ac4 {n p m l:Nat} {k c a:Nat->Rat} {i:Int} (hp1:1<=p) (hp6:p<=6) (hn:n<2^40) (hm2:m<2^40) (hi:-2^40<i) (hi2:i<2^40) (cx:Ctx) (hk:Kept [0] cx):
  au P cx mV.ntmps (ay mV) ⟨aP 0 [ls k n,.int .i64 p,.own 0 3 0 m,.int .i64 i,ls a l],[(0,lX m c)],1⟩ (eo cx (As T mV [.rat (nk n k p m c i l a) sB,.int .i64 (iF n k p m l i)] (lX m c))):=by
 obtain⟨b,hb⟩:∃b,b=i.toNat-p:=⟨_,rfl⟩
 obtain⟨x,hx⟩:∃x:Nat->Nat->Rat,x=fun r=>bR k b p a (fun j=>c (b+j)) r:=⟨_,rfl⟩
 have hx0:x 0=fun j=>c (b+j):=by rw[hx];rfl
 have hxS:∀r,x (r+1)=iA k b p r (a r) (x r):=fun r=>by rw[hx];rfl
 have hSF:=An
 have hSK:sK=4096:=rfl
 have hSV:sV=268435456:=rfl
 have hrow:∀(l:Nat) (a:Nat->Rat) (w:Bool) (ρ:Nat->Option Nat),dw ρ ⟨true,w,3,l,fun i=>.rat (a i) sK⟩ ⟨true,w,3,l,fun i=>.rat (a i) sK⟩:=fun l a w ρ=>jl rfl fun _ _=>gm rfl
 refine au.tV hT ze hm [1,1,1,1,0,1] (i:=1) (y:=rG) (z:=part He [1,1,1,1,1]) ag ag ag Nk.dst hk (f1:=[18,25,36,42,32]) 60 oZ 3 (fun r:Nat=>uA n k p m a i.toNat r) (fun r=>oK p m c (x r) fun _=>SB r)
  (fun r=>r<=p/\iF n k p m l i=0) (fun r=>r=p/\iF n k p m l i=0) (fun r=>p-r) (B5 T mV [10,11,2] [.rat (nk n k p m c i l a) sB,.int .i64 (iF n k p m l i)] (lX m c)) ⟨_,akk,?_⟩ (fun r ⟨hr,he⟩=>?_) (fun r ⟨hr,he⟩=>?_) (fun v s' hv hs'=>hv.fin (L1:=[4,0,1,3,12,66,67,68]) hk hs')
 ·simp only[ah.all,aA,xE,bne_iff_ne,ne_eq,bne_eq_false_iff_eq,bn,cond_false,bq,bw,yE]
  have ret:∀{e:Int} {us:List AV},iF n k p m l i=e->e≠0->bI us=[]->B5 T mV [10,11,2] [.rat (nk n k p m c i l a) sB,.int .i64 (iF n k p m l i)] (lX m c) ([ptr 1 0 3 0 [],int i64 e,own 0 3 0 m]++us,[((0:Nat),lX m c),((1:Nat),aS fun j=>if(j==0)=true then aV (agg (kids (.rat 0 1)))else .rat 0 1)]):=fun {e us} h1 h2 h3=>
   ⟨[_,_,_],us,2,_,rfl,rfl,h3,Vt,rfl,⟨⟨aa,fun i _=>rfl⟩,⟨aa,fun i _=>nQ rfl rfl⟩,trivial⟩,aa,Nat.zero_lt_one,rfl,rfl,amL h1 h2,⟨_,rfl,hrow _ _ _⟩⟩
  (repeat' with_reducible first|refine And.intro ?_ ?_|intro _)
  all_goals first|omega|exact bP aY|exact absurd ‹true=false› (by decide)|assumption|skip
  all_goals first|exact ret (N7 (.inl ‹_›)) (by decide) rfl|exact ret (N7 (.inr aa)) (by decide) rfl|skip
  all_goals first|exact ret (KJ aa aa (.inl aa)) (by decide) rfl|exact ret (KJ aa aa (.inr (.inl aa))) (by decide) rfl|skip
  all_goals have e1:(i+1).toNat=i.toNat+1:=aa
  ·exact ret (KJ aa aa (.inr (.inr (by rw[<-e1];assumption)))) (by decide) rfl
  ·rename_i h1
   rw[e1]at h1
   have hlp:l=p:=aa
   subst hlp
   refine⟨0,⟨aa,Dp aa rfl (by rintro(h|h|h)<;>first|omega|exact h1 h)⟩,[(0,0),(1,1),(2,163841)],rfl,?_,rfl,bJ rfl rfl aa (fun j hj=>?_) (aC (bJ rfl rfl rfl (fun j hj=>cB rfl rfl) trivial))⟩
   ·rw[show((l:Int)+1).toNat=l+1 by omega]
    show _=[_,_,_,_,_,_,AV.int i64 ((i.toNat:Nat):Int),_,_,_,_]
    rw[show((i.toNat:Nat):Int)=i by omega]
    rfl
   ·rw[if_pos aa,hx0,show(i-(l:Int)).toNat=b by omega,Nat.sub_zero,Nat.zero_add,Nat.add_comm j b]
    exact .inr ⟨rfl,bO rfl (show sK<=SB 0 by decide)⟩
 ·have hin:(m:Int)=(n:Int)-p-1/\p<=i.toNat/\i.toNat<m/\i.toNat=b+p/\l=p:=by
   unfold iF at he
   split at he
   ·omega
   ·split at he
    ·omega
    ·omega
  obtain⟨i1,i2,i3,i4,i5⟩:=hin
  subst i5
  have hr4:∀{s:Nat->Nat} {y:Nat->Rat},jv 3 [(0,0),(1,1),(2,2)] [(2,ak.mk true true 3 (l+1) fun i=>rat (y i) (s i)),((0:Nat),lX m c),((1:Nat),aS fun x=>rat 0 1)] (oK l m c y s):=bJ rfl rfl rfl (fun j hj=>cB rfl rfl) (aC (bJ rfl rfl rfl (fun j hj=>cB rfl rfl) trivial))
  refine au.ow hT ze hm (y:=rG) (x1:=xI) (zb:=part rG [1,1,1]) [1,1,0] (j:=2) ag ag ag ag hk (f1:=[69]) 60 oZ 3 (fun _:Unit=>uA n k l m a i.toNat r) (fun _=>oK l m c (x r) fun _=>SB r) (fun _=>r<l) ⟨_,YX,?_⟩ (fun _ hr'=>?_)
  ·simp only[ah.all,aA,bq,bw]
   have re:∀{s:Nat->Nat} {y:Nat->Rat},cU [0] ([ptr 1 0 3 0 [],int i64 0,own 0 3 0 m,ls a l,aq 3 n fun i=>rat (k i) sK,int i64 l,int i64 (i.toNat:Nat),own 2 3 0 (l+1),ls a l,int i64 l,int i64 (r:Nat)],[(2,ak.mk true true 3 (l+1) fun i=>rat (y i) (s i)),((0:Nat),lX m c),((1:Nat),aS fun x=>rat 0 1)]) (uA n k l m a i.toNat r) (oK l m c y s) 3:=
    ⟨[(0,0),(1,1),(2,2)],rfl,rfl,rfl,hr4⟩
   exact⟨fun h1=>⟨(),aa,re⟩,fun h1 s' hs'=>⟨rfl,r,⟨aa,he⟩,re.le hs' hk⟩⟩
  have h1:=tw (d:=r)
  have h2:=r9 (d:=r) aa
  have h3:=xV (d:=r)
  refine au.oV hT ze hm (x:=xI) [1,1] (i:=3) (y:=part xI [1,1,0,0]) ag ag ag hk (f1:=[]) (f2:=[76]) 60 Ar 4 (fun j:Nat=>Ml n k l m a i.toNat r j) (fun j=>(3,tP (a r) sK)::oK l m c (lK k b l r (a r) (x r) j) (jW r j)) (fun j=>r<=j/\j<=l) (fun j=>j=r) (fun j=>j) (fun _=>False) ⟨_,Wr,?_⟩ (fun j hj=>⟨_,al0,?_⟩) (fun j s' hj hle=>?_) (fun _ _ h=>h.elim)
  ·simp only[ah.all,aA,bn]
   refine⟨⟨aa,aa⟩,l,aa,[(0,0),(1,1),(2,2),(3,12291)],rfl,rfl,rfl,aC (bJ rfl rfl rfl (fun j hj=>cB rfl ?_) (aC (bJ rfl rfl rfl (fun j hj=>cB rfl rfl) trivial)))⟩
   unfold lK jW
   rw[if_pos aa,if_pos aa]
  ·obtain⟨hj1,hj2⟩:=hj
   have e1:((i.toNat:Nat):Int)-(l:Int)+(j:Int)=((b+j:Nat):Int):=aa
   have e2:((b+j:Nat):Int)+(l:Int)-(r:Int)=((b+j+(l-r):Nat):Int):=aa
   have u1:∀{j':Nat},j'<=j->jW r j j'=SB r:=fun h=>by unfold jW;rw[if_pos h]
   simp only[ah.all,aA,bq,bw,e1,e2,bn,Nat.add_zero]
   refine⟨fun h4=>?_,fun h4=>⟨rfl,j,aa,[(0,0),(1,1),(2,2),(3,3)],rfl,rfl,rfl,aC (bJ rfl rfl rfl (fun j hj=>cB rfl rfl) (aC (bJ rfl rfl rfl (fun j hj=>cB rfl rfl) trivial)))⟩⟩
   have e3:((j:Int)-1).toNat=j-1:=aa
   have u2:=u1 (j':=j) aY
   have u3:=u1 (j':=j-1) aa
   simp only[e3,u2,u3]
   (repeat' with_reducible refine And.intro ?_ ?_)
   all_goals first|omega|skip
   exact⟨j-1,aa,by dsimp only;omega,[(0,0),(1,1),(2,2),(3,3)],rfl,by rw[show(j:Int)-1=((j-1:Nat):Int) by omega];rfl,rfl,aC (bJ rfl rfl rfl (fun q hq=>U5 aa aa) (aC (bJ rfl rfl rfl (fun j hj=>cB rfl rfl) trivial)))⟩
  ·subst hj
   show au P cx mV.ntmps (part rG [1,1,1]) s' _
   refine au.jn hle (au.bC hT ze hm 60 oZ W7 ag ?_)
   simp only[ah.all,aA]
   refine⟨aa,fun s' hs'=>⟨j+1,⟨aa,he⟩,by dsimp only;omega,cU.le ⟨[(0,0),(1,1),(2,2)],rfl,rfl,rfl,bJ rfl rfl rfl (fun q hq=>?_) (aC (bJ rfl rfl rfl (fun j hj=>cB rfl rfl) trivial))⟩ hs' hk⟩⟩
   refine .inr ⟨rfl,bO (by rw[PS,hxS]) ?_⟩
   show jW j j q<=SB (j+1)
   unfold jW
   split<;>omega
 ·have hlp:l=p:=by
   unfold iF at he
   split at he
   ·omega
   ·omega
  subst hlp
  subst hr
  refine au.gr ((aH.ano hT ze hm 60 VO ag ?_).mono fun _ _ h=>.inl h)
  have h2:=r9 (d:=r) hp6
  simp only[ah.all,aA,bn,Nat.add_zero]
  refine⟨⟨aa,aa,aa,aa,aa⟩,aa,rfl,rfl,⟨bO ?_ (by show SB r+1+1<=536870912;omega),bK he.symm,trivial⟩,⟨_,rfl,hrow _ _ _⟩⟩
  unfold nk
  rw[if_pos he,<-hb,hx,Rat.add_zero]
def oS (f:Nat->AV) (n s:Nat):Prop:=∀i,i<n->keys (f i)=[]/\bN (f i) (.rat (aL (f i)) s)
theorem TN {k:Nat->Rat} {n s s':Nat} (h:s<=s'):oS (fun i=>.rat (k i) s) n s':=fun _ _=>⟨rfl,eR h⟩
theorem oS.obj {f:Nat->AV} {n s:Nat} {w:Bool} (h:oS f n s) {m:Nat} (hm:n=m) (ρ:Nat->Option Nat):dw ρ ⟨true,w,3,n,f⟩ ⟨true,w,3,m,fun i=>.rat (aL (f i)) s⟩:=⟨rfl,rfl,rfl,hm.symm,fun i hi=>mZ (h i hi).1 (h i hi).2⟩
def K7:Spec:=fun _ args pre=>match args,pre with
 |[.aq 3 n kf,.int .i64 p,.own b 3 0 m,.int .i64 i,.aq 3 l af],[(b',⟨true,true,3,mb,fb⟩)]=>match b'==b with
  |true=>some ⟨Rv n (fun i=>aL (kf i)) p.toNat m (fun i=>aL (fb i)) i l (fun i=>aL (af i)),[(b,lX m fun i=>aL (fb i))],
   [mb=m,bt kf n sK,bt af l sK,oS fb m sK,1<=p,p<=6,n<2^40,m<2^40,-2^40<i,i<2^40]⟩
  |false=>none
 |_,_=>none
theorem aej:aW P K7 Mq:=by
 intro K args pre r h
 unfold K7 at h
 split at h
 ·rename_i n kf p b m i l af b' mb fb
  split at h
  ·rename_i hc
   have hc:=eq_of_beq hc
   subst hc
   simp only[az]at h
   subst h
   intro need
   obtain⟨rfl,n1,n2,n3,n4,n5,n6,n7,n8,n9⟩:=need
   refine YP hT Nk (args:=[.aq 3 n kf,.int .i64 p,.own b' 3 0 mb,.int .i64 i,.aq 3 l af]) (us:=[.rat (nk n (fun i=>aL (kf i)) p.toNat mb (fun i=>aL (fb i)) i l (fun i=>aL (af i))) sB,.int .i64 (iF n (fun i=>aL (kf i)) p.toNat mb l i)]) (args0:=[ls (fun i=>aL (kf i)) n,.int .i64 p,.own 0 3 0 mb,.int .i64 i,ls (fun i=>aL (af i)) l]) aX
    ⟨⟨rfl,mZ rfl (AX n1)⟩,aM,⟨rfl,bW rfl rfl rfl⟩,aM,⟨rfl,mZ rfl (AX n2)⟩,trivial⟩ (fun _ ρ=>n3.obj rfl ρ) (fun _ c hk=>?_) K ⟨rfl,n1,n2,n3,n4,n5,n6,n7,n8,n9⟩
   have:=ac4 (n:=n) (p:=p.toNat) (m:=mb) (l:=l) (k:=fun i=>aL (kf i)) (c:=fun i=>aL (fb i)) (a:=fun i=>aL (af i)) (i:=i) aa aa n6 n7 n8 n9 c hk
   rw[Int.toNat_of_nonneg aa]at this
   exact this
  ·simp at h
 ·simp at h
theorem af6:aT P yG BS (ay BS):=aU Proofs.Tryz.func189 ag ag ag
theorem TX:aT P zQ p7 (ay p7):=aU Proofs.Tryz.func190 ag ag ag
def ng (k:Nat->Rat) (n:Nat):Nat->Nat->Nat
 |0,i=>i
 |f+1,i=>if i+1<n/\k (i+1)<=k i then ng k n f (i+1)else i
def fC (k:Nat->Rat) (n i:Nat):Nat:=ng k n (n-i) i
abbrev A5:List Nat:=[0,1,4]
abbrev JR (n i:Nat) (k:Nat->Rat):List AV:=[ls k n,.int .i64 i,.int .i64 0]
abbrev zX:Code:=ay BS
def gP (h:Pl):Nat->Rat
 |0=>h.n.x
 |1=>h.n.y
 |2=>h.n.z
 |_=>h.d
def pJ (g:Nat->Rat):Nat->Pl
 |0=>⟨⟨0,0,0⟩,0⟩
 |1=>⟨⟨g 0,0,0⟩,0⟩
 |2=>⟨⟨g 0,g 1,0⟩,0⟩
 |3=>⟨⟨g 0,g 1,g 2⟩,0⟩
 |_=>⟨⟨g 0,g 1,g 2⟩,g 3⟩
def hH (c:Cu) (i:Int) (l:Nat) (g:Nat->Rat) (a:Nat):Rat:=nk c.n c.k c.p.toNat c.m (fun j=>gP (c.f j) a) i l g
def oI (c:Cu) (i:Int) (l:Nat) (g:Nat->Rat):Pl:=⟨⟨hH c i l g 0,hH c i l g 1,hH c i l g 2⟩,hH c i l g 3⟩
def pq (c:Cu) (a:Nat) (x:Nat->Rat) (j q:Nat):Rat:=if q<j\/c.m<=q then gP (c.f q) a else x q
theorem Yi {c:Cu} {a:Nat} {x:Nat->Rat}:pq c a x c.m=fun q=>gP (c.f q) a:=by
 funext q;unfold pq;rw[if_pos aa]
def qz:bf:=nG::(Mq,K7)::iR
abbrev jr:List Nat:=[1,2,3,6,7,8,16]
abbrev lE (c:Cu) (i:Int) (l:Nat) (g:Nat->Rat) (a:Nat):List AV:=[.int .i64 i,ls g l,.ptr 0 0 3 0 [],.ptr 1 0 12 0 [],.ptr 2 0 12 0 [],.own 3 3 0 c.m,.int .i64 a]
abbrev yc:List Nat:=[1,2,3,6,7,8,16,9,20,21,22]
abbrev Cc (c:Cu) (i:Int) (l:Nat) (g:Nat->Rat) (a j:Nat):List AV:=[.int .i64 i,ls g l,.ptr 0 0 3 0 [],.ptr 1 0 12 0 [],.ptr 2 0 12 0 [],.own 3 3 0 c.m,.int .i64 a,.int .i64 a,pU c.f c.m sK,.int .i64 c.m,.int .i64 j]
abbrev jL (c:Cu) (x:Nat->Rat) (h:Pl):aE:=[(3,lX c.m x),(2,fe h sB),(1,fe ⟨⟨0,0,0⟩,0⟩ 1),(0,qS c sK)]
abbrev Gz:Code:=ay p7
abbrev pg:Code:=part Gz [1,1,1,0,1,0,0]
abbrev pn:Code:=part pg [1,1,0,0]
theorem adK {n i:Nat} {k:Nat->Rat}:aG T (nG::iR) [] 60 A5 (before zX [1,0]) ⟨aP 0 [ls k n,.int .i64 i],[],0⟩=
  some (leaf normal ([aq 3 n fun i=>rat (k i) 4096,int i64 (↑i:Int),int i64 0],[])):=ag
theorem ag8 {n i:Nat} {k:Nat->Rat}:aG T (nG::iR) [10,22] 60 A5 [part zX [1,0,0,0]] ⟨aB A5 (JR n i k),[],0⟩=
  let c9:Prop:=sK<2^42;let c8:Int:=(↑i:Int);let c3:AV:=aq 3 n fun i=>rat (k i) 4096;let c4:ah (List AV×aE):=leaf (exit 0) ([c3,int i64 c8,int i64 0],[]);let c1:Int:=c8+1;let c7:Int:=eV (k c8.toNat) (k c1.toNat);let c6:Bool:=decide (c1<(↑n:Int));let c2:Prop:=-(2:Int)^63<=c1/\c1<2^63;let c5:ah (List AV×aE):=aj [c2] (leaf normal ([c3,int i64 c1,int i64 0],[]));some (fork c6 (aj [c2,c6=true,(0:Int)<=c8/\c8.toNat<n,c2,(0:Int)<=c1/\c1.toNat<n,c9,c9] (fork (bif true then decide (c7>=0)else false) c5 c4)) (aj [c2,c6=false] (fork false c5 c4))):=ag
theorem aeq {n i:Nat} {k:Nat->Rat}:cj T (nG::iR) [] 60 BS [part zX [1,1]] ⟨aB A5 (JR n i k),[],0⟩=
  some (leaf ret [int i64 (↑i:Int)]):=ag
theorem aa1 {c:Cu} {i:Int} {l:Nat} {g:Nat->Rat}:aG T qz [] 60 jr (before Gz [1,1,1,0,1]) ⟨aP 0 [dY c sK sK,.int .i64 i,ls g l],[],0⟩=
  let c4:Nat:=(aV (dY c sK sK)).size;let c3:Int:=(↑c.m:Int);let c1:AV:=rat 0 1;let c2:ak:=ak.mk false true 12 1 fun x=>agg [c1,c1,c1,c1];some (aj [(0:Nat)<1,(0:Int)<=c3/\c3<=c3/\c3<=2^47/\c3*(↑(56:Nat):Int)<=2^47] (leaf normal ([int i64 i,aq 3 l fun i=>rat (g i) 4096,ptr 0 0 c4 0 [],ptr 4096 0 12 0 [],ptr 8192 0 12 0 [],own 24576 3 0 c3.toNat,int i64 0],[(24576,ak.mk true true 3 c3.toNat fun x=>c1),((8192:Nat),c2),((4096:Nat),c2),(0,ak.mk false true c4 1 fun x=>agg [int i64 c.p,aq 3 c.n fun i=>rat (c.k i) 4096,aq 12 c.m fun i=>bD (c.f i) 4096])]))):=ag
theorem aiq {c:Cu} {i:Int} {l a:Nat} {g x:Nat->Rat} {h:Pl}:aG T qz [17] 60 jr (before pg [1,1,0]) ⟨aB jr (lE c i l g a),jL c x h,4⟩=
  let c2:AV:=rat 0 1;let c1:List AV×aE:=([int i64 i,aq 3 l fun i=>rat (g i) 4096,ptr 0 0 3 0 [],ptr 1 0 12 0 [],ptr 2 0 12 0 [],own 3 3 0 c.m,int i64 (↑a:Int)],[(3,ak.mk true true 3 c.m fun i=>rat (x i) 4096),(2,ak.mk false true 12 1 fun x=>bD h 536870912),(1,ak.mk false true 12 1 fun x=>agg [c2,c2,c2,c2]),((0:Nat),aS fun x=>agg [int i64 c.p,aq 3 c.n fun i=>rat (c.k i) 4096,aq 12 c.m fun i=>bD (c.f i) 4096])]);some (fork (decide ((↑a:Int)<4)) (leaf normal c1) (leaf (exit 0) c1)):=ag
theorem Z2 {c:Cu} {i:Int} {l a:Nat} {g x:Nat->Rat} {h:Pl}:aG T qz [] 60 yc (before pn [1,0,1]) ⟨aB jr (lE c i l g a),jL c x h,4⟩=
  let c2:AV:=rat 0 1;let c1:AV:=aq 12 c.m fun i=>bD (c.f i) 4096;some (aj [(0:Nat)<1] (leaf normal ([int i64 i,aq 3 l fun i=>rat (g i) 4096,ptr 0 0 3 0 [],ptr 1 0 12 0 [],ptr 2 0 12 0 [],own 3 3 0 c.m,int i64 (↑a:Int),int i64 (↑a:Int),c1,int i64 (↑c.m:Int),int i64 0],[(3,ak.mk true true 3 c.m fun i=>rat (x i) 4096),(2,ak.mk false true 12 1 fun x=>bD h 536870912),(1,ak.mk false true 12 1 fun x=>agg [c2,c2,c2,c2]),((0:Nat),aS fun x=>agg [int i64 c.p,aq 3 c.n fun i=>rat (c.k i) 4096,c1])]))):=ag
theorem ajx {c:Cu} {i:Int} {l a:Nat} {g x:Nat->Rat} {h:Pl}:aG T qz [] 60 jr [part pg [1,1,1]] ⟨aB jr (lE c i l g a),jL c x h,4⟩=
  let c2:Int:=(↑a:Int)+1;let c1:AV:=rat 0 1;some (aj [-(2:Int)^63<=c2/\c2<2^63] (leaf normal ([int i64 i,aq 3 l fun i=>rat (g i) 4096,ptr 0 0 3 0 [],ptr 1 0 12 0 [],ptr 2 0 12 0 [],own 3 3 0 c.m,int i64 c2],[(3,ak.mk true true 3 c.m fun i=>rat (x i) 4096),(2,ak.mk false true 12 1 fun x=>bD h 536870912),(1,ak.mk false true 12 1 fun x=>agg [c1,c1,c1,c1]),((0:Nat),aS fun x=>agg [int i64 c.p,aq 3 c.n fun i=>rat (c.k i) 4096,aq 12 c.m fun i=>bD (c.f i) 4096])]))):=ag
theorem age {c:Cu} {i:Int} {l a:Nat} {g x:Nat->Rat} {h:Pl}:cj T qz [] 60 p7 [part Gz [1,1,1,1]] ⟨aB jr (lE c i l g a),jL c x h,4⟩=
  let c1:Prop:=0<1;some (aj [c1,c1] (aj [c1] (leaf ret [bD h 536870912]))):=ag
theorem Ic {k:Nat->Rat} {n i:Nat} (h:i+1<n) (h2:k (i+1)<=k i):fC k n i=fC k n (i+1):=by
 unfold fC;rw[show n-i=(n-(i+1))+1 by omega,ng,if_pos ⟨h,h2⟩]
theorem Fg {k:Nat->Rat} {n i:Nat} (h:¬(i+1<n/\k (i+1)<=k i)):fC k n i=i:=by
 unfold fC
 cases n-i with
 |zero=>rfl
 |succ f=>rw[ng,if_neg h]
theorem ajb {n i:Nat} {k:Nat->Rat} (hi:i<=n) (hn:n<2^40) (K:Nat):aQ P yG K [ls k n,.int .i64 i] [] (aJ (.int .i64 (fC k n i)) []):=by
 refine ij (r:=aJ (.int .i64 (fC k n i)) []) hT (cz jU) hm af6 rfl aX rfl [1,0] (i:=0) (y:=part zX [1,0,0,0]) (z:=part zX [1,1]) ag ag ag (f1:=[]) (f2:=[10,22]) (f3:=[]) 60 A5 0
  (fun j:Nat=>JR n j k) (fun _=>[]) (fun j=>j<=n/\fC k n j=fC k n i) (fun j=>j=fC k n i) (fun j=>n-j) (fun _=>⟨⟨_,adK,?_⟩,fun j hj=>⟨_,ag8,?_⟩,fun j hj=>⟨_,aeq,?_⟩⟩) K []
 ·simp only[ah.all,aA]
  exact⟨i,⟨hi,rfl⟩,[],rfl,rfl,rfl,trivial⟩
 ·have e1:((j:Int)+1).toNat=j+1:=aa
  simp only[ah.all,aA,bq,bw,bn,cond_true,e1,yE]
  refine⟨fun h1=>⟨⟨aa,aa,aa,aa,aa,by decide,by decide⟩,fun h2=>⟨aa,j+1,⟨aa,(Ic aa h2).symm.trans hj.2⟩,by dsimp only;omega,[],rfl,rfl,rfl,trivial⟩,fun h2=>⟨rfl,j,?_,[],rfl,rfl,rfl,trivial⟩⟩,fun h1=>⟨⟨aa,aa⟩,fun h=>absurd h (by decide),fun _=>⟨rfl,j,?_,[],rfl,rfl,rfl,trivial⟩⟩⟩
  ·exact(Fg fun h=>h2 h.2).symm.trans hj.2
  ·exact(Fg fun h=>aa).symm.trans hj.2
 ·subst hj
  simp only[ah.all,aA]
  exact .refl _
def JK:Spec:=cq (kC (kL sK) (kC kI kN)) (fun a=>.int .i64 (fC a.1.2 a.1.1 a.2.1.toNat)) fun a=>[0<=a.2.1,a.2.1<=a.1.1,a.1.1<2^40]
theorem QW:aW P JK yG:=ck fun⟨⟨n,k⟩,i,_⟩ K hn=>by
 obtain⟨h1,h2,h3⟩:=hn
 have:=ajb (n:=n) (i:=i.toNat) (k:=k) (by dsimp only at*;omega) h3 K
 rw[Int.toNat_of_nonneg h1]at this
 exact this
theorem vS:bu P qz:=cz (aI aej jU)
def A8 (c:Cu):Nat->Nat->Rat
 |0=>fun _=>0
 |a+1=>fun q=>gP (c.f q) a
theorem ajc {rl:List (Nat×Nat)} {c:Cu} {a:Nat} {x:Nat->Rat} {q:Nat} (hq:q<c.m):eZ rl (.rat (x q) sK) (.rat (pq c a x 0 q) sK):=cB rfl (by unfold pq;rw[if_neg aa])
theorem aaZ {rl:List (Nat×Nat)} {c:Cu} {a j:Nat} {x:Nat->Rat} {q:Nat} {v:Rat} (hq:q<c.m) (hv:v=gP (c.f j) a):eZ rl (.rat (bif q==j then v else pq c a x j q) (bif q==j then sK else sK)) (.rat (pq c a x (j+1) q) sK):=by
 refine cB rfl ?_
 rw[Bool.cond_self]
 congr 1
 by_cases h:q=j
 ·subst h
  rw[beq_self_eq_true,cond_true,hv];unfold pq;rw[if_pos aa]
 ·rw[beq_eq_false_iff_ne.2 h,cond_false];unfold pq
  by_cases h2:q<j
  ·rw[if_pos (.inl h2),if_pos (.inl aa)]
  ·rw[if_neg aa,if_neg aa]
theorem ald {x:Nat->Rat} {m:Nat}:oS (fun i=>.rat (x i) sK) m sK:=TN aY
theorem four {a:Nat} (ha:a<4):a=0\/a=1\/a=2\/a=3:=aa
theorem anA {c:Cu} {i:Int} {l a j:Nat} {g x:Nat->Rat} {h:Pl} (ha:a<4):aG T qz [23] 60 yc [part pn [1,0,1,0,0]] ⟨aB yc (Cc c i l g a j),jL c x h,4⟩=
  some (fork (decide ((j:Int)<c.m)) (aj [(0:Int)<=j/\(j:Int).toNat<c.m,0<1] (aj [(0:Int)<=a/\(a:Int)<4,0<1,(0:Int)<=j/\(j:Int).toNat<c.m,(j:Int).toNat+0<c.m] (aj [-(2:Int)^63<=(j:Int)+1/\(j:Int)+1<(2:Int)^63]
   (leaf normal ([.int .i64 i,ls g l,.ptr 0 0 3 0 [],.ptr 1 0 12 0 [],.ptr 2 0 12 0 [],.own 3 3 0 c.m,.int .i64 a,.int .i64 a,pU c.f c.m sK,.int .i64 c.m,.int .i64 ((j:Int)+1)],(3,⟨true,true,3,c.m,fun q=>.rat (bif q==(j:Int).toNat+0 then gP (c.f (j:Int).toNat) a else x q) (bif q==(j:Int).toNat+0 then sK else sK)⟩)::[(2,fe h sB),(1,fe ⟨⟨0,0,0⟩,0⟩ 1),(0,qS c sK)]))))) (leaf (exit 2) (Cc c i l g a j,jL c x h))):=by
 rcases four ha with rfl|rfl|rfl|rfl<;>kernel_rfl
theorem VB {c:Cu} {i:Int} {l a j:Nat} {g x:Nat->Rat} {h:Pl} (ha:a<4):aG T qz [] 60 jr [part pn [1,1]] ⟨aB yc (Cc c i l g a j),jL c x h,4⟩=
  some (aj [0<1,0<1,c.m=c.m,bt (fun i=>.rat (c.k i) sK) c.n sK,bt (fun i=>.rat (g i) sK) l sK,oS (fun i=>.rat (x i) sK) c.m sK,(1:Int)<=c.p,c.p<=6,c.n<2^40,c.m<2^40,-(2:Int)^40<i,i<2^40,(0:Int)<=a/\(a:Int)<4,0<1]
   (leaf normal (lE c i l g a,[(3,lX c.m x),(2,⟨false,true,12,1,fun j=>if(j==0)=true then .agg ((bD h sB).kids.set a (.rat (nk c.n c.k c.p.toNat c.m x i l g) sB))else bD h sB⟩),(1,fe ⟨⟨0,0,0⟩,0⟩ 1),(0,qS c sK)]))):=by
 rcases four ha with rfl|rfl|rfl|rfl<;>kernel_rfl
theorem ad4 {rl:List (Nat×Nat)} {G:Nat->Rat} {a:Nat} (ha:a<4):eZ rl (.agg ((bD (pJ G a) sB).kids.set a (.rat (G a) sB))) (bD (pJ G (a+1)) sB):=by
 rcases four ha with rfl|rfl|rfl|rfl<;>exact cB rfl rfl
theorem anL {c:Cu} {i:Int} {l a:Nat} {g x:Nat->Rat} {cx:Ctx} {Q:ax->aK->Prop} (ha:a<4) (hk:Kept [] cx) (hp1:1<=c.p) (hp6:c.p<=6) (hn:c.n<2^40) (hm2:c.m<2^40) (hi:-2^40<i) (hi2:i<2^40)
  (hQ:∀s',(∃ρ,Le cx ρ s' ⟨aB jr (lE c i l g a),jL c (A8 c (a+1)) (pJ (hH c i l g) (a+1)),4⟩)->au P cx p7.ntmps (part pg [1,1,1]) s' Q):
  au P cx p7.ntmps pn ⟨aB jr (lE c i l g a),jL c x (pJ (hH c i l g) a),4⟩ (inBlock 1 (dM (fun s'=>au P cx p7.ntmps (part pg [1,1,1]) s' Q) Q)):=by
 refine au.oV hT vS hm (x:=pn) [1,0,1] (i:=2) (y:=part pn [1,0,1,0,0]) ag ag ag hk (f1:=[]) (f2:=[23]) 60 yc 4 (fun j:Nat=>Cc c i l g a j) (fun j=>jL c (pq c a x j) (pJ (hH c i l g) a)) (fun j=>j<=c.m) (fun j=>j=c.m) (fun j=>c.m-j) (fun _=>False) ⟨_,Z2,?_⟩ (fun j hj=>⟨_,anA ha,?_⟩) (fun j s' hj hle=>?_) (fun _ _ h=>h.elim)
 ·simp only[ah.all,aA]
  exact⟨aa,0,Nat.zero_le _,[(0,0),(1,1),(2,2),(3,3)],rfl,rfl,rfl,bJ rfl rfl rfl (fun q hq=>ajc hq) (aC (aC (aC trivial)))⟩
 ·simp only[ah.all,aA,bq,bw,bn,Nat.add_zero]
  exact⟨fun h1=>⟨⟨aa,aa⟩,⟨aa,aa,aa,aa⟩,aa,j+1,aa,by dsimp only;omega,[(0,0),(1,1),(2,2),(3,3)],rfl,rfl,rfl,bJ rfl rfl rfl (fun q hq=>aaZ hq rfl) (aC (aC (aC trivial)))⟩,
   fun h1=>⟨rfl,j,aa,[(0,0),(1,1),(2,2),(3,3)],rfl,rfl,rfl,bJ rfl rfl rfl (fun q hq=>cB rfl rfl) (aC (aC (aC trivial)))⟩⟩
 ·subst hj
  simp only[Yi]at hle
  rw[show behind pn [1,0,1]=[part pn [1,1]]from by kernel_rfl]
  refine aH.weak rfl hle (aH.bC hT vS hm 60 jr (VB ha) ag ?_)
  simp only[ah.all,aA]
  refine⟨⟨aa,aa,trivial,bP aY,bP aY,ald,hp1,hp6,hn,hm2,hi,hi2,aa,aa⟩,fun s'' hs''=>hQ s'' (cU.le ⟨[(0,0),(1,1),(2,2),(3,3)],rfl,rfl,rfl,bJ rfl rfl rfl (fun q hq=>cB rfl rfl) (bG rfl rfl (ad4 ha) (aC (aC trivial)))⟩ hs'' hk)⟩
theorem alU {c:Cu} {i:Int} {l:Nat} {g:Nat->Rat} (hp1:1<=c.p) (hp6:c.p<=6) (hn:c.n<2^40) (hm2:c.m<2^40) (hi:-2^40<i) (hi2:i<2^40) (K:Nat):aQ P zQ K [dY c sK sK,.int .i64 i,ls g l] [] (aJ (bD (oI c i l g) sB) []):=by
 refine fc (r:=aJ (bD (oI c i l g) sB) []) hT TX rfl aX rfl (fun _ cx h00=>?_) K []
 have hk:=gV h00
 refine au.tV hT vS hm [1,1,1,0,1] (i:=0) (y:=pg) (z:=part Gz [1,1,1,1]) ag ag ag TX.dst hk (f1:=[]) 60 jr 4 (fun a:Nat=>lE c i l g a) (fun a=>jL c (A8 c a) (pJ (hH c i l g) a)) (fun a=>a<=4) (fun a=>a=4) (fun a=>4-a) (fun _=>False) ⟨_,aa1,?_⟩ (fun a ha=>?_) (fun a ha=>?_) (fun _ _ h=>h.elim)
 ·simp only[ah.all,aA,bn]
  exact⟨⟨aa,aa⟩,0,aa,[(0,0),(1,4096),(2,8192),(3,24576)],rfl,rfl,rfl,bJ rfl rfl rfl (fun q hq=>.inr ⟨rfl,bO rfl (by decide)⟩) (bG rfl rfl (.inr ⟨rfl,b7 (show fq [.rat _ _,.rat _ _,.rat _ _,.rat _ _] [.rat _ _,.rat _ _,.rat _ _,.rat _ _]from⟨bO rfl (by decide),bO rfl (by decide),bO rfl (by decide),bO rfl (by decide),trivial⟩)⟩) (aC (aC trivial)))⟩
 ·have re:∀{x:Nat->Rat} {h:Pl},cU [] (lE c i l g a,jL c x h) (lE c i l g a) (jL c x h) 4:=
   fun {x h}=>⟨[(0,0),(1,1),(2,2),(3,3)],rfl,rfl,rfl,bJ rfl rfl rfl (fun q hq=>cB rfl rfl) (aC (aC (aC trivial)))⟩
  refine au.ow hT vS hm (y:=pg) (x1:=pn) (zb:=part pg [1,1,1]) [1,1,0] (j:=1) ag ag ag ag hk (f1:=[17]) 60 jr 4 (fun _:Unit=>lE c i l g a) (fun _=>jL c (A8 c a) (pJ (hH c i l g) a)) (fun _=>a<4) ⟨_,aiq,?_⟩ (fun _ ha'=>?_)
  ·simp only[ah.all,aA,bq,bw]
   exact⟨fun h1=>⟨(),aa,re⟩,fun h1 s' hs'=>⟨rfl,a,aa,re.le hs' hk⟩⟩
  have nx:∀s',(∃ρ,Le cx ρ s' ⟨aB jr (lE c i l g a),jL c (A8 c (a+1)) (pJ (hH c i l g) (a+1)),4⟩)->au P cx p7.ntmps (part pg [1,1,1]) s' (AQ cx jr (fun a:Nat=>lE c i l g a) (fun a=>jL c (A8 c a) (pJ (hH c i l g) a)) 4 (fun a=>a<=4) (fun a=>a=4) (fun a=>4-a) 0 (fun s'=>∃v,False/\bA jr s'=some v) a):=fun s' hle=>by
   refine au.jn hle (au.bC hT vS hm 60 jr ajx ag ?_)
   simp only[ah.all,aA]
   exact⟨aa,fun s'' hs''=>⟨a+1,aa,by dsimp only;omega,cU.le ⟨[(0,0),(1,1),(2,2),(3,3)],rfl,rfl,rfl,bJ rfl rfl rfl (fun q hq=>cB rfl rfl) (aC (aC (aC trivial)))⟩ hs'' hk⟩⟩
  exact anL ha' hk hp1 hp6 hn hm2 hi hi2 nx
 ·subst ha
  refine au.gr ((aH.fin hT vS hm 60 age ag ?_).mono fun _ _ h=>.inl h)
  simp only[ah.all,aA]
  exact⟨⟨aa,aa⟩,aa,.refl _⟩
def Jv:Spec:=cq (kC (sA sK sK) (kC kI (kC (kL sK) kN))) (fun a=>bD (oI a.1 a.2.1 a.2.2.1.1 a.2.2.1.2) sB) fun a=>[1<=a.1.p,a.1.p<=6,a.1.n<2^40,a.1.m<2^40,-2^40<a.2.1,a.2.1<2^40]
theorem TS:aW P Jv zQ:=ck fun⟨c,i,⟨l,g⟩,_⟩ K hn=>alU hn.1 hn.2.1 hn.2.2.1 hn.2.2.2.1 hn.2.2.2.2.1 hn.2.2.2.2.2 K
theorem W6:aT P G3 EX (ay EX):=aU Proofs.Tryz.func136 ag ag ag
theorem ajC:aT P D9 qC (ay qC):=aU Proofs.Tryz.func75 ag ag ag
theorem Zw:aT P FF mG (ay mG):=aU Proofs.Tryz.func179 ag ag ag
abbrev Bm:List Nat:=[0,1,4,5]
abbrev L5 (n m:Nat) (f g:Nat->Rat) (i:Nat):List AV:=[br f n sU,br g m sU,.bool false,.int .i64 i]
abbrev yT:Code:=ay EX
theorem VI {n m:Nat} {f g:Nat->Rat}:aG T nW [10] 60 Bm (before yT [1,1,0,1]) ⟨aP 0 [br f n sU,br g m sU],[],0⟩=
  let c2:AV:=aq 3 m fun i=>rat (g i) 4294967296;let c1:AV:=aq 3 n fun i=>rat (f i) 4294967296;some (fork ((↑n:Int)!=(↑m:Int)) (leaf ret ([c1,c2,AV.bool false,tuple []],[])) (leaf normal ([c1,c2,AV.bool false,int i64 0],[]))):=ag
theorem aiN {n m i:Nat} {f g:Nat->Rat}:aG T nW [14,26] 60 Bm [part yT [1,1,0,1,0,0]] ⟨aB Bm (L5 n m f g i),[],0⟩=
  let c4:AV:=aq 3 m fun i=>rat (g i) 4294967296;let c3:AV:=aq 3 n fun i=>rat (f i) 4294967296;let c2:Int:=(↑i:Int);let c5:Int:=c2+1;let c1:List AV×aE:=([c3,c4,AV.bool false,int i64 c2],[]);some (fork (decide (c2<(↑n:Int))) (aj [(0:Int)<=c2/\c2.toNat<n,(0:Int)<=c2/\c2.toNat<m] (fork (!decide (f c2.toNat=g c2.toNat)) (leaf ret c1) (aj [-(2:Int)^63<=c5/\c5<2^63] (leaf normal ([c3,c4,AV.bool false,int i64 c5],[]))))) (leaf (exit 0) c1)):=ag
theorem ac2 {n m i:Nat} {f g:Nat->Rat}:cj T nW [] 60 EX [part yT [1,1,1]] ⟨aB Bm (L5 n m f g i),[],0⟩=
  some (leaf ret [AV.bool true]):=ag
def wu (n:Nat) (f:Nat->Rat) (m:Nat) (g:Nat->Rat):Bool:=decide (n=m/\∀i,i<n->f i=g i)
theorem aax {n m:Nat} {f g:Nat->Rat} (hn:n<2^40) (hm2:m<2^40) (K:Nat):aQ P G3 K [br f n sU,br g m sU] [] (aJ (.bool (wu n f m g)) []):=by
 refine ij (r:=aJ (.bool (wu n f m g)) []) hT Mt hm W6 rfl aX rfl [1,1,0,1] (i:=0) (y:=part yT [1,1,0,1,0,0]) (z:=part yT [1,1,1]) ag ag ag (f1:=[10]) (f2:=[14,26]) (f3:=[]) 60 Bm 0
  (fun i:Nat=>L5 n m f g i) (fun _=>[]) (fun i=>i<=n/\n=m/\∀j,j<i->f j=g j) (fun i=>i=n/\n=m/\∀j,j<i->f j=g j) (fun i=>n-i) (fun _=>⟨⟨_,VI,?_⟩,fun i ⟨h1,h2,h3⟩=>⟨_,aiN,?_⟩,fun i ⟨h1,h2,h3⟩=>⟨_,ac2,?_⟩⟩) K []
 ·simp only[ah.all,aA,bne_iff_ne,ne_eq,bne_eq_false_iff_eq]
  exact⟨fun h=>⟨[.bool false],ag,gl (decide_eq_false (fun hh=>h aa)).symm⟩,fun h=>⟨0,⟨aa,aa,fun j hj=>aa⟩,.vals rfl⟩⟩
 ·simp only[ah.all,aA,bq,bw,Bool.not_eq_true',Bool.not_eq_false',bn]
  (repeat' with_reducible first|refine And.intro ?_ ?_|intro _)
  all_goals first|omega|skip
  ·rename_i a b
   exact⟨[.bool false],ag,gl (decide_eq_false (fun hh=>b (hh.2 i aa))).symm⟩
  ·rename_i a b
   refine⟨i+1,⟨aa,h2,fun j hj=>?_⟩,by dsimp only;omega,.vals rfl⟩
   by_cases hj2:j=i
   ·subst hj2;exact b
   ·exact h3 j aa
  ·exact⟨rfl,i,⟨aa,h2,h3⟩,.vals rfl⟩
 ·subst h1
  exact gl (decide_eq_true ⟨h2,h3⟩).symm
def Tm:Spec:=cq (kC (kL sU) (kC (kL sU) kN)) (fun a=>.bool (wu a.1.1 a.1.2 a.2.1.1 a.2.1.2)) fun a=>[a.1.1<2^40,a.2.1.1<2^40]
theorem YN:aW P Tm G3:=ck fun _ K hn=>aax hn.1 hn.2 K
def nV (n:Nat) (k:Nat->Rat) (a b:Rat) (i:Nat):Rat:=a+(k i-k 0)/(k (n-1)-k 0)*(b-a)
abbrev oB (m:Nat) (k:Nat->Rat) (s:Nat):ak:=⟨true,true,3,m,fun i=>.rat (k i) s⟩
theorem aoQ {c:Nat} {u v:AV} (hv:v.isAgg=false) (h:bN u v):bN (.bM c u) (.bM c v):=by
 refine⟨rfl,fun M w cs hc=>?_⟩
 cases hc with
 |bM _ h1 h2=>cases h2;exact .bM hv (h.2 _ _ _ h1) .nil
def adC (s:Nat):Kind (Nat×(Nat->Rat)):=⟨fun v=>match v with
 |.bM c v=>match(kL s).read v with
  |some (a,q)=>some (a,(c=a.1)::q)
  |none=>none
 |_=>none,fun a=>.bM a.1 (br a.2 a.1 s),fun {v a q} h hq=>by
  split at h
  ·split at h
   ·rename_i h1
    simp only[az,Prod.mk.injEq]at h
    obtain⟨rfl,rfl⟩:=h
    obtain⟨q1,q2⟩:=Ht.1 hq
    subst q1
    exact aoQ rfl ((kL s).ok h1 q2)
   ·simp at h
  ·simp at h⟩
abbrev ED:FuncId:=afS
abbrev Ge:Func:=YC
def dB (k:Nat->Rat) (t:Rat):Nat->Nat
 |0=>0
 |n+1=>if dB k t n=n/\k n<=t then n+1 else dB k t n
def dK (k:Nat->Rat) (t:Rat) (p j:Nat):Rat:=if j<p then k j else if j=p then t else k (j-1)
abbrev zU:List Nat:=[3,9,10,11]
abbrev HO (n:Nat) (k:Nat->Rat) (s i:Nat):List AV:=[.bM n (.own 0 3 0 i),br k n s,.int .i64 n,.int .i64 i]
abbrev Gy:bf:=cG::iR
abbrev AN:List Nat:=[0,3,5]
abbrev II (n:Nat) (k:Nat->Rat) (s i:Nat):List AV:=[br k n s,.ptr 0 0 3 0 [],.int .i64 i]
abbrev yQ:Code:=ay F6
def Ve (w:Nat):Spec:=cq (kC (adC w) (kC kI (kC (kL w) kN))) (fun a=>br (dK a.1.2 (a.2.2.1.2 0) a.2.1.toNat) (a.1.1+1) w) fun a=>[0<=a.2.1,a.2.1<=a.1.1,a.2.2.1.1=1,a.1.1<2^40]
def St (s w:Nat):Spec:=cq (kC (kL s) kN) (fun a=>.bM a.1.1 (br a.1.2 a.1.1 w)) fun a=>[a.1.1<2^40]
def DB (s w:Nat):bf:=cG::(tu,St s w)::(ED,Ve w)::iR
abbrev Bn:List Nat:=[0,3,5,6,7]
abbrev wM (n:Nat) (k:Nat->Rat) (s m i:Nat) (b:Bool):List AV:=[br k n s,.ptr 0 0 3 0 [],.own 1 3 0 m,.bool b,.int .i64 i]
abbrev AF:Code:=ay Fm
theorem Yp:aT P ED Ge (ay Ge):=aU Proofs.Tryz.func250 ag ag ag
theorem akf:aT P Dv F6 (ay F6):=aU Proofs.Tryz.func184 ag ag ag
theorem X7:aT P CW Fm (ay Fm):=aU Proofs.Tryz.func274 ag ag ag
theorem agV {n i s:Nat} {k:Nat->Rat} {t:Rat}:bU T [cG] [22,100031] 60 Ge (ay Ge) ⟨aP 0 [.bM n (br k n s),.int .i64 i,br (fun _=>t) 1 s],[],0⟩=
  let c11:Nat:=Int.toNat (0:Int);let c9:Int:=(↑n:Int);let c7:Int:=(2:Int)^63;let c4:Int:=(↑i:Int);let c14:Nat:=c4.toNat-c11;let c13:Prop:=(0:Int)<=c4;let c12:Nat:=0+c4.toNat;let c3:Int:=c9+(↑(1:Nat):Int);let c2:Int:=c4+(↑(1:Nat):Int);let c10:Nat:=0+c2.toNat;let c1:Nat:=c14+(c3-c4).toNat;let c8:Int:=(↑c1:Int);let c6:Nat:=c12+Min.min 1 (c8.toNat-c4.toNat);let c5:Nat:=c10+Min.min (c9.toNat-c4.toNat) (c8.toNat-c2.toNat);some (aj [c13/\c4<=c9/\c9<=c9] (fork (c4==c9) (aj [n<n+1/\(n+1)*((56:Nat)+1)*2<=2^47] (leaf ret [aq 3 (n+1) fun i=>if i+0<n then rat (k (i+0)) s else rat t s])) (aj [-c7<=c3/\c3<c7] (aj [decide (c3>c9)=true] (aj [(0:Int)<=0/\c13/\c4<=c9,-c7<=c3/\c3<c7,-c7<=c3-c4/\c3-c4<c7,(0:Int)<c3-c4/\n-c11<c1/\c1*((56:Nat)+1)*2<=2^47] (aj [c13/\c4<=c8/\c8<=c8/\c8<=c8] (aj [-c7<=c2/\c2<c7,(0:Int)<=c2/\c2<=c8/\c8<=c8/\c8<=c8,c13/\c4<=c9/\c9<=c9] (leaf ret [aq 3 c1 fun i=>if c10<=i+0/\i+0<c5 then rat (k (i+0-c10+c4.toNat)) s else if c12<=i+0/\i+0<c6 then rat t s else if i+0<c14 then rat (k (i+0+c11)) s else rat 0 1])))))))):=ag
theorem Z5 {n s:Nat} {k:Nat->Rat}:aG T Gy [] 60 zU (before nP [1,1,0,1]) ⟨aP 0 [br k n s],[],0⟩=
  let c1:Int:=(↑n:Int);some (aj [(0:Int)<=0/\(0:Int)<=c1/\c1<=2^47/\c1*(↑(56:Nat):Int)<=2^47] (leaf normal ([bM c1.toNat (own 12288 3 0 0),aq 3 n fun i=>rat (k i) s,int i64 c1,int i64 0],[(12288,ak.mk true true 3 0 fun x=>rat 0 1)]))):=ag
theorem acs {n i s w:Nat} {k x:Nat->Rat}:aG T Gy [12] 60 zU [part nP [1,1,0,1,0,0]] ⟨aB zU (HO n k s i),[(0,oB i x w)],1⟩=
  let c5:Int:=(↑n:Int);let c3:Nat:=i+1;let c2:AV:=aq 3 n fun i=>rat (k i) s;let c1:Int:=(↑i:Int);let c4:Int:=c1+1;some (fork (decide (c1<c5)) (aj [(0:Int)<=c1/\c1.toNat<n,(0:Nat)<1] (aj [(0:Nat)<1,s<2^42,(1:Nat)<2^42,(1:Nat)*3<=2^24,c3<=n,c3*((56:Nat)+1)*2<=2^47] (aj [-(2:Int)^63<=c4/\c4<2^63] (leaf normal ([bM n (own 40961 3 0 c3),c2,int i64 c5,int i64 c4],[(40961,ak.mk true true 3 c3 fun i_1=>if i_1<i then rat (x i_1) w else nth [rat (k c1.toNat+0) (s+1+1)] (rat 0 1) (i_1-i+0))]))))) (leaf (exit 0) ([bM n (own 0 3 0 i),c2,int i64 c5,int i64 c1],[(0,ak.mk true true 3 i fun i=>rat (x i) w)]))):=ag
theorem aie {n i s w:Nat} {k x:Nat->Rat}:cj T Gy [] 60 Ek [part nP [1,1,1]] ⟨aB zU (HO n k s i),[(0,oB i x w)],1⟩=
  some (leaf ret [bM n (aq 3 i fun i=>rat (x (i+0)) w)]):=ag
theorem ZR {n s r w:Nat} {k:Nat->Rat} {t:Rat}:aG T (DB s w) [] 60 AN (before yQ [1,1,0]) ⟨aP 0 [br k n s,.rat t r],[],0⟩=
  some (leaf normal ([aq 3 n fun i=>rat (k i) s,ptr 0 0 (aV (rat t r)).size 0 [],int i64 0],[(0,ak.mk false true (aV (rat t r)).size 1 fun x=>rat t r)])):=ag
theorem ZU {n i s r w:Nat} {k:Nat->Rat} {t:Rat}:aG T (DB s w) [10,18] 60 AN [part yQ [1,1,0,0,0]] ⟨aB AN (II n k s i),[(0,tP t r)],1⟩=
  let c7:AV:=aq 3 n fun i=>rat (k i) s;let c5:AV:=ptr 0 0 3 0 [];let c4:Nat×ak:=((0:Nat),aS fun x=>rat t r);let c3:Int:=(↑i:Int);let c8:Int:=c3+1;let c6:Bool:=decide (c3<(↑n:Int));let c2:ah (List AV×aE):=leaf (exit 0) ([c7,c5,int i64 c3],[c4]);let c1:ah (List AV×aE):=aj [-(2:Int)^63<=c8/\c8<2^63] (leaf normal ([c7,c5,int i64 c8],[c4]));some (fork c6 (aj [c6=true,(0:Int)<=c3/\c3.toNat<n,(0:Nat)<1,s<2^42,r<2^42] (fork (bif true then decide (eV (k c3.toNat) t<=0)else false) c1 c2)) (aj [c6=false] (fork false c1 c2))):=ag
theorem aaH {n i s r w:Nat} {k:Nat->Rat} {t:Rat}:cj T (DB s w) [] 60 F6 [part yQ [1,1,1]] ⟨aB AN (II n k s i),[(0,tP t r)],1⟩=
  let c3:AV:=rat 0 1;let c2:Prop:=n<2^40;let c1:AV:=rat (t+0) (r+1+1);some (aj [bt (fun i=>rat (k i) s) n s,c2,(0:Nat)<1,r<2^42,(1:Nat)<2^42,(1:Nat)*3<=2^24,n=n,bt (fun i=>rat (aL (rat (k i) s)) w) n w,bt (fun i=>nth [c1] c3 (i+0)) 1 w,(0:Int)<=(↑i:Int),(↑i:Int)<=(↑n:Int),(1:Nat)=1,c2] (leaf ret [aq 3 (n+1) fun i_1=>rat (dK (fun i=>aL (rat (aL (rat (k i) s)) w)) (aL (nth [c1] c3 ((0:Nat)+0))) (↑i:Int).toNat i_1) w])):=ag
theorem akN {n s r:Nat} {k:Nat->Rat} {t:Rat}:aG T oq [] 60 Bn (before AF [1,1,1,0,1]) ⟨aP 0 [br k n s,.rat t r],[],0⟩=
  some (leaf normal ([aq 3 n fun i=>rat (k i) s,ptr 0 0 (aV (rat t r)).size 0 [],nil,AV.bool false,int i64 0],[(0,ak.mk false true (aV (rat t r)).size 1 fun x=>rat t r)])):=ag
theorem aiL {n s r w m i:Nat} {b:Bool} {k x:Nat->Rat} {t:Rat}:aG T oq [11,16,24] 60 Bn [part AF [1,1,1,0,1,0,0]] ⟨aB Bn (wM n k s m i b),[(1,oB m x w),(0,tP t r)],2⟩=
  let c12:AV:=rat 0 1;let c11:Prop:=1*3<=2^24;let c9:AV:=aq 3 n fun i=>rat (k i) s;let c7:Nat:=m+1;let c6:AV:=ptr 0 0 3 0 [];let c5:Nat×ak:=((0:Nat),aS fun x=>rat t r);let c3:Int:=(↑i:Int);let c15:Rat:=k c3.toNat;let c14:Nat:=c7+1;let c13:Int:=c3+1;let c10:Prop:=(0:Int)<=c3/\c3.toNat<n;let c4:List Prop:=[c11,c7*((56:Nat)+1)*2<=2^47];let c8:Prop:=-(2:Int)^63<=c13/\c13<2^63;let c2:ah (List AV×aE):=aj (c10::c4) (aj [c8] (leaf normal ([c9,c6,own 86018 3 0 c7,AV.bool b,int i64 c13],[(86018,ak.mk true true 3 c7 fun i=>if i<m then rat (x i) w else nth [rat c15 s] c12 (i-m+0)),c5])));let c1:ah (List AV×aE):=aj (((0:Nat)<1)::c4) (aj [c10,c11,c14*((56:Nat)+1)*2<=2^47] (aj [c8] (leaf normal ([c9,c6,own 110594 3 0 c14,AV.bool true,int i64 c13],[(110594,ak.mk true true 3 c14 fun i=>if i<c7 then if i<m then rat (x i) w else nth [rat t r] c12 (i-m+0)else nth [rat c15 s] c12 (i-c7+0)),c5]))));some (fork (decide (c3<(↑n:Int))) (fork (!b) (aj [(!b)=true,(0:Nat)<1,c10,r<2^41,s<2^41] (fork (bif true then decide (eV t c15<0)else false) c1 c2)) (aj [(!b)=false] (fork false c1 c2))) (leaf (exit 0) ([c9,c6,own 1 3 0 m,AV.bool b,int i64 c3],[(1,ak.mk true true 3 m fun i=>rat (x i) w),c5]))):=ag
theorem aiY {n s r w m i:Nat} {b:Bool} {k x:Nat->Rat} {t:Rat}:cj T oq [37] 60 Fm [part AF [1,1,1,1]] ⟨aB Bn (wM n k s m i b),[(1,oB m x w),(0,tP t r)],2⟩=
  some (fork (!b) (aj [(0:Nat)<1,(1:Nat)*3<=2^24,(m+1)*((56:Nat)+1)*2<=2^47] (leaf ret [aq 3 (m+1) fun i=>if i+0<m then rat (x (i+0)) w else nth [rat t r] (rat 0 1) (i+0-m+0)])) (leaf ret [aq 3 m fun i=>rat (x (i+0)) w])):=ag
theorem KD {Γ:bf} (h:bu P Γ):bu P (cG::Γ):=aI (fun _ _ _ _ h=>nomatch h) h
theorem J1 {a b:Rat}:eV a b<=0↔a<=b:=by
 have:=@vN a b
 constructor
 ·intro h
  exact Rat.not_lt.1 fun h'=>by have:=vN.2 h';omega
 ·intro h
  have:¬eV a b>0:=fun h'=>Rat.not_lt.2 h (vN.1 h')
  omega
theorem Ia {k:Nat->Rat} {t:Rat}:∀{n:Nat},dB k t n<=n
 |0=>aY
 |n+1=>by
  have:=Ia (k:=k) (t:=t) (n:=n)
  unfold dB;split<;>omega
theorem Me {k:Nat->Rat} {t:Rat} {n:Nat} (h:dB k t n=n) (h2:k n<=t):dB k t (n+1)=n+1:=by unfold dB;rw[if_pos ⟨h,h2⟩]
theorem KQ {k:Nat->Rat} {t:Rat} {i:Nat} (h:dB k t i=i) (h2:t<k i):∀{n:Nat},i<=n->dB k t n=i
 |0,hn=>by
    have:i=0:=aa
    subst this;rfl
 |n+1,hn=>by
  by_cases he:i=n+1
  ·subst he;exact h
  ·have ih:=KQ h h2 (n:=n) aa
   unfold dB
   rw[if_neg,ih]
   rintro⟨g1,g2⟩
   have:i=n:=aa
   subst this
   exact absurd h2 (Rat.not_lt.2 g2)
theorem agL {n i s:Nat} {k:Nat->Rat} {t:Rat} (hi:i<=n) (hn:n<2^40) (K:Nat):aQ P ED K [.bM n (br k n s),.int .i64 i,br (fun _=>t) 1 s] [] (aJ (br (dK k t i) (n+1) s) []):=by
 refine bZ (r:=aJ (br (dK k t i) (n+1) s) []) hT (KD bz) hm Yp rfl aX rfl 60 agV (fun _=>?_) K []
 simp only[ah.all,aA,bq,bw]
 have w1:((1:Nat):Int)=1:=rfl
 simp only[w1,bn,Int.toNat_zero,Nat.sub_zero,Nat.zero_add,Nat.add_zero,beq_iff_eq,beq_eq_false_iff_ne,ne_eq,Int.ofNat_inj]
 refine⟨aa,fun h=>⟨aa,dS fun j hj=>dO ?_⟩,fun h=>?_⟩
 ·subst h
  unfold dK
  by_cases h1:j<i
  ·rw[if_pos h1,if_pos h1]
  ·rw[if_neg h1,if_neg h1,if_pos aa]
 ·have eN:i+((n:Int)+1-i).toNat=n+1:=aa
  have e2:((i:Int)+1).toNat=i+1:=aa
  simp only[eN,e2]
  refine⟨aa,aa,aa,aa,aa,dS fun j hj=>dO ?_⟩
  unfold dK
  by_cases h1:j<i
  ·rw[if_neg aa,if_neg aa,if_pos h1,if_pos h1]
  ·by_cases h2:j=i
   ·rw[if_neg aa,if_pos aa,if_neg h1,if_pos h2]
   ·rw[if_pos aa,if_neg h1,if_neg h2,show j-(i+1)+i=j-1 by omega]
theorem amB:bu P Gy:=KD jU
theorem anr {n s w:Nat} {k:Nat->Rat} (h:s+2<=w) (hw:w<2^40) (hn:n<2^40) (K:Nat):aQ P tu K [br k n s] [] (aJ (.bM n (br k n w)) []):=by
 refine ij (r:=aJ (.bM n (br k n w)) []) hT amB hm KL rfl aX rfl [1,1,0,1] (i:=0) (y:=part nP [1,1,0,1,0,0]) (z:=part nP [1,1,1]) ag ag ag (f1:=[]) (f2:=[12]) (f3:=[]) 60 zU 1
  (fun i:Nat=>HO n k s i) (fun i=>[(0,oB i k w)]) (fun i=>i<=n) (fun i=>i=n) (fun i=>n-i) (fun _=>⟨⟨_,Z5,?_⟩,fun i hi=>⟨_,acs,?_⟩,fun i hi=>⟨_,aie,?_⟩⟩) K []
 ·simp only[ah.all,aA]
  exact⟨aa,0,Nat.zero_le _,[(0,12288)],rfl,by rw[bn];rfl,rfl,bJ rfl rfl rfl (fun j hj=>absurd hj (Nat.not_lt_zero j)) trivial⟩
 ·simp only[ah.all,aA,bq,bw,bn,Nat.add_zero]
  exact⟨fun h1=>⟨aa,aa,aa,i+1,aa,by dsimp only;omega,[(0,40961)],rfl,rfl,rfl,bJ rfl rfl rfl (fun j hj=>kU (fun _ _=>rfl) (Rat.add_zero _) aY aa hj) trivial⟩,
   fun h1=>⟨rfl,i,aa,[(0,0)],rfl,rfl,rfl,bk trivial⟩⟩
 ·subst hi
  simp only[ah.all,aA]
  exact .refl _
theorem aml {s w:Nat} (h:s+2<=w) (hw:w<2^40):aW P (St s w) tu:=ck fun⟨⟨n,k⟩,_⟩ K hn=>anr h hw hn K
theorem ae3 {w:Nat}:aW P (Ve w) ED:=ck fun⟨⟨n,k⟩,i,⟨m,g⟩,_⟩ K hn=>by
 obtain⟨h1,h2,h3,h4⟩:=hn
 simp only at h1 h2 h3 h4
 subst h3
 have:=gZ (agL (k:=k) (t:=g 0) (s:=w) (i:=i.toNat) (n:=n) aa h4 K) (args:=[.bM n (br k n w),.int .i64 i,br g 1 w]) rfl ⟨.refl _,bK aa,dS fun j hj=>dO (by rw[Nat.lt_one_iff.1 hj]),trivial⟩ []
 exact this
theorem abh {s w:Nat} (h:s+2<=w) (hw:w<2^40):bu P (DB s w):=KD (aI (aml h hw) (aI ae3 jU))
theorem abY {n s r w:Nat} {k:Nat->Rat} {t:Rat} (h:s+2<=w) (h2:r+2<=w) (hw:w<2^40) (hn:n<2^40) (K:Nat):aQ P Dv K [br k n s,.rat t r] [] (aJ (br (dK k t (dB k t n)) (n+1) w) []):=by
 refine ij (r:=aJ (br (dK k t (dB k t n)) (n+1) w) []) hT (abh h hw) hm akf rfl aX rfl [1,1,0] (i:=0) (y:=part yQ [1,1,0,0,0]) (z:=part yQ [1,1,1]) ag ag ag (f1:=[]) (f2:=[10,18]) (f3:=[]) 60 AN 1
  (fun i:Nat=>II n k s i) (fun _=>[(0,tP t r)]) (fun i=>i<=n/\dB k t i=i) (fun i=>i<=n/\i=dB k t n) (fun i=>n-i) (fun _=>⟨⟨_,ZR,?_⟩,fun i hi=>⟨_,ZU,?_⟩,fun i hi=>⟨_,aaH,?_⟩⟩) K []
 ·simp only[ah.all,aA]
  exact⟨0,⟨Nat.zero_le _,rfl⟩,[(0,0)],rfl,rfl,rfl,aC trivial⟩
 ·simp only[ah.all,aA,bq,bw,bn]
  simp only[cond_true,bq,bw,J1]
  exact⟨fun h1=>⟨⟨h1,aa,aa,aa,aa⟩,fun h2=>⟨aa,i+1,⟨aa,Me hi.2 h2⟩,by dsimp only;omega,[(0,0)],rfl,rfl,rfl,aC trivial⟩,
    fun h2=>⟨rfl,i,⟨aa,(KQ hi.2 (Rat.not_le.1 h2) aa).symm⟩,[(0,0)],rfl,rfl,rfl,aC trivial⟩⟩,
   fun h1=>⟨h1,fun h=>absurd h (by decide),fun _=>⟨rfl,i,⟨hi.1,by rw[show n=i by omega];exact hi.2.symm⟩,[(0,0)],rfl,rfl,rfl,aC trivial⟩⟩⟩
 ·obtain⟨hi,rfl⟩:=hi
  simp only[ah.all,aA]
  refine⟨⟨bP aY,aa,aa,aa,aa,aa,trivial,bP aY,fun j hj=>?_,aa,aa,trivial,aa⟩,dS fun j hj=>dO ?_⟩
  ·rw[Nat.lt_one_iff.1 hj];exact eR aa
  ·show AV.rat (dK k (t+0) ((dB k t n:Nat):Int).toNat j) w=_
   rw[Rat.add_zero,bn]
theorem IV {k:Nat->Rat} {t:Rat}:∀{n j:Nat},j<dB k t n->k j<=t
 |0,j,h=>by simp[dB]at h
 |n+1,j,h=>by
  unfold dB at h
  split at h
  ·rename_i g
   by_cases he:j=n
   ·subst he;exact g.2
   ·exact IV (n:=n) aa
  ·exact IV h
theorem PB {k:Nat->Rat} {t:Rat}:∀{n:Nat},dB k t n<n->t<k (dB k t n)
 |0,h=>aa
 |n+1,h=>by
  by_cases he:dB k t n=n
  ·by_cases h2:k n<=t
   ·rw[Me he h2]at h;omega
   ·have:dB k t (n+1)=n:=by rw[dB,if_neg (fun g=>h2 g.2),he]
    rw[this];exact Rat.not_le.1 h2
  ·have:dB k t (n+1)=dB k t n:=by rw[dB,if_neg (fun g=>he g.1)]
   rw[this]
   exact PB (by have:=Ia (k:=k) (t:=t) (n:=n);omega)
def mO (p i:Nat):Nat:=if i<=p then i else i+1
def qh (p i:Nat):Bool:=decide (p<i)
theorem uh {p i:Nat} (h:i<=p):mO p i=i/\qh p i=false:=⟨if_pos h,decide_eq_false aa⟩
theorem xZ {p i:Nat} (h:p<i):mO p i=i+1/\qh p i=true:=⟨if_neg aa,decide_eq_true h⟩
theorem Jo {n s r w p i m key:Nat} {b:Bool} {k:Nat->Rat} {t:Rat} {g:Nat->AV} (h1:iQ 2 [(0,0),(1,key)]=true) (h2:(key==0)=false) (h3:m=mO p (i+1)) (h4:b=qh p (i+1)) (h5:∀j,j<m->eZ [(0,0),(1,key)] (g j) (.rat (dK k t p j) w)):
  cU [] ([br k n s,.ptr 0 0 3 0 [],.own key 3 0 m,.bool b,.int .i64 ((i:Int)+1)],[(key,⟨true,true,3,m,g⟩),(0,tP t r)]) (wM n k s (mO p (i+1)) (i+1) (qh p (i+1))) [(1,oB (mO p (i+1)) (dK k t p) w),(0,tP t r)] 2:=by
 subst h3 h4
 exact⟨[(0,0),(1,key)],by rw[h1];rfl,rfl,rfl,bJ rfl nS rfl h5 (bG rfl ((Mj h2).trans nS) (cB rfl rfl) trivial)⟩
theorem adm {n s r w:Nat} {k:Nat->Rat} {t:Rat} (h:s<=w) (h2:r<=w) (hw:w<2^40) (hn:n<2^40) (K:Nat):aQ P CW K [br k n s,.rat t r] [] (aJ (br (dK k t (dB k t n)) (n+1) w) []):=by
 obtain⟨p,hp⟩:∃p,dB k t n=p:=⟨_,rfl⟩
 have hpn:p<=n:=hp▸Ia
 have hlt:∀j,j<p->k j<=t:=fun j hj=>IV (hp▸hj)
 have hat:p<n->t<k p:=fun g=>by have:=PB (k:=k) (t:=t) (n:=n) aa;rwa [hp]at this
 rw[hp]
 refine ij (r:=aJ (br (dK k t p) (n+1) w) []) hT vD hm X7 rfl aX rfl [1,1,1,0,1] (i:=0) (y:=part AF [1,1,1,0,1,0,0]) (z:=part AF [1,1,1,1]) ag ag ag (f1:=[]) (f2:=[11,16,24]) (f3:=[37]) 60 Bn 2
  (fun i:Nat=>wM n k s (mO p i) i (qh p i)) (fun i=>[(1,oB (mO p i) (dK k t p) w),(0,tP t r)]) (fun i=>i<=n) (fun i=>i=n) (fun i=>n-i) (fun _=>⟨⟨_,akN,?_⟩,fun i hi=>⟨_,aiL,?_⟩,fun i hi=>⟨_,aiY,?_⟩⟩) K []
 ·simp only[ah.all,aA]
  refine⟨0,Nat.zero_le _,?_⟩
  show cU [] _ (wM n k s (mO p 0) 0 (qh p 0)) [(1,oB (mO p 0) (dK k t p) w),(0,tP t r)] 2
  rw[(uh (Nat.zero_le p)).1,(uh (Nat.zero_le p)).2]
  exact⟨[(0,0)],rfl,rfl,rfl,fV rfl aa aa (aC trivial)⟩
 ·simp only[ah.all,aA,bq,bw,bn,Nat.add_zero,cond_true,ni]
  have hx:¬(i:Int)<n->i=n:=fun h1=>aa
  have ex:∀{b:Bool} {m:Nat},b=qh p i->m=mO p i->cU [] ([br k n s,.ptr 0 0 3 0 [],.own 1 3 0 m,.bool b,.int .i64 i],[((1:Nat),oB m (dK k t p) w),(0,tP t r)]) (wM n k s (mO p i) i (qh p i)) [(1,oB (mO p i) (dK k t p) w),(0,tP t r)] 2:=fun {b m} hb hm'=>by
   subst hb hm'
   exact⟨[(0,0),(1,1)],rfl,rfl,rfl,bk (aC trivial)⟩
  rcases Nat.lt_trichotomy i p with hc|hc|hc
  ·obtain⟨e1,e2⟩:=uh (Nat.le_of_lt hc)
   obtain⟨e3,e4⟩:=uh (p:=p) (i:=i+1) hc
   rw[e1,e2]
   simp only[Bool.not_false]
   have hle:=hlt i hc
   exact⟨fun h1=>⟨fun _=>⟨⟨trivial,aa,aa,aa,aa⟩,fun h2=>absurd h2 (Rat.not_lt.2 hle),fun h2=>⟨aa,aa,i+1,aa,by dsimp only;omega,Jo rfl rfl e3.symm e4.symm fun j hj=>kU (fun _ _=>rfl) (by unfold dK;rw[if_pos hc]) aY h hj⟩⟩,fun h=>absurd h (by decide)⟩,fun h1=>aa⟩
  ·subst hc
   obtain⟨e1,e2⟩:=uh (Nat.le_refl i)
   obtain⟨e3,e4⟩:=xZ (p:=i) (i:=i+1) aa
   rw[e1,e2]
   simp only[Bool.not_false]
   have hval:∀j,j<i+1+1->eZ [(0,0),(1,110594)] (if j<i+1 then if j<i then rat (dK k t i j) w else nth [rat t r] (rat 0 1) (j-i)else nth [rat (k i) s] (rat 0 1) (j-(i+1))) (.rat (dK k t i j) w):=fun j hj=>by
    by_cases h1:j<i+1
    ·rw[if_pos h1]
     exact kU (x:=dK k t i) (y:=dK k t i) (fun _ _=>rfl) (by unfold dK;rw[if_neg aa,if_pos rfl]) aY h2 h1
    ·have:j=i+1:=aa
     subst this
     rw[if_neg h1,Nat.sub_self]
     exact .inr ⟨rfl,bO (by unfold dK;rw[if_neg aa,if_neg aa];rfl) h⟩
   exact⟨fun h1=>⟨fun _=>⟨⟨trivial,aa,aa,aa,aa⟩,fun h2=>⟨aa,aa,aa,i+1,aa,by dsimp only;omega,Jo rfl rfl e3.symm e4.symm hval⟩,fun h2=>absurd (hat aa) h2⟩,fun h=>absurd h (by decide)⟩,fun h1=>⟨rfl,i,aa,ex e2.symm e1.symm⟩⟩
  ·obtain⟨e1,e2⟩:=xZ hc
   obtain⟨e3,e4⟩:=xZ (p:=p) (i:=i+1) aa
   rw[e1,e2]
   simp only[Bool.not_true]
   exact⟨fun h1=>⟨fun h=>absurd h (by decide),fun _=>⟨trivial,fun h=>absurd h (by decide),fun _=>⟨aa,aa,i+1,aa,by dsimp only;omega,Jo rfl rfl e3.symm e4.symm fun j hj=>kU (fun _ _=>rfl) (by unfold dK;rw[if_neg aa,if_neg aa];rfl) aY h hj⟩⟩⟩,fun h1=>⟨rfl,i,aa,ex e2.symm e1.symm⟩⟩
 ·subst hi
  simp only[ah.all,aA,Nat.add_zero]
  by_cases hc:i=p
  ·subst hc
   rw[(uh (Nat.le_refl i)).1,(uh (Nat.le_refl i)).2]
   refine⟨fun _=>⟨aa,dS fun j hj=>?_⟩,fun h=>absurd h (by decide)⟩
   by_cases h1:j<i
   ·rw[if_pos h1];exact .refl _
   ·have:j=i:=aa
    subst this
    rw[if_neg h1,Nat.sub_self]
    exact bO (by unfold dK;rw[if_neg aa,if_pos rfl]) h2
  ·rw[(xZ (show p<i by omega)).1,(xZ (show p<i by omega)).2]
   exact⟨fun h=>absurd h (by decide),fun _=>.refl _⟩
def DM (s w:Nat):Spec:=cq (kC (kL s) (kC (gN s) kN)) (fun a=>br (dK a.1.2 a.2.1 (dB a.1.2 a.2.1 a.1.1)) (a.1.1+1) w) fun a=>[a.1.1<2^40]
theorem acI {s w:Nat} (h:s+2<=w) (hw:w<2^40):aW P (DM s w) Dv:=ck fun⟨⟨n,k⟩,t,_⟩ K hn=>abY h h hw hn K
theorem aaR {s w:Nat} (h:s+2<=w) (hw:w<2^40):aW P (DM s w) CW:=ck fun⟨⟨n,k⟩,t,_⟩ K hn=>adm aa aa hw hn K
theorem abg:aT P Hu Cb (ay Cb):=aU Proofs.Tryz.func183 ag ag ag
theorem ahi:aT P MI FH (ay FH):=aU Proofs.Tryz.func84 ag ag ag
def DY (c:Cu) (n:Nat) (k:Nat->Rat) (j:Nat):Pl:=oI c (fI c.n c.k (k (fC k n j))) c.p.toNat (fun q=>k (q+(j+1)))
def DE (c:Cu) (n:Nat) (k:Nat->Rat):Cu:=⟨c.p,n,k,n-c.p.toNat-1,DY c n k⟩
def Ej:bf:=nG::(tc,qu)::(yG,JK)::(vJ,sw)::(zQ,Jv)::iR
abbrev yh:List Nat:=[1,2,4,5,17,18]
abbrev Lr (n m:Nat) (k:Nat->Rat) (j:Nat):List AV:=[ls k n,.ptr 0 0 3 0 [],.ptr 1 0 3 0 [],.ptr 2 0 3 0 [],.int .i64 m,.int .i64 j]
abbrev IU (c:Cu) (n:Nat) (k:Nat->Rat) (h:Nat->Pl) (j:Nat):aE:=[(3,⟨true,true,12,j,fun i=>bD (h i) sB⟩),(2,⟨false,true,3,1,fun _=>.agg [.int .i64 c.p,ls k n,.own 3 12 0 j]⟩),(1,⟨false,true,3,1,fun _=>.agg [.int .i64 0,.nil,.nil]⟩),(0,qS c sK)]
abbrev xD:Code:=ay Cb
theorem yb {f:Nat->Pl} {m s s':Nat} (h:s<=s'):mA (fun i=>bD (f i) s) m s':=fun _ _=>qO rfl h
def UB:Spec:=cq (kC (sA sK sK) (kC (kL sK) kN)) (fun a=>dY (DE a.1 a.2.1.1 a.2.1.2) sK sB) fun a=>[Kn a.1.n a.1.p.toNat a.1.k,1<=a.1.p,a.1.p<=6,a.1.n<2^40,a.1.m<2^40,a.2.1.1<2^29,a.1.p+1<=a.2.1.1]
def qc (c:Cu) (t:Rat):Cu:=DE c (c.n+1) (dK c.k t (dB c.k t c.n))
def Sg:bf:=nG::(Dv,DM 2000 2002)::(Hu,UB)::[]
theorem ahq {c:Cu} {n:Nat} {k:Nat->Rat}:aG T Ej [] 60 yh (before xD [1,1,0,1]) ⟨aP 0 [dY c sK sK,ls k n],[],0⟩=
  let c3:Nat:=(aV (dY c sK sK)).size;let c2:Prop:=0<1;let c1:AV:=agg [int i64 0,nil,nil];some (aj [c2,c2] (aj [c2,bt (fun i=>rat (k i) sK) n sK,n<2^40,-(2:Int)^40<c.p,c.p<2^40] (leaf normal ([aq 3 n fun i=>rat (k i) 4096,ptr 0 0 c3 0 [],ptr 4096 0 3 0 [],ptr 24576 0 3 0 [],int i64 ((↑n:Int)-c.p-1),int i64 0],[((24576:Nat),aS fun j=>if(j==0)=true then aV (agg ((c1.kids.set 0 (aV (int i64 c.p))).set 1 (aV (ls k n))))else c1),((4096:Nat),aS fun x=>c1),(0,ak.mk false true c3 1 fun x=>agg [int i64 c.p,aq 3 c.n fun i=>rat (c.k i) 4096,aq 12 c.m fun i=>bD (c.f i) 4096])])))):=ag
theorem akS {c:Cu} {n m j:Nat} {k:Nat->Rat} {h:Nat->Pl}:aG T Ej [19] 60 yh [part xD [1,1,0,1,0,0]] ⟨aB yh (Lr n m k j),IU c n k h j,4⟩=
  let c20:Int:=(↑m:Int);let c18:Prop:=bt (fun i=>rat (c.k i) sK) c.n sK;let c17:AV:=ptr 2 0 3 0 [];let c16:AV:=ptr 1 0 3 0 [];let c15:AV:=ptr 0 0 3 0 [];let c14:Nat:=2^40;let c13:AV:=rat 0 1;let c12:Int:=(↑j:Int);let c10:AV:=own 3 12 0 j;let c9:AV:=aq 3 n fun i=>rat (k i) 4096;let c8:Prop:=0<1;let c6:Int:=(2:Int)^63;let c5:Cu:=Cu.mk c.p c.n (fun i=>aL (rat (c.k i) sK)) c.m fun i=>ux (bD (c.f i) sK);let c2:List (Nat×ak):=[((1:Nat),aS fun x=>agg [int i64 0,nil,nil]),((0:Nat),aS fun x=>agg [int i64 c.p,aq 3 c.n fun i=>rat (c.k i) 4096,aq 12 c.m fun i=>bD (c.f i) 4096])];let c19:AV:=agg [int i64 c.p,ls k n,c10];let c7:Int:=(↑(fC (fun i=>aL (rat (k i) sK)) n c12.toNat):Int);let c4:Int:=c12+c.p+1;let c3:Int:=c12+1;let c11:Nat:=c4.toNat-c3.toNat;let c1:Int:=(↑(fI c.n (fun i=>aL (rat (c.k i) sK)) (k c7.toNat)):Int);some (fork (decide (c12<c20)) (aj [bt (fun i=>rat (k i) sK) n sK,(0:Int)<=c12,c12<=(↑n:Int),n<c14] (aj [c8,c8,(0:Int)<=c7/\c7.toNat<n,c18,sK<=sK,Kn c.n c.p.toNat fun i=>aL (rat (c.k i) sK),(0:Int)<=c.p,c.n<c14] (aj [c8,c8,-c6<=c3/\c3<c6,c8,-c6<=c12+c.p/\c12+c.p<c6,-c6<=c4/\c4<c6,(0:Int)<=c3/\c3<=c4/\c4<=c4/\c4<=(↑n:Int),c18,mA (fun i=>bD (c.f i) sK) c.m sK,bt (fun i=>rat (k (i+c3.toNat)) sK) c11 sK,(1:Int)<=c.p,c.p<=6,c.n<c14,c.m<c14,-(2:Int)^40<c1,c1<2^40,(1:Nat)*12<=2^24,(j+1)*((224:Nat)+1)*2<=2^47,c8] (aj [-c6<=c3/\c3<c6] (leaf normal ([c9,c15,c16,c17,int i64 c20,int i64 c3],(147460,ak.mk true true 12 (j+1) fun i=>if i<j then bD (h i) sB else nth [agg [rat (hH c5 c1 c11 (fun i=>aL (rat (k (i+c3.toNat)) sK)) 0) sB,rat (hH c5 c1 c11 (fun i=>aL (rat (k (i+c3.toNat)) sK)) 1) sB,rat (hH c5 c1 c11 (fun i=>aL (rat (k (i+c3.toNat)) sK)) 2) sB,rat (hH c5 c1 c11 (fun i=>aL (rat (k (i+c3.toNat)) sK)) 3) sB]] (agg [c13,c13,c13,c13]) (i-j+0))::((2:Nat),aS fun j_1=>if(j_1==0)=true then agg (c19.kids.set 2 (aV (own (nat_lit 147459+1) 12 0 (j+1))))else c19)::c2)))))) (leaf (exit 0) ([c9,c15,c16,c17,int i64 c20,int i64 c12],(3,ak.mk true true 12 j fun i=>bD (h i) 536870912)::((2:Nat),aS fun x=>agg [int i64 c.p,c9,c10])::c2))):=ag
theorem ahI {c:Cu} {n m j:Nat} {k:Nat->Rat} {h:Nat->Pl}:cj T Ej [] 60 Cb [part xD [1,1,1]] ⟨aB yh (Lr n m k j),IU c n k h j,4⟩=
  let c1:Prop:=0<1;some (aj [c1,c1] (aj [c1] (leaf ret [agg [int i64 c.p,aq 3 n fun i=>rat (k i) 4096,aq 12 j fun i=>bD (h (i+0)) 536870912]]))):=ag
theorem amJ {c:Cu} {t:Rat}:bU T Sg [] 60 FH (ay FH) ⟨aP 0 [dY c 2000 4000,.rat t 2000],[],0⟩=
  some (aj [0<1,0<1,0<1,bt (fun i=>.rat (c.k i) 2000) c.n 2000,2000<=2000,c.n<2^40,bt (fun i=>.rat (c.k i) 2000) c.n sK,mA (fun i=>bD (c.f i) 4000) c.m sK,bt (fun i=>.rat (dK c.k t (dB c.k t c.n) i) 2002) (c.n+1) sK,Kn c.n c.p.toNat c.k,1<=c.p,c.p<=6,c.n<2^40,c.m<2^40,c.n+1<2^29,c.p+1<=(c.n+1:Nat),0<1]
   (aj [0<1] (leaf .ret [dY (qc c t) sK sB]))):=ag
theorem Sv {k:Nat->Rat} {n:Nat}:∀{f i:Nat},i<n->ng k n f i<n
 |0,_,h=>h
 |f+1,i,h=>by
  unfold ng
  split
  ·exact Sv aa
  ·exact h
theorem UY {k:Nat->Rat} {n i:Nat} (h:i<n):fC k n i<n:=Sv h
theorem SP {n p:Nat} {k:Nat->Rat} (h:Kn n p k) {t:Rat}:fI n k t<n:=by
 have hl:=h.len
 unfold fI
 split
 ·omega
 ·have:=h.IC ‹_›
  omega
theorem Zc:bu P Ej:=cz (aI Ap (aI QW (aI Ku (aI TS jU))))
theorem agy {c:Cu} {n:Nat} {k:Nat->Rat} (hk:Kn c.n c.p.toNat c.k) (hp1:1<=c.p) (hp6:c.p<=6) (hn:c.n<2^40) (hm2:c.m<2^40) (hn2:n<2^29) (hpn:c.p+1<=n) (K:Nat):aQ P Hu K [dY c sK sK,ls k n] [] (aJ (dY (DE c n k) sK sB) []):=by
 obtain⟨q,hq⟩:∃q,q=c.p.toNat:=⟨_,rfl⟩
 have hqp:c.p=(q:Int):=aa
 refine ij (r:=aJ (dY (DE c n k) sK sB) []) hT Zc hm abg rfl aX rfl [1,1,0,1] (i:=0) (y:=part xD [1,1,0,1,0,0]) (z:=part xD [1,1,1]) ag ag ag (f1:=[]) (f2:=[19]) (f3:=[]) 60 yh 4
  (fun j:Nat=>Lr n (n-c.p.toNat-1) k j) (fun j=>IU c n k (DY c n k) j) (fun j=>j<=n-c.p.toNat-1) (fun j=>j=n-c.p.toNat-1) (fun j=>n-c.p.toNat-1-j) (fun _=>⟨⟨_,ahq,?_⟩,fun j hj=>⟨_,akS,?_⟩,fun j hj=>⟨_,ahI,?_⟩⟩) K []
 ·have e1:(n:Int)-c.p-1=((n-c.p.toNat-1:Nat):Int):=aa
  simp only[ah.all,aA,e1]
  exact⟨⟨aa,aa⟩,⟨aa,bP aY,aa,aa,aa⟩,0,Nat.zero_le _,[(0,0),(1,4096),(2,24576)],rfl,rfl,rfl,fV rfl aa aa (bG rfl rfl (gz ⟨aM,aM,⟨rfl,jd aa⟩,trivial⟩) (aC (aC trivial)))⟩
 ·have e1:((j:Int)+1).toNat=j+1:=aa
  have e2:((j:Int)+c.p+1).toNat=j+q+1:=aa
  have e3:j+q+1-(j+1)=q:=aa
  simp only[ah.all,aA,bq,bw,bn,e1,e2,e3,Nat.add_zero]
  have h7:fC (fun i=>aL (rat (k i) sK)) n j=fC k n j:=rfl
  have h8:∀t,fI c.n (fun i=>aL (rat (c.k i) sK)) t=fI c.n c.k t:=fun _=>rfl
  simp only[h7,h8]
  refine⟨fun h=>?_,fun h=>⟨rfl,j,aa,[(0,0),(1,1),(2,2),(3,3)],rfl,rfl,rfl,bk (bG rfl rfl (qP rfl rfl rfl) (aC (aC trivial)))⟩⟩
  have h1:=UY (k:=k) (n:=n) (i:=j) aa
  have h2:=SP hk (t:=k (fC k n j))
  (repeat' with_reducible refine And.intro ?_ ?_)
  all_goals first|omega|exact bP aY|exact hk|exact fun _ _=>.refl _|skip
  refine⟨j+1,aa,by dsimp only;omega,[(0,0),(1,1),(2,2),(3,147460)],rfl,rfl,rfl,bJ rfl rfl rfl (fun j' hj'=>pM (g:=fun j=>bD (DY c n k j) sB) (fun _ _=>⟨rfl,rfl⟩) rfl ?_ hj') (bG rfl rfl (qP rfl rfl rfl) (aC (aC trivial)))⟩
  exact qO (h:=oI c (fI c.n c.k (k (fC k n j))) q (fun q=>k (q+(j+1)))) (by unfold DY;rw[hq]) aY
 ·subst hj
  simp only[ah.all,aA]
  exact⟨⟨aa,aa⟩,aa,.refl _⟩
theorem aeU:aW P UB Hu:=ck fun⟨c,⟨n,k⟩,_⟩ K hn=>agy hn.1 hn.2.1 hn.2.2.1 hn.2.2.2.1 hn.2.2.2.2.1 hn.2.2.2.2.2.1 hn.2.2.2.2.2.2 K
theorem amK:bu P Sg:=cz (aI (acI (by decide) (by decide)) (aI aeU bz))
def Qx:Spec:=cq (kC (sA 2000 4000) (kC (gN 2000) kN)) (fun a=>dY (qc a.1 a.2.1) sK sB) fun a=>[Kn a.1.n a.1.p.toNat a.1.k,1<=a.1.p,a.1.p<=6,a.1.n<2^28,a.1.m<2^40]
theorem ak0:aW P Qx MI:=ck fun⟨c,t,_⟩ K hn=>by
 obtain⟨h1,h2,h3,h4,h5⟩:Kn c.n c.p.toNat c.k/\1<=c.p/\c.p<=6/\c.n<2^28/\c.m<2^40:=hn
 have hl:=h1.len
 refine bZ (r:=aJ (dY (qc c t) sK sB) []) hT amK hm ahi rfl aX rfl 60 amJ (fun _=>?_) K []
 simp only[ah.all,aA]
 (repeat' with_reducible refine And.intro ?_ ?_)
 all_goals first|omega|exact bP (by decide)|exact h1|exact yb (by decide)|skip
 exact .refl _
def cV (c:Cu) (t:Rat):Int:=if¬(c.k 0<t/\t<c.k (c.n-1))then 7 else if c.p<=(cL c.k t c.n:Int)then 5 else if 40<=c.m then 2 else 0
def pz:Cu:=⟨0,0,fun _=>0,0,fun _=>⟨⟨0,0,0⟩,0⟩⟩
theorem acB {a b:Rat}:eV a b<0↔a<b:=ni
theorem Ud {x y:Nat}:bN (.agg [.int .i64 0,.nil,.nil]) (bV pz x y):=b7 ⟨.refl _,ic (by decide),ic (by decide),trivial⟩
theorem V4:aT P BD Gq (ay Gq):=aU Proofs.Tryz.func194 ag ag ag
theorem aox:aT P E3 EF (ay EF):=aU Proofs.Tryz.func91 ag ag ag
theorem VR:aT P Gx GZ (ay GZ):=aU Proofs.Tryz.func98 ag ag ag
theorem amh:aT P yD Mx (ay Mx):=aU Proofs.Tryz.func192 ag ag ag
theorem Ok:aT P Fb Dd (ay Dd):=aU Proofs.Tryz.func193 ag ag ag
theorem aeL:aT P Eb Ft (ay Ft):=aU Proofs.Tryz.func198 ag ag ag
theorem afq:aT P Kv Ca (ay Ca):=aU Proofs.Tryz.func89 ag ag ag
theorem amN:aT P HH BY (ay BY):=aU Proofs.Tryz.func94 ag ag ag
def UH:Spec:=bY fun l=>match l with
 |[.mag N]=>some (aJ (.bool true) [nl N<2^40])
 |_=>none
def Jg:bf:=nG::(BD,UH)::(zm,bY (mQ Lb))::(Bu,bY (iN KS))::(Ah,Kj)::[]
def RN:Spec:=bY fun l=>match l with
 |[.rat q n]=>some (aJ (.bool true) [n<2^44])
 |_=>none
def To:Spec:=bY fun l=>match l with
 |[.rat q n]=>some (aJ (.int .i64 (cZ q:Nat)) [n<2^44])
 |_=>none
def Fu:Spec:=bY fun l=>match l with
 |[.rat q n]=>some (aJ (.bool false) [n<=2048])
 |_=>none
def Fv:bf:=nG::(E3,RN)::(Gx,To)::iR
def RM (s:Nat):Kind Pl:=⟨fun v=>match Fh v with
 |some (a,q)=>some (a.1,q++[a.2<=s])
 |none=>none,fun a=>bh a s,fun {v a q} h hq=>by
  split at h
  ·rename_i b q' hb
   simp only[az,Prod.mk.injEq]at h
   obtain⟨rfl,rfl⟩:=h
   obtain⟨q1,q2⟩:=dD.1 hq
   refine bN.trans (Y1.ok hb q1) ?_
   show bN (bh b.1 b.2) (bh b.1 s)
   exact b7 ⟨b7 ⟨eR q2,eR q2,eR q2,trivial⟩,eR q2,trivial⟩
  ·simp at h⟩
def Uw:Spec:=cq (kC (RM 2048) kN) (fun _=>.bool false) fun a=>[0<a.1.d]
def Ed:Kind FuncId:=⟨fun v=>match v with
 |.func f []=>some (f,[])
 |_=>none,fun g=>.func g [],fun {v a q} h _=>by
  split at h
  ·simp only[az,Prod.mk.injEq]at h
   obtain⟨rfl,rfl⟩:=h
   exact .refl _
  ·simp at h⟩
abbrev lf:List Nat:=[4,0,1,7,8]
abbrev A3 (n i:Nat) (k:Nat->Rat) (g:FuncId):List AV:=[.int .i64 0,br k n 2048,.func g [],.int .i64 n,.int .i64 i]
abbrev HW (n i:Nat) (f:Nat->Pl) (g:FuncId):List AV:=[.int .i64 0,bH f n 2048,.func g [],.int .i64 n,.int .i64 i]
abbrev qD:Code:=ay Dd
abbrev yO:Code:=ay Ft
def Ti:Spec:=pR fun K l=>match l with
 |[v]=>match(kL 2048).read v with
  |some ((n,k),q)=>some ⟨.own K 3 0 n,[(K,⟨true,true,3,n,fun i=>.rat (k i) 2048⟩)],q++[1<=n,n<2^30]⟩
  |none=>none
 |_=>none
theorem afU {N:Nat}:bU T [nG] [6] 60 Gq (ay Gq) ⟨aP 0 [.mag N],[],0⟩=
  let c2:Bool:=(↑(nl N):Int)==0;let c1:Int:=(↑(nl N):Int)-1;some (fork c2 (aj [c2=true] (leaf ret [AV.bool true])) (aj [c2=false,-(2:Int)^63<=c1/\c1<2^63,(0:Int)<=c1/\c1.toNat<nl N] (leaf ret [AV.bool (bif false then true else(↑(aF N c1.toNat):Int)!=0)]))):=ag
theorem alG {q:Rat} {n:Nat}:bU T Jg [18,25,29,33,43] 60 EF (ay EF) ⟨aP 0 [.rat q n],[],0⟩=
  let c9:ah (List AV):=leaf ret [AV.bool false];let c7:Bool:=!decide (q<0);let c6:Nat:=q.num.natAbs;let c4:Nat:=2^40;let c3:Prop:=0<1;let c2:Nat:=if q.den=1 then 0 else q.den;let c5:Int:=(↑(nl c2):Int);let c10:Bool:=c5==1;let c8:Bool:=c5==0;let c1:ah (List AV):=aj [c3] (fork ((↑(nl c6):Int)==0) (fork c7 (aj [c3,c7=true,c3] (leaf ret [AV.bool (bif true then c8 else false)])) (aj [c3,c7=false] c9)) (fork c8 (aj [c3,c8=true] (leaf ret [AV.bool true])) (aj [c3,c8=false,c3,c3,nl c6<c4,nl c2<c4,nl (c6.gcd c2)<c4] (leaf ret [AV.bool (bif false then true else(↑(bQ (c6.gcd c2)):Int)==1)]))));some (fork c10 (aj [c3,nl c6<c4,c3,nl c2<c4,c3,c10=true,c3,(0:Int)<=0/\Int.toNat (0:Int)<nl c2] (fork (bif bif !true then true else !true then true else bif true then(↑(aF c2 (Int.toNat (0:Int))):Int)==1 else false) c9 c1)) (aj [c3,nl c6<c4,c3,nl c2<c4,c3,c10=false] (fork false c9 c1))):=ag
theorem aow {q:Rat} {n:Nat}:bU T Jg [] 60 GZ (ay GZ) ⟨aP 0 [.rat q n],[],0⟩=
  let c2:Int:=(↑(bQ q.den):Int);let c1:Int:=(↑(bQ q.num.natAbs):Int);some (aj [(0:Nat)<1,nl q.num.natAbs<2^40,(0:Nat)<1,nl q.den<2^40] (leaf ret [int i64 (if c1<c2 then c2 else c1)])):=ag
theorem Wt {n s:Nat} {k:Nat->Rat}:aG T [nG] [] 60 [2] [ay Mx] ⟨aP 0 [.dX false 3 n (fun i=>.rat (k i) s)],[],0⟩=
  some (aj [(0:Nat)*3<=2^24,((0:Nat)+n)*((56:Nat)+1)*2<=2^47] (leaf ret ([own 20480 3 0 ((0:Nat)+n)],[(20480,ak.mk true true 3 ((0:Nat)+n) fun i=>rat (k (i-0)) s)]))):=ag
theorem af1 {N:Nat} (hn:nl N<2^40) (K:Nat):aQ P BD K [.mag N] [] (aJ (.bool true) []):=by
 refine bZ hT (cz bz) hm V4 rfl aX rfl 60 afU (fun _=>?_) K []
 simp only[ah.all,aA]
 refine⟨fun h=>⟨h,.refl _⟩,fun h=>?_⟩
 have h0:nl N≠0:=fun he=>by rw[he]at h;exact absurd h (by decide)
 have h1:N≠0:=fun he=>h0 (jX.2 he)
 have e1:((nl N:Int)-1).toNat=nl N-1:=aa
 have h2:=E8 h1
 rw[e1]
 refine⟨⟨h,aa,aa⟩,gl ?_⟩
 rw[cond_false]
 exact bne_iff_ne.2 aa
theorem VW:aW P UH BD:=by
 refine cJ fun K args r hk hs _=>?_
 split at hs
 ·simp only[az]at hs
  subst hs
  exact fun need=>af1 need K trivial
 ·simp at hs
theorem M0:bu P Jg:=cz (aI VW (aI Up (aI UQ (aI U0 bz))))
theorem ag5 {N:Nat} (h:nl N=1) (h1:aF N 0=1):N=1:=by
 have h2:N<2^(32*1):=dF.1 aa
 unfold aF at h1
 omega
theorem af8 {q:Rat} {n:Nat} (hn:n<2^44) (K:Nat):aQ P E3 K [.rat q n] [] (aJ (.bool true) []):=by
 refine jV fun⟨hs1,_⟩=>?_
 obtain⟨a1,a2,a3⟩:=Sz.jR hs1 hn
 refine bZ hT M0 hm aox rfl aX rfl 60 alG (fun _=>?_) K []
 obtain⟨D,hD⟩:∃D,D=if q.den=1 then 0 else q.den:=⟨_,rfl⟩
 have hD1:D≠1:=by rw[hD];split<;>omega
 have hg:D≠0->q.num.natAbs.gcd D=1:=fun h=>by
  have:D=q.den:=by rw[hD]at h ⊢;split<;>simp_all
  rw[this];exact q.reduced
 have hz:q.num.natAbs=0->¬q<0/\D=0:=fun h=>by
  have h0:=oc.1 h
  subst h0
  exact⟨by decide,by rw[hD];rfl⟩
 rw[<-hD]at a3 ⊢
 have nneg:((nl q.num.natAbs:Int)==0)=true->(!decide (q<0))=true/\((nl D:Int)==0)=true:=fun h=>by
  obtain⟨z1,z2⟩:=hz (jX.1 (by have:=beq_iff_eq.1 h;omega))
  rw[decide_eq_false z1,z2];exact⟨rfl,rfl⟩
 have last:((nl D:Int)==0)=false->D≠0:=fun h he=>by rw[he]at h;exact absurd h (by decide)
 simp only[ah.all,aA,cond_true,cond_false,Bool.not_true]
 refine⟨fun h=>⟨⟨aa,a1,aa,a3,aa,h,aa,aa,?_⟩,fun h2=>?_,fun h2=>⟨aa,fun h3=>⟨fun h4=>⟨⟨aa,h4,aa⟩,gl (nneg h3).2⟩,fun h4=>absurd (h4.symm.trans (nneg h3).1) (by decide)⟩,fun h3=>⟨fun h4=>⟨⟨aa,h4⟩,.refl _⟩,fun h4=>?_⟩⟩⟩,
  fun h=>⟨⟨aa,a1,aa,a3,aa,h⟩,fun h=>absurd h (by decide),fun _=>⟨aa,fun h3=>⟨fun h4=>⟨⟨aa,h4,aa⟩,gl (nneg h3).2⟩,fun h4=>absurd (h4.symm.trans (nneg h3).1) (by decide)⟩,fun h3=>⟨fun h4=>⟨⟨aa,h4⟩,.refl _⟩,fun h4=>?_⟩⟩⟩⟩
 ·have:=beq_iff_eq.1 h
  rw[Int.toNat_zero];omega
 ·have e1:=beq_iff_eq.1 h
  have e2:=beq_iff_eq.1 h2
  exact absurd (ag5 aa (by rw[Int.toNat_zero]at e2;omega)) hD1
 ·rw[hg (last h4)]
  exact⟨⟨aa,h4,aa,aa,a1,a3,by decide⟩,gl (by decide)⟩
 ·rw[hg (last h4)]
  exact⟨⟨aa,h4,aa,aa,a1,a3,by decide⟩,gl (by decide)⟩
theorem Zx:aW P RN E3:=by
 refine cJ fun K args r hk hs _=>?_
 split at hs
 ·simp only[az]at hs
  subst hs
  exact fun need=>af8 need K trivial
 ·simp at hs
theorem abk {q:Rat} {n:Nat} (hn:n<2^44) (K:Nat):aQ P Gx K [.rat q n] [] (aJ (.int .i64 (cZ q:Nat)) []):=by
 refine jV fun⟨hs1,_⟩=>?_
 obtain⟨a1,a2,a3⟩:=Sz.jR hs1 hn
 refine bZ hT M0 hm VR rfl aX rfl 60 aow (fun _=>?_) K []
 simp only[ah.all,aA]
 refine⟨⟨aa,a1,aa,a2⟩,bK ?_⟩
 unfold cZ
 split<;>omega
theorem Zm:aW P To Gx:=by
 refine cJ fun K args r hk hs _=>?_
 split at hs
 ·simp only[az]at hs
  subst hs
  exact fun need=>abk need K trivial
 ·simp at hs
theorem Mc:bu P Fv:=cz (aI Zx (aI Zm jU))
theorem afX {args:List AV} {n:Nat} {k:Nat->Rat} {l:List Prop} (ha:aA l->fY (bp []) args [.dX false 3 n (fun i=>.rat (k i) 2048)]) (hn:aA l->1<=n/\n<2^30) (K:Nat):aQ P yD K args [] ⟨jh [.own K 3 0 n],[(K,⟨true,true,3,n,fun i=>.rat (k i) 2048⟩)],l⟩:=by
 refine FN hT amh ha aX fun need c hk=>?_
 obtain⟨h1,h2⟩:=hn need
 refine au.bC hT (cz bz) hm 60 [2] Wt ag ?_
 simp only[ah.all,aA]
 exact⟨⟨aa,aa⟩,fun s' hs'=>⟨.inr trivial,[2],_,[.own 20480 3 0 (0+n)],_,20480,_,hs',ag,⟨⟨rfl,bW (by simp[bp,look]) rfl aa⟩,trivial⟩,rfl,jl aa fun i hi=>gm rfl⟩⟩
theorem agO {n:Nat} {k:Nat->Rat} {l:List Prop} (hn:aA l->1<=n/\n<2^30) (K:Nat):aQ P yD K [br k n 2048] [] ⟨jh [.own K 3 0 n],[(K,⟨true,true,3,n,fun i=>.rat (k i) 2048⟩)],l⟩:=by
 refine Nw fun b hb=>?_
 intro need
 have h1:=hn need
 cases b
 ·exact afX (args:=[.dX false 3 n (fun i=>.rat (k i) 2048)]) (fun _=>⟨aM,trivial⟩) hn K need
 ·have:=hb rfl
  omega
theorem ahJ:aW P Ti yD:=by
 refine wJ fun K args r hk hs=>?_
 split at hs
 ·rename_i v
  split at hs
  ·rename_i n k q hv
   simp only[az]at hs
   subst hs
   intro need
   obtain⟨hn1,hn2⟩:=dD.1 need
   exact gZ (agO (l:=q++[1<=n,n<2^30]) (fun h=>⟨(dD.1 h).2.1,(dD.1 h).2.2⟩) K) hk ⟨(kL 2048).ok hv hn1,trivial⟩ [] need
  ·simp at hs
 ·simp at hs
theorem MX:aT P F5 CS (ay CS):=aU Proofs.Tryz.func168 ag ag ag
def o9:bf:=nG::(tG,jD uF)::(qd,yL)::(pC,rT)::nY
abbrev mL (n:Nat) (z:Nat->Int) (a:Int):ak:=jK n (fun i=>.int .i64 (z i)) a
abbrev tO (t:Rat):ak:=⟨false,true,3,1,fun _=>.rat t 64⟩
abbrev akH (m:Nat) (k:Nat->Rat):ak:=⟨true,true,3,m,fun i=>.rat (k i) 64⟩
abbrev tg:List Nat:=[0,1,2,7,8,9]
abbrev Gn (p m:Int) (v:AV) (i:Int):List AV:=[.ptr 0 0 2 0 [],.int .i64 p,.int .i64 m,.ptr 1 0 3 0 [],v,.int .i64 i]
abbrev Ad:Code:=ay CS
abbrev yH:Code:=part Ad [1,1,1,1]
abbrev uV:Code:=part yH [1]
abbrev A9:List Nat:=[0,1,7,8,10]
abbrev zh:List Nat:=[0,1,7,8,11]
abbrev sR (p:Int) (l:Nat) (i:Int):List AV:=[.ptr 0 0 2 0 [],.int .i64 p,.ptr 1 0 3 0 [],.own 2 3 0 l,.int .i64 i]
abbrev nF (n:Nat) (z:Nat->Int) (a:Int) (t:Rat) (l:Nat) (k:Nat->Rat):aE:=[(2,akH l k),(1,tO t),(0,mL n z a)]
theorem aav {n:Nat} {z:Nat->Int} {a p m:Int}:aG T o9 [] 60 tg (before Ad [1,1,1,0,1]) ⟨aP 0 [.ptr 0 0 2 0 [],.int .i64 p,.int .i64 m],[(0,mL n z a)],1⟩=
  let c2:Int:=(2:Int)^63;let c1:Int:=cF n (fun i=>int i64 (z i)) a (4:Int)-2;some (aj [dj n (fun i=>int i64 (z i)) a,(0:Int)<4,(4:Int)<2^62,-c2<=c1/\c1<c2,-c2<=c1,c1<c2,(0:Nat)<1] (leaf normal ([ptr 0 0 2 0 [],int i64 p,int i64 m,ptr 20481 0 3 0 [],nil,int i64 0],[((20481:Nat),aS fun j=>if(j==0)=true then aV (rat (↑c1:Rat) (Max.max 1 (bQ c1.natAbs)))else rat 0 1),(0,ak.mk false true 2 1 fun x=>agg [aq 1 n fun i=>int i64 (z i),int i64 (aR n a)])]))):=ag
theorem ajR {n:Nat} {z:Nat->Int} {a p m:Int} {t:Rat}:aG T o9 [18] 60 tg [part Ad [1,1,1,0,1,0,0]] ⟨aB tg (Gn p m .nil 0),[(1,tO t),(0,mL n z a)],3⟩=
  let c3:AV:=ptr 1 0 3 0 [];let c2:AV:=ptr 0 0 2 0 [];let c1:List (Nat×ak):=[((1:Nat),aS fun x=>rat t 64),(0,ak.mk false true 2 1 fun x=>agg [aq 1 n fun i=>int i64 (z i),int i64 a])];some (fork (decide ((0:Int)<=p)) (aj [(0:Nat)<1,(1:Nat)*3<=2^24,(0:Nat)<1/\1*((56:Nat)+1)*2<=2^47] (aj [-(2:Int)^63<=(0:Int)+1/\(0:Int)+1<(2:Int)^63] (leaf normal ([c2,int i64 p,int i64 m,c3,own 24579 3 0 1,int i64 1],(24579,ak.mk true true 3 1 fun i=>nth [rat t 64] (rat 0 1) (i+0))::c1)))) (leaf (exit 0) ([c2,int i64 p,int i64 m,c3,nil,int i64 0],c1))):=ag
theorem ami {n j:Nat} {z:Nat->Int} {a p m:Int} {t:Rat} {k:Nat->Rat}:aG T o9 [18] 60 tg [part Ad [1,1,1,0,1,0,0]] ⟨aB tg (Gn p m (.own 2 3 0 (j+1)) ((j+1:Nat):Int)),nF n z a t (j+1) k,3⟩=
  let c4:AV:=ptr 1 0 3 0 [];let c3:AV:=ptr 0 0 2 0 [];let c2:Nat:=j+1;let c1:List (Nat×ak):=[((1:Nat),aS fun x=>rat t 64),(0,ak.mk false true 2 1 fun x=>agg [aq 1 n fun i=>int i64 (z i),int i64 a])];let c7:Nat:=c2+1;let c6:Int:=(↑c2:Int);let c5:Int:=c6+1;some (fork (decide (c6<=p)) (aj [(0:Nat)<1,(1:Nat)*3<=2^24,c7*((56:Nat)+1)*2<=2^47] (aj [-(2:Int)^63<=c5/\c5<2^63] (leaf normal ([c3,int i64 p,int i64 m,c4,own 24579 3 0 c7,int i64 c5],(24579,ak.mk true true 3 c7 fun i=>if i<c2 then rat (k i) 64 else nth [rat t 64] (rat 0 1) (i-c2+0))::c1)))) (leaf (exit 0) ([c3,int i64 p,int i64 m,c4,own 2 3 0 c2,int i64 c6],(2,ak.mk true true 3 c2 fun i=>rat (k i) 64)::c1))):=ag
theorem al8 {n j:Nat} {z:Nat->Int} {a p m:Int} {t:Rat} {k:Nat->Rat}:aG T o9 [] 60 A9 (before yH [0,1]) ⟨aB tg (Gn p m (.own 2 3 0 (j+1)) ((j+1:Nat):Int)),nF n z a t (j+1) k,3⟩=
  let c1:Int:=m+1;some (aj [-(2:Int)^63<=c1/\c1<2^63,dj n (fun i=>int i64 (z i)) a,(0:Int)<c1,c1<2^62] (leaf normal ([ptr 0 0 2 0 [],int i64 p,ptr 1 0 3 0 [],own 2 3 0 (j+1),int i64 (cF n (fun i=>int i64 (z i)) a c1)],[(2,ak.mk true true 3 (j+1) fun i=>rat (k i) 64),((1:Nat),aS fun x=>rat t 64),(0,ak.mk false true 2 1 fun x=>agg [aq 1 n fun i=>int i64 (z i),int i64 (aR n a)])]))):=ag
theorem aiE {n l:Nat} {z:Nat->Int} {a p i:Int} {t:Rat} {k:Nat->Rat}:aG T o9 [30,38,43,53] 60 A9 [part yH [0,1,0,0]] ⟨aB A9 (sR p l i),nF n z a t l k,3⟩=
  let c40:Int:=i-1;let c39:Nat:=64+64+1;let c35:AV:=rat t 64;let c34:AV:=rat 0 1;let c33:Int:=aR n a;let c31:Nat:=l+1;let c30:Prop:=(0:Int)<3;let c28:Prop:=dj n (fun i=>int i64 (z i)) a;let c27:Int:=(↑l:Int);let c25:AV:=ptr 1 0 3 0 [];let c24:AV:=ptr 0 0 2 0 [];let c23:Prop:=0<1;let c21:Int:=(2:Int)^62;let c20:AV:=aq 1 n fun i=>int i64 (z i);let c18:Int:=p+1;let c16:Prop:=64<2^41;let c7:Int:=cF n (fun i=>int i64 (z i)) a (3:Int);let c5:Int:=(2:Int)^63;let c43:Int:=aR n c33;let c41:Bool:=c27==c18;let c38:Prop:=dj n (fun i=>int i64 (z i)) c33;let c37:Prop:=(3:Int)<c21;let c32:Prop:=-c5<=c18/\c18<c5;let c29:Int:=(1:Int)+c7;let c26:Nat×ak:=((1:Nat),aS fun x=>c35);let c22:Bool:=bif false then true else decide (c7>0);let c19:List Prop:=[-c5<=c40/\c40<c5];let c17:Nat:=(c27-p).toNat+0;let c15:Nat×ak:=(106499,ak.mk true true 3 c31 fun i=>if i<l then rat (k i) 64 else nth [c35] c34 (i-l+0));let c13:List AV:=[c24,int i64 p,c25,own 147459 3 0 c31,int i64 c40];let c12:List AV:=[c24,int i64 p,c25,own 106499 3 0 c31,int i64 c40];let c10:Int:=(1:Int)+cF n (fun i=>int i64 (z i)) c33 (2:Int);let c9:Int:=(1:Int)+cF n (fun i=>int i64 (z i)) c33 (3:Int);let c6:List Prop:=[c23,(1:Nat)*3<=2^24,c31*((56:Nat)+1)*2<=2^47];let c42:Rat:=(↑c29:Rat)/(↑c10:Rat);let c36:Bool:=bif false then true else decide (t=k c17);let c14:List (Nat×ak):=[c26,(0,ak.mk false true 2 1 fun x=>agg [c20,int i64 a])];let c11:List Prop:=[c23,-c5<=c27-p/\c27-p<c5,(0:Int)<=c27-p/\(c27-p).toNat<l,c17<l,c16,c16];let c8:Int:=(1:Int)+cF n (fun i=>int i64 (z i)) c43 (2:Int);let c3:ah (List AV×aE):=aj c6 (aj c19 (leaf normal (c12,[c15,c26,(0,ak.mk false true 2 1 fun x=>agg [c20,int i64 c33])])));let c44:Rat:=(↑c9:Rat)/(↑c8:Rat);let c4:ah (List AV×aE):=aj c6 (aj c19 (leaf normal (c12,c15::c14)));let c2:ah (List AV×aE):=aj [c23,c28,c30,c37,-c5<=c29/\c29<c5,c38,(0:Int)<2,(2:Int)<c21,-c5<=c10/\c10<c5,-c5<=c29,c29<c5,-c5<=c10,c10<c5,c16,c16,c23] (aj c6 (aj c19 (leaf normal (c13,[(147459,ak.mk true true 3 c31 fun i=>if i<l then rat (k i) 64 else nth [rat (t+c42) c39] c34 (i-l+0)),((1:Nat),aS fun j=>if(j==0)=true then aV (lH (t,(64:Nat)) (c42,(64:Nat)))else c35),(0,ak.mk false true 2 1 fun x=>agg [c20,int i64 c43])]))));let c1:ah (List AV×aE):=aj [c23,c38,c30,c37,-c5<=c9/\c9<c5,dj n (fun i=>int i64 (z i)) c43,(0:Int)<2,(2:Int)<c21,-c5<=c8/\c8<c5,-c5<=c9,c9<c5,-c5<=c8,c8<c5,c16,c16,c23] (aj c6 (aj c19 (leaf normal (c13,[(147459,ak.mk true true 3 c31 fun i=>if i<l then rat (k i) 64 else nth [rat (t+c44) c39] c34 (i-l+0)),((1:Nat),aS fun j=>if(j==0)=true then aV (lH (t,(64:Nat)) (c44,(64:Nat)))else c35),(0,ak.mk false true 2 1 fun x=>agg [c20,int i64 (aR n c43)])]))));some (fork (decide (i>0)) (fork c41 (fork true (aj [c32,c41=true,true=true] (fork true c2 c4)) (aj (c32::(c41=true)::(true=false)::c11) (fork c36 c2 c4))) (fork c22 (aj [c32,c41=false,c28,c30,c37,c22=true] (fork true c1 c3)) (aj (c32::(c41=false)::c28::c30::c37::(c22=false)::c11) (fork c36 c1 c3)))) (leaf (exit 2) ([c24,int i64 p,c25,own 2 3 0 l,int i64 i],(2,ak.mk true true 3 l fun i=>rat (k i) 64)::c14))):=ag
theorem afT {n l:Nat} {z:Nat->Int} {a p i:Int} {t:Rat} {k:Nat->Rat}:aG T o9 [] 60 zh (before uV [1,0,1]) ⟨aB A9 (sR p l i),nF n z a t l k,3⟩=
  let c1:Nat:=Max.max 1 (bQ (Int.natAbs (1:Int)));some (aj [(0:Nat)<1,-(2:Int)^63<=(1:Int),(1:Int)<2^63,(64:Nat)<2^41,c1<2^41,(0:Nat)<1] (leaf normal ([ptr 0 0 2 0 [],int i64 p,ptr 1 0 3 0 [],own 2 3 0 l,int i64 0],[(2,ak.mk true true 3 l fun i=>rat (k i) 64),((1:Nat),aS fun j=>if(j==0)=true then aV (lH (t,(64:Nat)) ((↑(1:Int):Rat),c1))else rat t 64),(0,ak.mk false true 2 1 fun x=>agg [aq 1 n fun i=>int i64 (z i),int i64 a])]))):=ag
theorem agB {n l:Nat} {z:Nat->Int} {a p i:Int} {t:Rat} {k:Nat->Rat}:aG T o9 [72] 60 zh [part uV [1,0,1,0,0]] ⟨aB zh (sR p l i),nF n z a t l k,3⟩=
  let c3:AV:=ptr 1 0 3 0 [];let c2:AV:=ptr 0 0 2 0 [];let c1:List (Nat×ak):=[((1:Nat),aS fun x=>rat t 64),(0,ak.mk false true 2 1 fun x=>agg [aq 1 n fun i=>int i64 (z i),int i64 a])];some (fork (decide (i<=p)) (aj [(0:Nat)<1,(1:Nat)*3<=2^24,(l+1)*((56:Nat)+1)*2<=2^47] (aj [-(2:Int)^63<=i+1/\i+1<(2:Int)^63] (leaf normal ([c2,int i64 p,c3,own 24579 3 0 (l+1),int i64 (i+1)],(24579,ak.mk true true 3 (l+1) fun i=>if i<l then rat (k i) 64 else nth [rat t 64] (rat 0 1) (i-l+0))::c1)))) (leaf (exit 4) ([c2,int i64 p,c3,own 2 3 0 l,int i64 i],(2,ak.mk true true 3 l fun i=>rat (k i) 64)::c1))):=ag
theorem ak3 {n l:Nat} {z:Nat->Int} {a p i:Int} {t:Rat} {k:Nat->Rat}:B9 T o9 [] 60 CS [part uV [1,1]] ⟨aB zh (sR p l i),nF n z a t l k,3⟩=
  some (leaf ret ([aq 3 l fun i=>rat (k (i+0)) 64],some (ak.mk false true 2 1 fun x=>agg [aq 1 n fun i=>int i64 (z i),int i64 a]))):=ag
structure uC where
 k:Nat->Rat
 t:Rat
 a:Int
def tJ (n:Nat) (f:Nat->AV) (t:Rat) (a:Int):Rat:=t+((1+cF n f a 3:Int):Rat)/((1+cF n f (aR n a) 2:Int):Rat)
def su (n:Nat) (f:Nat->AV) (p j:Nat) (s:uC):uC:=
 if j=0\/0<cF n f s.a 3\/s.t=s.k (j+1)then
  ⟨mu s.k (p+1+j) (tJ n f s.t (if j=0 then s.a else aR n s.a)),tJ n f s.t (if j=0 then s.a else aR n s.a),aR n (aR n (if j=0 then s.a else aR n s.a))⟩
 else⟨mu s.k (p+1+j) s.t,s.t,if j=0 then s.a else aR n s.a⟩
def qa (n:Nat) (f:Nat->AV) (p:Nat) (s0:uC):Nat->uC
 |0=>s0
 |j+1=>su n f p j (qa n f p s0 j)
def rq (n:Nat) (f:Nat->AV) (a:Int):uC:=⟨fun _=>((cF n f a 4-2:Int):Rat),((cF n f a 4-2:Int):Rat),aR n (aR n a)⟩
def g9 (n:Nat) (f:Nat->AV) (a:Int) (m:Nat):Nat:=(cF n f (aR n a) (m+1)).toNat
def Dn (n:Nat) (f:Nat->AV) (a:Int) (p m:Nat):uC:=qa n f p (rq n f a) (g9 n f a m)
def ju (n:Nat) (f:Nat->AV) (a:Int) (p m:Nat):Nat:=2*p+2+g9 n f a m
def jz (n:Nat) (f:Nat->AV) (a:Int) (p m:Nat):Nat->Rat:=nB p (g9 n f a m) (Dn n f a p m).k (Dn n f a p m).t
def fH (n:Nat) (f:Nat->AV) (a:Int) (p m:Nat):Int:=(Dn n f a p m).a
theorem sS {n:Nat} {f:Nat->AV} {a:Int} {p:Nat} (hd:dj n f a) (hp:1<=p):∀j,KG p j (qa n f p (rq n f a) j).k (qa n f p (rq n f a) j).t/\dj n f (qa n f p (rq n f a) j).a
 |0=>by
  have h1:=gC (n:=n) (f:=f) (a:=a) (m:=4) aa
  have h2:=gH (n:=n) (f:=f) (a:=a) (m:=4) aa
  exact⟨KG.start hp aa aa,hd.next.next⟩
 |j+1=>by
  obtain⟨h1,h2⟩:=sS hd hp j
  unfold qa su tJ
  generalize qa n f p (rq n f a) j=s at*
  obtain⟨k,t,b⟩:=s
  simp only at h1 h2 ⊢
  have hb:dj n f (if j=0 then b else aR n b):=by split;exact h2;exact h2.next
  generalize (if j=0 then b else aR n b)=a1 at*
  split
  ·have x1:=gC (n:=n) (f:=f) (a:=a1) (m:=3) aa
   have x2:=gH (n:=n) (f:=f) (a:=a1) (m:=3) aa
   have y1:=gC (n:=n) (f:=f) (a:=aR n a1) (m:=2) aa
   have y2:=gH (n:=n) (f:=f) (a:=aR n a1) (m:=2) aa
   refine⟨h1.next (.inl ?_),hb.next.next⟩
   generalize cF n f a1 3=x at*
   generalize cF n f (aR n a1) 2=y at*
   have key:∃z:Int,((1+x:Int):Rat)/((1+y:Int):Rat)=(z:Rat)/2/\1<=z/\z<=6:=by
    rcases(show y=0\/y=1 by omega)with h|h
    ·subst h
     refine⟨2*(1+x),?_,aa,aa⟩
     have:((2*(1+x):Int):Rat)=2*((1+x:Int):Rat):=by simp
     rw[this]
     generalize ((1+x:Int):Rat)=w
     simp;grind
    ·subst h
     exact⟨1+x,by simp,aa,aa⟩
   obtain⟨z,e,z1,z2⟩:=key
   rw[e]
   refine⟨?_,z,rfl,z2⟩
   have:(1:Rat)<=(z:Rat):=by exact_mod_cast z1
   grind
  ·rename_i hc
   have hc1:¬j=0:=fun h=>hc (.inl h)
   have hc2:¬t=k (j+1):=fun h=>hc (.inr (.inr h))
   exact⟨h1.next (.inr ⟨rfl,aa,hc2⟩),hb⟩
theorem Qp {z:Int} (h1:-2^63<=z) (h2:z<2^63):Sz ((z:Rat)/2) 64:=by
 have:=JS h1 h2 (y:=2) aa aa aa
 simpa using this
theorem KG.sz {p j:Nat} {k:Nat->Rat} {t:Rat} (h:KG p j k t) (hj:j<2^50):Sz t 64:=by
 obtain⟨z,e,h1,h2⟩:=h.half (p+j) aY
 rw[h.top]at e
 rw[e]
 exact Qp aa aa
theorem ae6 {J j:Nat} (h:j<J):((J-j:Nat):Int)-1=((J-(j+1):Nat):Int):=aa
theorem Ma {rl:List (Nat×Nat)} {l i:Nat} {k k':Nat->Rat} {t:Rat} {s:Nat} (hk:k'=mu k l t) (ht:Sz t 64) (hi:i<l+1):eZ rl (if i<l then .rat (k i) 64 else nth [.rat t s] (.rat 0 1) (i-l+0)) (.rat (k' i) 64):=by
 subst hk
 by_cases h:i<l
 ·rw[if_pos h,nA aa];exact cB rfl rfl
 ·have:i=l:=aa
  subst this
  rw[if_neg h,xp,Nat.sub_self]
  exact .inr ⟨rfl,dn rfl ht⟩
theorem GV:bu P o9:=cz (aI BK (aI Cw (aI vp oW)))
theorem acY {k n p m:Nat} {z:Nat->Int} {a:Int} {o:ak} (ho:∀ρ,dw ρ o (mL n z a)) (h:dj n (fun i=>.int .i64 (z i)) a) (hp:1<=p) (hp2:p<1000) (hm2:m<1000) (K:Nat):
  aQ P F5 K [.ptr k 0 2 0 [],.int .i64 p,.int .i64 m] [(k,o)] ⟨br (jz n (fun i=>.int .i64 (z i)) a p m) (ju n (fun i=>.int .i64 (z i)) a p m) 64,[(k,mL n z (fH n (fun i=>.int .i64 (z i)) a p m))],[]⟩:=by
 refine Rj hT MX rfl rfl aX ho (fun _ c hk=>?_) K
 have a1:=gC (n:=n) (f:=fun i=>.int .i64 (z i)) (a:=a) (m:=4) aa
 have a2:=gH (n:=n) (f:=fun i=>.int .i64 (z i)) (a:=a) (m:=4) aa
 have b1:=gC (n:=n) (f:=fun i=>.int .i64 (z i)) (a:=aR n a) (m:=m+1) aa
 have b2:=gH (n:=n) (f:=fun i=>.int .i64 (z i)) (a:=aR n a) (m:=m+1) aa
 have hS:=sS h hp
 unfold fH jz ju Dn at*
 obtain⟨J,hJ⟩:∃J,J=g9 n (fun i=>.int .i64 (z i)) a m:=⟨_,rfl⟩
 have hJ2:cF n (fun i=>.int .i64 (z i)) (aR n a) (m+1)=(J:Int):=by rw[hJ];unfold g9;omega
 rw[<-hJ]at*
 have hJ3:J<1000:=aa
 obtain⟨S,hSd⟩:∃S,S=qa n (fun i=>.int .i64 (z i)) p (rq n (fun i=>.int .i64 (z i)) a):=⟨_,rfl⟩
 have h00:S 0=rq n (fun i=>.int .i64 (z i)) a:=by rw[hSd];rfl
 have hS1:∀j,S (j+1)=su n (fun i=>.int .i64 (z i)) p j (S j):=fun j=>by rw[hSd];rfl
 rw[<-hSd]at hS ⊢
 clear hSd hJ
 obtain⟨t0,ht0⟩:∃t0:Rat,t0=((cF n (fun i=>.int .i64 (z i)) a 4-2:Int):Rat):=⟨_,rfl⟩
 unfold rq at h00
 rw[<-ht0]at h00
 have hs0:Sz t0 64:=by have:=(hS 0).1.sz aa;rw[h00]at this;exact this
 refine au.j4 hT GV hm [1,1,1,0,1] (i:=0) (y:=part Ad [1,1,1,0,1,0,0]) (z:=yH) ag ag ag MX.dst hk (f1:=[]) (f2:=[18]) 60 tg 3
  (fun j:Nat=>Gn p m (match j with
   |0=>.nil
   |_+1=>.own 2 3 0 j) j) (fun j=>match j with
   |0=>[(1,tO t0),(0,mL n z (aR n a))]
   |_+1=>nF n z (aR n a) t0 j (fun _=>t0)) (fun j=>j<=p+1) (fun j=>j=p+1) (fun j=>p+1-j) (fun _=>False) ⟨_,aav,?_⟩ (fun j hj=>?_) (fun j hj=>?_) (fun _ _ h=>h.elim)
 ·simp only[ah.all,aA]
  refine⟨⟨h,aa,aa,aa,aa,aa,aa⟩,0,aa,[(0,0),(1,20481)],rfl,rfl,rfl,bG rfl rfl (.inr ⟨rfl,?_⟩) (aC trivial)⟩
  rw[<-ht0]
  exact dn rfl hs0
 ·cases j with
  |zero=>
   refine⟨_,ajR,?_⟩
   simp only[ah.all,aA,bq,bw]
   refine⟨fun _=>⟨aa,aa,1,aa,by dsimp only;omega,[(0,0),(1,1),(2,24579)],rfl,rfl,rfl,bJ rfl rfl rfl (fun i hi=>?_) (aC (aC trivial))⟩,fun h=>aa⟩
   have:i=0:=aa
   subst this
   exact cB rfl rfl
  |succ j=>
   refine⟨_,ami,?_⟩
   simp only[ah.all,aA,bq,bw]
   refine⟨fun _=>⟨aa,aa,j+2,aa,by dsimp only;omega,[(0,0),(1,1),(2,24579)],rfl,rfl,rfl,bJ rfl rfl rfl (fun i hi=>Ma (by funext i;unfold mu;split<;>rfl) hs0 hi) (aC (aC trivial))⟩,
    fun _=>⟨rfl,j+1,aa,[(0,0),(1,1),(2,2)],rfl,rfl,rfl,bJ rfl rfl rfl (fun i hi=>cB rfl rfl) (aC (aC trivial))⟩⟩
 subst hj
 refine au.j4 hT GV hm [0,1] (i:=2) (y:=part yH [0,1,0,0]) (z:=uV) ag ag ag ag hk (f1:=[]) (f2:=[30,38,43,53]) 60 A9 3
  (fun j:Nat=>sR p (p+1+j) ((J-j:Nat):Int)) (fun j=>nF n z (S j).a (S j).t (p+1+j) (S j).k) (fun j=>j<=J) (fun j=>j=J) (fun j=>J-j) (fun _=>False) ⟨_,al8,?_⟩ (fun j hj=>?_) (fun j hj=>?_) (fun _ _ h=>h.elim)
 ·simp only[ah.all,aA]
  rw[hJ2]
  refine⟨⟨aa,h.next,aa,aa⟩,0,aa,[(0,0),(1,1),(2,2)],rfl,rfl,rfl,?_⟩
  dsimp only
  rw[h00]
  exact bJ rfl rfl rfl (fun i hi=>cB rfl rfl) (aC (aC trivial))
 ·refine⟨_,aiE,?_⟩
  have hj1:=hS1 j
  obtain⟨hg,hd⟩:=hS j
  have hs1:∀{j},j<2000->Sz (S j).t 64:=fun hj=>(hS _).1.sz aa
  have hsj:=hs1 (j:=j) aa
  have hsj1:=hs1 (j:=j+1) aa
  have e1:(((p+1+j:Nat):Int)-(p:Int)).toNat+0=j+1:=aa
  simp only[ah.all,aA,bq,bw,beq_iff_eq,beq_eq_false_iff_ne,e1,cond_false]
  have v3:=fun a=>And.intro (gC (n:=n) (f:=fun i=>.int .i64 (z i)) (a:=a) (m:=3) aa) (gH (n:=n) (f:=fun i=>.int .i64 (z i)) (a:=a) (m:=3) aa)
  have v2:=fun a=>And.intro (gC (n:=n) (f:=fun i=>.int .i64 (z i)) (a:=a) (m:=2) aa) (gH (n:=n) (f:=fun i=>.int .i64 (z i)) (a:=a) (m:=2) aa)
  have q1:=v3 (S j).a
  have q2:=v3 (aR n (S j).a)
  have q3:=v2 (aR n (S j).a)
  have q4:=v2 (aR n (aR n (S j).a))
  refine⟨fun hi=>?_,fun hi=>⟨rfl,j,aa,[(0,0),(1,1),(2,2)],rfl,rfl,rfl,bJ rfl rfl rfl (fun i hi=>cB rfl rfl) (aC (aC trivial))⟩⟩
  have hlt:j<J:=aa
  have fin:∀(key:Nat) (t:Rat) (s s2:Nat) (b:Int) (g:Nat->AV),S (j+1)=⟨mu (S j).k (p+1+j) t,t,b⟩->g 0=.rat t s2->(iQ 3 [(0,0),(1,1),(2,key)])=true->(key==1)=false->(key==0)=false->
    Round [0] (fun j=>sR p (p+1+j) ((J-j:Nat):Int)) (fun j=>nF n z (S j).a (S j).t (p+1+j) (S j).k) 3 (fun j=>j<=J) (fun j=>j=J) (fun j=>J-j) 2 (fun _=>False) j normal
     ([ptr 0 0 2 0 [],int i64 p,ptr 1 0 3 0 [],own key 3 0 (p+1+j+1),int i64 (((J-j:Nat):Int)-1)],[(key,⟨true,true,3,p+1+j+1,fun i=>if i<p+1+j then .rat ((S j).k i) 64 else nth [.rat t s] (.rat 0 1) (i-(p+1+j)+0)⟩),(1,⟨false,true,3,1,g⟩),(0,mL n z b)]):=by
   intro key t s s2 b g e1 e2 e3 hk1 hk0
   rw[e1]at hsj1
   refine⟨j+1,aa,by dsimp only;omega,[(0,0),(1,1),(2,key)],by rw[e3];rfl,by rw[ae6 hlt];rfl,rfl,?_⟩
   dsimp only
   rw[e1]
   exact bJ rfl nS rfl (fun i hi=>Ma rfl hsj1 hi) (bG rfl ((Mj hk1).trans rfl) (.inr ⟨by rw[e2];rfl,by rw[e2];exact dn rfl hsj1⟩) (bG rfl ((Mj hk0).trans rfl) (cB rfl rfl) trivial))
  refine⟨fun hl=>?_,fun hl=>⟨fun hc=>?_,fun hc=>?_⟩⟩
  all_goals (repeat' with_reducible first|refine And.intro ?_ ?_|intro _)
  all_goals first|omega|exact hd|exact hd.next|exact hd.next.next|skip
  all_goals try exact absurd ‹true=false› (by decide)
  ·refine fin 147459 _ _ _ _ _ ?_ rfl rfl rfl rfl
   rw[hj1];unfold su tJ
   have hj0:j=0:=aa
   rw[if_pos (.inl hj0),if_pos hj0]
  ·refine fin 147459 _ _ _ _ _ ?_ rfl rfl rfl rfl
   rw[hj1];unfold su tJ
   have hj0:j≠0:=aa
   rw[if_pos (.inr (.inl hc)),if_neg hj0]
  ·refine fin 147459 _ _ _ _ _ ?_ rfl rfl rfl rfl
   rw[hj1];unfold su tJ
   have hj0:j≠0:=aa
   rename_i hk
   rw[if_pos (.inr (.inr hk)),if_neg hj0]
  ·refine fin 106499 _ _ _ _ _ ?_ rfl rfl rfl rfl
   rw[hj1];unfold su tJ
   have hj0:j≠0:=aa
   rename_i hk
   rw[if_neg (by simp only[hj0,hk,or_false,false_or];omega),if_neg hj0]
 subst hj
 have hs1:Sz ((S j).t+1) 64:=by
  obtain⟨z,e,h1,h2⟩:=(hS j).1.Ks (p+1+j)
  unfold nB at e
  rw[if_neg aa]at e
  rw[e];exact Qp aa aa
 refine au.j4 hT GV hm [1,0,1] (i:=4) (y:=part uV [1,0,1,0,0]) (z:=part uV [1,1]) ag ag ag ag hk (f1:=[]) (f2:=[72]) 60 zh 3
  (fun i:Nat=>sR p (p+1+j+i) i) (fun i=>nF n z (S j).a ((S j).t+1) (p+1+j+i) (nB p j (S j).k (S j).t)) (fun i=>i<=p+1) (fun i=>i=p+1) (fun i=>p+1-i) (fun _=>False) ⟨_,afT,?_⟩ (fun i hi=>?_) (fun i hi=>?_) (fun _ _ h=>h.elim)
 ·simp only[ah.all,aA]
  refine⟨⟨aa,aa,aa,aa,by decide,aa⟩,0,aa,[(0,0),(1,1),(2,2)],rfl,rfl,rfl,bJ rfl rfl rfl (fun i hi=>?_) (bG rfl rfl (.inr ⟨rfl,dn rfl hs1⟩) (aC trivial))⟩
  refine cB rfl ?_
  unfold nB
  rw[if_pos aa]
 ·refine⟨_,agB,?_⟩
  simp only[ah.all,aA,bq,bw]
  refine⟨fun _=>⟨aa,aa,i+1,aa,by dsimp only;omega,[(0,0),(1,1),(2,24579)],rfl,rfl,rfl,bJ rfl rfl rfl (fun i hi=>Ma ?_ hs1 hi) (aC (aC trivial))⟩,
   fun _=>⟨rfl,i,aa,[(0,0),(1,1),(2,2)],rfl,rfl,rfl,bJ rfl rfl rfl (fun i hi=>cB rfl rfl) (aC (aC trivial))⟩⟩
  funext x
  unfold mu nB
  split
  ·rename_i hx;rw[if_neg aa]
  ·split<;>rfl
 ·subst hi
  refine au.gr (aH.MQ hT GV hm 60 ak3 ag ⟨?_,_,rfl,rfl,pI rfl rfl⟩)
  exact nv aa fun _ _=>rfl
def J0 (n:Nat) (f:Nat->AV) (a:Int) (l:List AV):Option (AV×Int×List Prop):=match l with
 |[.int .i64 p,.int .i64 m]=>some (br (jz n f a p.toNat m.toNat) (ju n f a p.toNat m.toNat) 64,fH n f a p.toNat m.toNat,[1<=p,p<1000,0<=m,m<1000])
 |_=>none
theorem agP:aW P (jD J0) F5:=by
 refine wN fun {k n z a l v b q o} K hg ho hd hq=>?_
 unfold J0 at hg
 split at hg
 ·rename_i p m
  simp only[az,Prod.mk.injEq]at hg
  obtain⟨rfl,rfl,rfl⟩:=hg
  obtain⟨h1,h2,h3,h4⟩:=hq
  have h4:m<1000:=h4
  have:=acY (k:=k) (p:=p.toNat) (m:=m.toNat) ho hd aa aa aa K
  rw[Int.toNat_of_nonneg aa,Int.toNat_of_nonneg h3]at this
  exact this
 ·simp at hg
end Go.Am.B
