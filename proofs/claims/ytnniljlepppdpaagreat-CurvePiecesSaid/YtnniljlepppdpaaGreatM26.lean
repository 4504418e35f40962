/- brepkernellaw10.CurvePieces. -/
import Derived.Test.YtnniljlepppdpaaGreatY39
import Derived.Test.YtnniljlepppdpaaGreatY41
set_option linter.unusedVariables false
noncomputable section
namespace Go.Am.B
open Go Go.Am.N AV ag ak IntKind
theorem Pz:aU P Mi rH (az rH):=aT Proofs.Tryz.func4 ah ah ah
abbrev l6 (z:Nat->Int):Nat->AV:=fun i=>.int .i64 (z i)
def Lj:aV:=[(U8,gT T (sG::oO) [10] 60 ag3),(SI,gT T (sG::oO) [100010] 60 aeP)]
def we:aV:=nG::(G6,LV)::(DS,NN)::(AP,PM)::(Dp,BA)::(Ek,FJ)::(wR,Qo)::(Gc,Pv)::(JX++(Rc++(Lj++Om)))
abbrev Fz:Code:=az rH
abbrev rG:Code:=part Fz [1,1,1]
abbrev Bk:List Nat:=[4,1,5]
abbrev Ce (c:Cu):ax:=⟨false,true,3,1,fun _=>bT c 64 64⟩
abbrev Hx (c:Cu):ax:=⟨false,true,3,1,fun _=>bT c 2000 2000⟩
abbrev EW (c:Cu) (i:Int):aH:=⟨aF Bk [.bool false,.int .i64 i,.ptr 0 0 3 0 []],[(0,Ce c)],1⟩
abbrev xz:List Nat:=[4,5,6,7,8,9]
abbrev xC (c:Cu) (N:Nat) (F:Nat->Rat) (k:Nat):List AV:=[.bool false,.ptr 0 0 3 0 [],.aq 3 (N-1) (fun i=>bT (cF c F i) 2000 2000),.ptr 1 0 3 0 [],.ptr 2 0 3 0 [],.int .i64 k]
abbrev wZ (c J:Cu) (t:Rat):aE:=[(2,Hx J),(1,tP t 100),(0,Ce c)]
theorem Yt {n:Nat} {z:Nat->Int} {i:Int}:aJ T we [15] 60 Bk (before Fz [1,1,1]) ⟨aQ 0 [.aq 1 n (l6 z),.int .i64 i],[],0⟩=
  let c4:Int:=bK n (0:Int);let c3:Prop:=0<1;let c2:Nat:=Int.toNat (4:Int);let c1:Nat:=kX n (l6 z) (0:Int) (4:Int);some (fork (!decide ((↑n:Int)<=(500:Int))) (leaf ret ([AV.bool true,int i64 i,tuple []],[])) (aj [cW n (l6 z) (0:Int),(1:Int)<=(4:Int),(4:Int)<(900:Int),(0:Int)<=(4:Int),(4:Int)<(900:Int),c3,c3,c3] (leaf normal ([AV.bool false,int i64 i,ptr 24576 0 3 0 []],[((24576:Nat),bg fun j=>if(j==0)=true then bA (agg [int i64 (↑c1:Int),aq 3 (pI n (l6 z) c4 c1 c2) fun i=>rat (sr n (l6 z) c4 c1 c2 i) 64,aq 12 (c1+1+jS n (l6 z) c4 c2) fun i=>bU (rm n (l6 z) (jA n (l6 z) (lX n (l6 z) (0:Int) (4:Int) c2) i) false) 64])else agg [int i64 0,nil,nil])])))):=ah
theorem afn {c:Cu} {i:Int}:aJ T we [200028] 60 xz (before rG [1,1,1,1,0,1]) (EW c i)=
  let N:=aP c.k c.n;let F:=aR c.k c.n;let e:Int:=(c.n:Int)-1;let d:Int:=(N:Int)-1;let a:=lH (c.k 0) (c.k e.toNat);let o:Prop:=0<1;let K:=bV (fun i=>.rat (c.k i) 64) c.n 2000;some (aj [o,K,fI (fun i=>bU (c.f i) 64) c.m 2000,eZ c,c.m+(c.p.toNat+c.p.toNat)<=40] (aj [o,K,c.n<2^40,∀i:Nat,i<N->Sz (F i) 2000,-2^63<=d/\d<2^63] (aj [(((N-1:Nat):Int)!=d)=false] (aj [o,o,((c.n:Int)==0)=false,o,(0:Int)<=0/\0<c.n,o,o,-2^63<=e/\e<2^63,0<=e/\e.toNat<c.n,o,o,o,o,o] (aj [(0:Int)<=0/\0<N-1,o] (leaf .normal ([.bool false,.ptr 0 0 3 0 [],.aq 3 (N-1) (fun i=>bT (cF c F i) 2000 2000),.ptr 61441 0 3 0 [],.ptr 81921 0 3 0 [],.int .i64 0],
   [(81921,⟨false,true,3,1,fun j=>if(j==0)=true then bA (bT (cF c F 0) 2000 2000)else .agg [.int .i64 0,.nil,.nil]⟩),(61441,⟨false,true,3,1,fun j=>if(j==0)=true then bA (.rat (a+j8 i*(lP (c.k 0) (c.k e.toNat)-a)) (max 64 64+(64+(max 64 64+max 64 64+1))+1))else .rat 0 1⟩),(0,Ce c)]))))))):=ah
theorem acu {c J:Cu} {N k:Nat} {F:Nat->Rat} {t:Rat}:aJ T we [39,200055,71,83] 60 xz [part rG [1,1,1,1,0,1,0,0]] ⟨aF xz (xC c N F k),wZ c J t,3⟩=
  let D:=cF c F k;let o:Prop:=0<1;let e:Int:=(D.n:Int)-1;let a:=D.k e.toNat;let l:=decide (ek (lH (D.k 0) a) t<=(0:Int));let B:=bif l then bif true then decide (ek t (lP (D.k 0) a)<=(0:Int))else false else false;let h:Prop:=(0:Int)<=k/\k<N-1;let p:Int:=c.p+1;let K:=bV (fun i=>.rat (D.k i) 2000) D.n 2000;let L:=fI (fun i=>bU (D.f i) 2000) D.m 2000;let j:Int:=(k:Int)+1;let w:Prop:=-2^63<=j/\j<2^63;let R:aE:=[(1,tP t 100),(0,Ce c)];let V:=fun i:Int=>[.bool false,.ptr 0 0 3 0 [],.aq 3 (N-1) (fun i=>bT (cF c F i) 2000 2000),.ptr 1 0 3 0 [],.ptr 2 0 3 0 [],.int .i64 i];
  let X:ag (List AV×aE):=fork (decide ((k:Int)>0)) (aj [o,h,bV (fun i=>.rat (J.k i) 2000) J.n 2000,fI (fun i=>bU (J.f i) 2000) J.m 2000,K,L,dz J,dz D,J.m+D.m<=41,gb J D=0,lJ (fe J D),o] (aj [o,o] (aj [w] (leaf .normal (V j,(2,⟨false,true,3,1,fun j=>if(j==0)=true then bA (if((0:Nat)==0)=true then bA (bT (fe J D) 2000 2000)else .agg [.int .i64 0,.nil,.nil])else bT J 2000 2000⟩)::R))))) (aj [w] (leaf .normal (V j,(2,Hx J)::R)));
  let g:List Prop:=[o,o,l=true->aA [l=true],l=false->aA [l=false]];
  some (fork (decide ((k:Int)<(N-1:Nat))) (aj [h,h,-2^63<=p/\p<2^63,((D.m:Int)!=p)=false,h,bV (fun i=>.rat (D.k i) 2000) D.n 2048,fI (fun i=>bU (D.f i) 2000) D.m 2048,dz D,∀i:Nat,i<D.m->0<(D.f i).d] (aj [h,o,((D.n:Int)==0)=false,o,(0:Int)<=0/\0<D.n,o,o,-2^63<=e/\e<2^63,0<=e/\e.toNat<D.n,o,o,o,o] (fork B (aj (g++[B=true,o,h,o,o,bV (fun i=>.rat (c.k i) 64) c.n 2000,fI (fun i=>bU (c.f i) 64) c.m 2000,K,L,100<=sK,100<=sK,uD c D t t]) X) (aj (g++[B=false]) X)))) (leaf (.exit 0) (V k,(2,Hx J)::R))):=ah
theorem ahP {c J:Cu} {N k:Nat} {F:Nat->Rat} {t:Rat}:cJ T we [100108] 60 rH [part rG [1,1,1,1,1]] ⟨aF xz (xC c N F k),wZ c J t,3⟩=
  let c5:Int:=(2:Int)^63;let c4:Nat:=Int.toNat (0:Int);let c3:Int:=(↑J.n:Int)-(1:Int);let c2:Int:=(↑c.n:Int)-(1:Int);let c1:Prop:=0<1;let c7:Rat:=J.k c3.toNat;let c6:Rat:=c.k c2.toNat;some (aj [c1,c1,c1,c1,bV (fun i=>rat (c.k i) 64) c.n 2000,fI (fun i=>bU (c.f i) 64) c.m 2000,bV (fun i=>rat (J.k i) 2000) J.n 2000,fI (fun i=>bU (J.f i) 2000) J.m 2000,(100:Nat)<=sK,(100:Nat)<=sK,uD (Cu.mk c.p c.n (fun i=>aZ (rat (c.k i) 64)) c.m fun i=>iI (bU (c.f i) 64)) (Cu.mk J.p J.n (fun i=>aZ (rat (J.k i) 2000)) J.m fun i=>iI (bU (J.f i) 2000)) t t,c1,c1,((↑J.n:Int)==(0:Int))=false,c1,(0:Int)<=(0:Int)/\c4<J.n,c1,c1,-c5<=c3/\c3<c5,(0:Int)<=c3/\c3.toNat<J.n,c1,c1,c1,c1,c1,((↑c.n:Int)==(0:Int))=false,c1,(0:Int)<=(0:Int)/\c4<c.n,c1,c1,-c5<=c2/\c2<c5,(0:Int)<=c2/\c2.toNat<c.n,c1,c1,c1,decide (lH (J.k c4) c7=lH (c.k c4) c6)=true,(bif true then bif true then decide (lP (J.k c4) c7=lP (c.k c4) c6)else false else false)=true] (leaf ret [AV.bool true])):=ah
theorem adx:bn P Lj:=aI (ig hT (ke r5) hm (aT Proofs.Tryz.func29 ah ah ah) _ _) (aI (ig hT (ke r5) hm (aT Proofs.Tryz.func31 ah ah ah) _ _) bE)
theorem Gr:bn P we:=dB (aI aaW (aI Xt (aI Tu (aI abZ (aI Qd (aI Ug (aI UO (oF aef (oF Zx (oF adx agT))))))))))
theorem agI {c:Cu} {i:Int} {cx:Ctx} (hk:Kept [] cx) (hb:eZ c) (hp:c.p<=4) (h14:c.n<=2*c.p.toNat+6):ay P cx rH.ntmps rG (EW c i) (dX cx (Fin T rH (.bool true))):=by
 obtain⟨k1,k2,k3,k4,k5⟩:=id hb.d.kn
 have hl:=k1.len
 have hds:=k1.acL
 have hB:aP c.k c.n*c.p.toNat<=30:=by
  have:=Nat.mul_le_mul (show aP c.k c.n<=6 by omega) (show c.p.toNat<=4 by omega)
  omega
 have h40:c.m+(c.p.toNat+c.p.toNat)<=40:=aa
 have he:c.k 0<=c.k (c.n-1):=k1.mono (Nat.zero_le _) aa
 have hmin:lH (c.k 0) (c.k (c.n-1))=c.k 0:=by unfold lH;split<;>grind
 have hmax:lP (c.k 0) (c.k (c.n-1))=c.k (c.n-1):=by unfold lP;split<;>grind
 have hin:=k1.Ti (d:=i)
 obtain⟨t,ht⟩:∃t,t=c.k 0+j8 i*(c.k (c.n-1)-c.k 0):=⟨_,rfl⟩
 have htD:fH t:=by rw[ht];exact ahp (hb.h 0) (hb.h _) he
 rw[<-ht]at hin
 have hw:c.k 0<c.k (c.n-1):=by
  have i:=k1.Hq hin
  have v:=k1.uo hin
  exact i.at_.around (Nat.zero_le _) (show bL c.n c.k t<c.n-1 by omega) aa
 have hN:2<=aP c.k c.n:=by
  have:=aiB (n:=c.n) (k:=c.k) aa k1.sorted
  have h2:¬aP c.k c.n<2:=fun h=>by rw[this.1 h]at hw;exact absurd hw Rat.lt_irrefl
  omega
 refine ay.jx hT Gr hm (x:=rG) [1,1,1,1,0,1] (i:=0) (y:=part rG [1,1,1,1,0,1,0,0]) (z:=part rG [1,1,1,1,1]) ah ah ah ah hk (f1:=[200028]) (f2:=[39,200055,71,83]) 60 xz 3 (fun k:Nat=>xC c (aP c.k c.n) (aR c.k c.n) k) (fun k=>wZ c (mS c (aR c.k c.n) (k-1)) t) (fun k=>k<=aP c.k c.n-1) (fun k=>k=aP c.k c.n-1) (fun k=>aP c.k c.n-1-k) (fun _=>False)
  ⟨_,afn,?_⟩ (fun k hkN=>⟨_,acu,?_⟩) (fun k hkN=>?_) (fun _ _ h=>h.elim)
 ·have e1:((c.n:Int)-1).toNat=c.n-1:=aa
  have hne:(((aP c.k c.n-1:Nat):Int)!=(aP c.k c.n:Int)-1)=false:=bne_eq_false_iff_eq.2 aa
  simp only[ag.all,aA,e1,hmin,hmax]
  refine⟨⟨aa,cI (by decide),gh (by decide),hb,h40⟩,⟨aa,cI (by decide),aa,fun i hi=>rR (pW hb hi),aa⟩,hne,⟨aa,aa,beq_eq_false_iff_ne.2 aa,aa,aa,aa,aa,aa,aa,aa,aa,aa,aa,aa⟩,⟨aa,aa⟩,0,Nat.zero_le _,[(0,0),(1,61441),(2,81921)],rfl,rfl,rfl,aO (dF rfl rfl (by exact .inr ⟨rfl,cV ht.symm (htD.sz.more (by decide))⟩) (aO trivial))⟩
 ·have i0:∀{k:Nat} {V:List AV×aE} {J:Cu},V=(xC c (aP c.k c.n) (aR c.k c.n) k,wZ c J t)->eu [] V (xC c (aP c.k c.n) (aR c.k c.n) k) (wZ c J t) 3:=fun e=>e▸⟨[(0,0),(1,1),(2,2)],rfl,rfl,rfl,aO (aO (aO trivial))⟩
  simp only[ag.all,aA,List.cons_append,List.nil_append,bf,bt]
  refine⟨fun h1=>?_,fun h1=>⟨rfl,k,aa,i0 rfl⟩⟩
  have hk1:k+1<aP c.k c.n:=aa
  obtain⟨w,s⟩:=DE hb h40 hk1
  obtain⟨d1,d2,d3,d4⟩:=Cr (c:=c) (F:=aR c.k c.n) (k:=k) aa
  have dl:=w.kn.1.len
  have eD:(((cF c (aR c.k c.n) k).n:Int)-1).toNat=(cF c (aR c.k c.n) k).n-1:=aa
  have hmm:(cF c (aR c.k c.n) k).k 0<=(cF c (aR c.k c.n) k).k ((cF c (aR c.k c.n) k).n-1):=w.kn.1.mono (Nat.zero_le _) aa
  have m1:lH ((cF c (aR c.k c.n) k).k 0) ((cF c (aR c.k c.n) k).k ((cF c (aR c.k c.n) k).n-1))=(cF c (aR c.k c.n) k).k 0:=by unfold lH;split<;>grind
  have m2:lP ((cF c (aR c.k c.n) k).k 0) ((cF c (aR c.k c.n) k).k ((cF c (aR c.k c.n) k).n-1))=(cF c (aR c.k c.n) k).k ((cF c (aR c.k c.n) k).n-1):=by unfold lP;split<;>grind
  have hw:∀i,i<(cF c (aR c.k c.n) k).m->0<((cF c (aR c.k c.n) k).f i).d:=fun i _=>w.pos i
  have hp':(((cF c (aR c.k c.n) k).m:Int)!=c.p+1)=false:=bne_eq_false_iff_eq.2 aa
  have hX:∀k',k=k'+1->gb (mS c (aR c.k c.n) (k-1)) (cF c (aR c.k c.n) k)=0/\(mS c (aR c.k c.n) (k-1)).m+(cF c (aR c.k c.n) k).m<=41/\dz (mS c (aR c.k c.n) (k-1))/\lJ (fe (mS c (aR c.k c.n) (k-1)) (cF c (aR c.k c.n) k)):=fun k' e=>by
   subst e
   have hJ:=oc.all hb h40 hB (k:=k') aa
   obtain⟨a,b,d⟩:=Q3 hb h40 hB hk1 hJ
   exact⟨a,b,hJ.w.kn,d.s⟩
  have eX:∀k',k=k'+1->fe (mS c (aR c.k c.n) (k-1)) (cF c (aR c.k c.n) k)=mS c (aR c.k c.n) k:=fun k' e=>by subst e;rfl
  rw[eD,m1,m2]
  have hst:aR c.k c.n k<=t->t<=aR c.k c.n (k+1)->uD c (cF c (aR c.k c.n) k) t t:=fun a b=>afY hb h40 hk1 hin a b
  rw[<-d1,<-d2]at hst
  have hkn:=w.kn
  clear w s
  generalize cF c (aR c.k c.n) k=D at*
  obtain⟨a,ha⟩:∃a,a=D.k 0:=⟨_,rfl⟩
  obtain⟨b,hb'⟩:∃b,b=D.k (D.n-1):=⟨_,rfl⟩
  rw[<-ha,<-hb']at hst ⊢
  refine(fun xx=>⟨⟨aa,aa,aa,hp',aa,cI (by decide),gh (by decide),hkn,hw⟩,⟨aa,aa,beq_eq_false_iff_ne.2 aa,aa,aa,aa,aa,aa,aa,aa,aa,aa,aa⟩,
   fun h2=>⟨⟨aa,aa,id,id,h2,aa,aa,aa,aa,cI (by decide),gh (by decide),cI (by decide),gh (by decide),by decide,by decide,?_⟩,xx⟩,fun h2=>⟨⟨aa,aa,id,id,h2⟩,xx⟩⟩) ?_
  ·refine⟨fun h2=>?_,fun h2=>⟨aa,k+1,aa,by dsimp only;omega,?_⟩⟩
   ·obtain⟨k',hk'⟩:∃k',k=k'+1:=⟨k-1,aa⟩
    obtain⟨x1,x2,x3,x4⟩:=hX k' hk'
    refine⟨⟨aa,aa,cI (by decide),gh (by decide),cI (by decide),gh (by decide),x3,hkn,x2,x1,x4,aa⟩,⟨aa,aa⟩,aa,k+1,aa,by dsimp only;omega,?_⟩
    rw[eX k' hk']
    exact⟨[(0,0),(1,1),(2,2)],rfl,rfl,rfl,aO (aO (aO trivial))⟩
   ·obtain rfl:k=0:=aa
    exact i0 rfl
  ·cases g1:decide (ek a t<=0)<;>rw[g1]at h2
   ·exact absurd h2 (by simp)
   ·cases g2:decide (ek t b<=0)<;>rw[g2]at h2
    ·exact absurd h2 (by simp)
    ·exact hst (Fs.1 (of_decide_eq_true g1)) (Fs.1 (of_decide_eq_true g2))
 ·obtain⟨N,hNe⟩:∃N,aP c.k c.n=N+2:=⟨aP c.k c.n-2,aa⟩
  have e2:k-1=N:=aa
  obtain⟨q1,q2,q3⟩:=abu hb hin (k:=N) aa (oc.all hb h40 hB (k:=N) aa)
  have hjm:=(oc.all hb h40 hB (k:=N) aa).m
  have hjM:(N+1)*c.p.toNat<=30:=Nat.le_trans (Nat.mul_le_mul_right _ aa) hB
  have hkn:=q1.kd
  have jl:=hkn.1.len
  rw[e2]
  obtain⟨J,hJ⟩:∃J,J=mS c (aR c.k c.n) N:=⟨_,rfl⟩
  rw[<-hJ]at q1 q2 q3 hkn jl hjm ⊢
  have hj5:=hkn.2.2.2.2
  have hj3:=hkn.2.2.1
  have e1:((c.n:Int)-1).toNat=c.n-1:=aa
  have e3:((J.n:Int)-1).toNat=J.n-1:=aa
  refine ay.mC ((aG.fin hT Gr hm 60 ahP ah ?_).mono fun _ _ h=>.inl h)
  simp only[ag.all,aA,e1,e3,Int.toNat_zero,q2,q3]
  (repeat' with_reducible refine And.intro ?_ ?_)
  all_goals first|omega|assumption|exact cI (by decide)|exact gh (by decide)|exact q1|exact beq_eq_false_iff_ne.2 aa|exact decide_eq_true rfl|decide|exact .refl _|skip
set_option maxRecDepth 20000 in
set_option maxHeartbeats 1000000 in
theorem acw {n:Nat} {z:Nat->Int} {i:Int} (K:Nat):aD P Mi K [.aq 1 n (fun i=>.int .i64 (z i)),.int .i64 i] [] (aL (.bool true) []):=by
 refine iy (r:=aL (.bool true) []) hT Pz rfl aW rfl (fun _ cx h0=>?_) K []
 have hk:=sL h0
 have hret:nO rH Bk (.bool true) ([AV.bool true,.int .i64 i,tuple []],[]):=⟨[.bool true],ah,bD.refl _⟩
 refine ay.hole [1,1,1] ah (aG.bz hT Gr hm 60 Bk Yt (nW Pz.dst) ?_)
 simp only[ag.all,aA]
 refine⟨fun h s' hs'=>hret.fin hs',fun h=>?_⟩
 have hn:n<=500:=by simp only[Bool.not_eq_false',bf]at h;omega
 have hd:cW n (l6 z) 0:=⟨fun i=>rfl,aa,aa,aa⟩
 obtain⟨c,hc⟩:∃c,c=gp n (l6 z) 0 4 (Int.toNat 4) false:=⟨_,rfl⟩
 obtain⟨k1,k2,k3,k4,k5,k6⟩:=Kg (m:=Int.toNat 4) (b:=false) hd (show(1:Int)<=4 by omega)
 have t4:Int.toNat 4=4:=rfl
 have hD:gO c 5:=by rw[hc];exact T8 hd aa aa (by decide)
 have hH:∀i,oM (c.k i):=by rw[hc];exact fun i=>Oi hd aa (by decide) i
 rw[<-hc]at k1 k2 k3 k4 k5 k6
 rw[t4]at k5
 have hl:=k1.len
 refine⟨⟨hd,aa,aa,aa,aa,aa,aa,aa⟩,fun s' hs'=>?_⟩
 rw[show behind Fz [1,1,1]=[]from by kernel_rfl]
 refine ay.lT (s2:=EW c i) (eu.le ⟨[(0,24576)],rfl,rfl,rfl,dF rfl rfl (cB rfl ?_) trivial⟩ hs' hk) ((agI hk ⟨hD,hH⟩ aa aa).mono fun e s' h=>by cases e<;>exact h)
 rw[hc];rfl
end Go.Am.B
