/- roots.gcd, free. -/
import Derived.Test.YtolopdkjjlfgjaaGreatY37
import Derived.Test.YtolopdkjjlfgjaaGreatZ2
set_option linter.unusedVariables false
noncomputable section
namespace Go.Am.B
open Go Go.Am.N AV af aq IntKind Proofs.Tryz
abbrev aI (a:PP):AV:=aV a.2 a.1 ag
def An:bh:=zG::(88,zM)::(135,DQ)::gB
abbrev xh:Code:=aH f72
abbrev mV:List Nat:=[0,1]
abbrev sB (s:PP×PP):List AV:=[aI s.1,aI s.2]
def j4 (a d:PP):Prop:=lR a.1 (d.1-1) d.2 a.2
def jQ (s:PP×PP):Prop:=(∀j,(bJ s j).2.1≠0->j4 (bJ s j).1 (bJ s j).2/\cG (cw (bJ s j).1 (bJ s j).2).1 (cu (cw (bJ s j).1 (bJ s j).2).1 (cw (bJ s j).1 (bJ s j).2).2))/\cG (bS s.1 s.2).1 (bS s.1 s.2).2
def yI:Spec:=dA (kC (kL ag) (kC (kL ag) kN)) (fun a=>aI (bS a.1 a.2.1)) fun a=>[a.1.1<2^30,a.2.1.1<2^30,Trim a.1,Trim a.2.1,jQ (a.1,a.2.1)]
def vJ (a:PP):Prop:=a.1≠0->jQ (a,bQ a)/\j4 a (bS a (bQ a))/\cG (bX a).1 (bX a).2
def Ht:bh:=zG::(88,zM)::(135,DQ)::(73,pT)::(72,yI)::gB
theorem Vy:aX 72 f72:=aZ func72
theorem Ux:aX 80 f80:=aZ func80
theorem Vg {s:PP×PP}:aG T An [] 60 mV (before xh [1,0]) ⟨aT 0 [aI s.1,aI s.2],[],0⟩=
  some (leaf normal ([ak 3 s.fst.fst fun i=>rat (s.fst.snd i) ag,ak 3 s.snd.fst fun i=>rat (s.snd.snd i) ag],[])):=ah
theorem Qi {a b:PP}:aG T An [9] 60 mV [part xh [1,0,0,0]] ⟨aC mV [aI a,aI b],[],0⟩=
  let c3:AV:=ak 3 b.fst fun i=>rat (b.snd i) ag;let c2:Nat:=b.fst-1;let c4:Nat:=a.fst-c2;let c1:Nat:=br (bP c2 (fun i=>aS (rat (b.snd i) ag)) (fun i=>aS (rat (a.snd i) ag)) c4 c4) a.fst;some (fork (decide ((↑b.fst:Int)>0)) (aj [cF (fun i=>rat (a.snd i) ag) a.fst ag,cF (fun i=>rat (b.snd i) ag) b.fst ag,a.fst<2^30,(1:Nat)<=b.fst,b.fst<2^30,a.fst=0\/aS (rat (a.snd (a.fst-1)) ag)≠0,aS (rat (b.snd c2) ag)≠0,lR a.fst c2 (fun i=>aS (rat (b.snd i) ag)) fun i=>aS (rat (a.snd i) ag)] (aj [cF (fun i=>rat (bP c2 (fun i=>aS (rat (b.snd i) ag)) (fun i=>aS (rat (a.snd i) ag)) c4 c4 i) ag) c1 ag,c1<2^40,cG c1 (cu c1 fun i=>aS (rat (bP c2 (fun i=>aS (rat (b.snd i) ag)) (fun i=>aS (rat (a.snd i) ag)) c4 c4 i) ag))] (leaf normal ([c3,ak 3 c1 fun i=>rat (cu c1 (fun i=>aS (rat (bP c2 (fun i=>aS (rat (b.snd i) ag)) (fun i=>aS (rat (a.snd i) ag)) c4 c4 i) ag)) i) ag],[])))) (leaf (exit 0) ([ak 3 a.fst fun i=>rat (a.snd i) ag,c3],[]))):=ah
theorem Qf {a b:PP}:cA T An [] 60 f72 [part xh [1,1]] ⟨aC mV [aI a,aI b],[],0⟩=
  some (aj [cF (fun i=>rat (a.snd i) ag) a.fst ag,a.fst<2^40,cG a.fst (cu a.fst fun i=>aS (rat (a.snd i) ag))] (leaf ret [ak 3 a.fst fun i=>rat (cu a.fst (fun i=>aS (rat (a.snd i) ag)) i) ag])):=ah
theorem Np {a:PP}:bR T Ht [7] 60 f80 (aH f80) ⟨aT 0 [aI a],[],0⟩=
  let c9:Nat:=a.fst;let c8:Nat:=2^30;let c11:Nat:=c9-1;let c7:Nat×(Nat->Rat):=(c9,fun i=>aS (rat (a.snd i) ag));let c6:Prop:=cF (fun i=>rat (a.snd i) ag) c9 ag;let c3:Nat:=br (cT fun i=>aS (rat (a.snd i) ag)) c11;let c5:Nat×(Nat->Rat):=(c3,fun i=>aS (rat (cT (fun i=>aS (rat (a.snd i) ag)) i) ag));let c1:PP:=(bJ (c7,c5) c3).fst;let c10:Nat:=c1.fst;let c4:Nat:=c10-1;let c2:Nat:=br (cY c4 (fun i=>aS (rat (cu c10 c1.snd i) ag)) (fun i=>aS (rat (a.snd i) ag)) (c9-c4)) (c9-c4);some (fork ((↑c9:Int)==0) (leaf ret [nil]) (aj [c6,c9<2^40,cG c11 (cT fun i=>aS (rat (a.snd i) ag)),c6,cF (fun i=>rat (cT (fun i=>aS (rat (a.snd i) ag)) i) ag) c3 ag,c9<c8,c3<c8,Trim c7,Trim c5,jQ (c7,c5),c6,cF (fun i=>rat (cu c10 c1.snd i) ag) c10 ag,c9<c8,(1:Nat)<=c10,c10<c8,c9=0\/aS (rat (a.snd c11) ag)≠0,aS (rat (cu c10 c1.snd c4) ag)≠0,lR c9 c4 (fun i=>aS (rat (cu c10 c1.snd i) ag)) fun i=>aS (rat (a.snd i) ag)] (aj [cF (fun i=>rat (cY c4 (fun i=>aS (rat (cu c10 c1.snd i) ag)) (fun i=>aS (rat (a.snd i) ag)) (c9-c4) i) ag) c2 ag,c2<2^40,cG c2 (cu c2 fun i=>aS (rat (cY c4 (fun i=>aS (rat (cu c10 c1.snd i) ag)) (fun i=>aS (rat (a.snd i) ag)) (c9-c4) i) ag))] (leaf ret [ak 3 c2 fun i=>rat (cu c2 (fun i=>aS (rat (cY c4 (fun i=>aS (rat (cu c10 c1.snd i) ag)) (fun i=>aS (rat (a.snd i) ag)) (c9-c4) i) ag)) i) ag])))):=ah
theorem YG:bI P An:=fD (aL Eb (aL Hz gE))
theorem Xo {a b:PP} (ha:a.1<2^30) (hb:b.1<2^30) (ta:Trim a) (tb:Trim b) (hz:jQ (a,b)) (K:Nat):aP P 72 K [aI a,aI b] [] (aK (aI (bS a b)) []):=by
 obtain⟨s,hs⟩:∃s,s=(a,b):=⟨_,rfl⟩
 have hT1:=mI (s:=s) (by rw[hs];exact ta) (by rw[hs];exact tb)
 have hL:=wV (s:=s) (by rw[hs];exact ta) (by rw[hs];exact tb)
 have hB:=o4 (s:=s) (B:=2^30-1) (by rw[hs];dsimp only;omega) (by rw[hs];dsimp only;omega) (by rw[hs];exact ta) (by rw[hs];exact tb)
 have hb2:s.2.1=b.1:=by rw[hs]
 rw[<-hs]at hz
 refine iG (r:=aK (aI (bS a b)) []) hT YG hm Vy rfl aW rfl [1,0] (i:=0) (y:=part xh [1,0,0,0]) (z:=part xh [1,1]) ah ah ah (f1:=[]) (f2:=[9]) (f3:=[]) 60 mV 0
  (fun j:Nat=>sB (bJ s j)) (fun _=>[]) (fun j=>j<=b.1) (fun j=>j<=b.1/\(bJ s j).2.1=0) (fun j=>(bJ s j).2.1) (fun _=>⟨⟨_,Vg (s:=(a,b)),?_⟩,fun j hj=>⟨_,Qi,?_⟩,fun j hj=>⟨_,Qf,?_⟩⟩) K []
 ·simp only[af.all,aA]
  exact⟨0,Nat.zero_le _,by rw[hs];exact dx.vals rfl⟩
 ·have h1:=hT1 j
  have h2:=hL j
  have h3:=hB j
  have h4:=hB (j+1)
  have h5:=hz.1 j
  have e1:(bJ s j).2.1≠0->bJ s (j+1)=((bJ s j).2,dO (cw (bJ s j).1 (bJ s j).2)):=fun h=>if_neg h
  have e2:=hL (j+1)
  obtain⟨x,y,hx⟩:∃x y,bJ s j=(x,y):=⟨_,_,rfl⟩
  rw[hx]at h1 h2 h3 h5 e1
  dsimp only at h1 h2 h3 h5 e1
  simp only[af.all,aA,bw,bB,hx]
  refine⟨fun h=>?_,fun h=>⟨rfl,j,⟨hj,by rw[hx];dsimp only;omega⟩,by show dx _ _ (sB (bJ s j)) _ _;rw[hx];exact dx.vals rfl⟩⟩
  have hy:y.1≠0:=aa
  have e1:=e1 hy
  rw[e1]at h4 e2
  have hr:(cw x y).1<y.1:=nD aa h1.2
  have ty:y.2 (y.1-1)≠0:=by rcases h1.2 with h|h;omega;exact h
  refine⟨⟨cZ aQ,cZ aQ,aa,aa,aa,h1.1,ty,(h5 hy).1⟩,⟨cZ aQ,by show(cw x y).1<_;omega,(h5 hy).2⟩,j+1,aa,?_,?_⟩
  ·show(bJ s (j+1)).2.1<(bJ s j).2.1
   rw[e1,hx];exact hr
  ·show dx _ _ (sB (bJ s (j+1))) _ _
   rw[e1];exact dx.vals rfl
 ·obtain⟨hj,h0⟩:=hj
  have hg:dO (bJ s j).1=bS a b:=by rw[hs]at h0 ⊢;exact acw ta tb hj h0
  have h3:=hB j
  have hz2:=hz.2
  rw[show s.1=a by rw[hs],show s.2=b by rw[hs],<-hg]at hz2
  rw[<-hg]
  simp only[af.all,aA]
  exact⟨⟨cZ aQ,aa,hz2⟩,.refl _⟩
theorem Ct:bf P yI 72:=cR fun⟨a,b,_⟩ K hn=>Xo hn.1 hn.2.1 hn.2.2.1 hn.2.2.2.1 hn.2.2.2.2 K
theorem Uw:bI P Ht:=fD (aL Eb (aL Hz (aL Em (aL Ct gE))))
theorem Hs {a:PP} (ha:a.1<2^30) (ta:Trim a) (hd:cG (a.1-1) (cT a.2)) (hz:vJ a) (K:Nat):aP P 80 K [aI a] [] (aK (aI (bX a)) []):=by
 refine bZ hT Uw hm Ux rfl aW rfl 60 Np (fun _=>?_) K []
 simp only[af.all,aA,beq_iff_eq,beq_eq_false_iff_ne]
 refine⟨fun h=>?_,fun h=>?_⟩
 ·have h0:a.1=0:=aa
  unfold bX
  rw[if_pos h0];exact jS aa
 ·have h0:a.1≠0:=aa
  obtain⟨z1,z2,z3⟩:=hz h0
  have e0:bX a=dO (eZ a (bS a (bQ a))):=if_neg h0
  rw[e0]at z3 ⊢
  have hd1:(bQ a).1<=a.1-1:=eI
  have hg:=o4 (s:=(a,bQ a)) (B:=a.1) aQ (by dsimp only;omega) ta fA (bQ a).1
  have hgp:0<(bS a (bQ a)).1:=As aa
  have tg:Trim (bS a (bQ a)):=mu ta fA
  have tg':(bS a (bQ a)).2 ((bS a (bQ a)).1-1)≠0:=by rcases tg with h|h;omega;exact h
  have hq:(eZ a (bS a (bQ a))).1<=a.1:=Nat.le_trans eI (Nat.sub_le _ _)
  exact⟨⟨cZ aQ,aa,hd,cZ aQ,cZ aQ,ha,Nat.lt_of_le_of_lt hd1 aa,ta,fA,z1,cZ aQ,cZ aQ,ha,hgp,Nat.lt_of_le_of_lt hg ha,ta,tg',z2⟩,⟨cZ aQ,Nat.lt_of_le_of_lt hq aa,z3⟩,.refl _⟩
def Kf:Spec:=dA (kC (kL ag) kN) (fun a=>aI (bX a.1)) fun a=>[a.1.1<2^30,Trim a.1,cG (a.1.1-1) (cT a.1.2),vJ a.1]
theorem V4:bf P Kf 80:=cR fun⟨a,_⟩ K hn=>Hs hn.1 hn.2.1 hn.2.2.1 hn.2.2.2 K
abbrev AN (n:Nat) (s:PP×PP):AV:=.ak 1 n fun i=>aI (bG s i).1
abbrev kM (n:Nat) (s:PP×PP):ax:=⟨true,true,1,n,fun i=>aI (bG s i).1⟩
def yD:bh:=zG::(88,zM)::(121,ER)::(73,pT)::(80,Kf)::gB
abbrev wz:Code:=aH f59
abbrev xJ:List Nat:=[3,4,5]
abbrev xW (s:PP×PP) (j:Nat):List AV:=[aI (bG s j).1,.own 0 1 0 (j+1),aI (bG s j).2]
def ye (s:PP×PP):Prop:=∀j,j<eU s->j4 (bG s j).1 (bG s j).2/\cG (bG s (j+1)).2.1 (bG s (j+1)).2.2
theorem Z4:aX 59 f59:=aZ func59
theorem adI {a:PP}:aG T yD [] 60 xJ (before wz [1,1,1,0,1]) ⟨aT 0 [aI a],[],0⟩=
  let c2:Nat×(Nat->Rat):=(a.fst,fun i=>aS (rat (a.snd i) ag));let c1:PP:=bX c2;some (aj [cF (fun i=>rat (a.snd i) ag) a.fst ag,a.fst<2^30,Trim c2,cG (a.fst-1) (cT fun i=>aS (rat (a.snd i) ag)),vJ c2] (aj [(1:Nat)*1<=2^24] (aj [cF (fun i=>rat (c1.snd i) ag) c1.fst ag,c1.fst<2^40,cG (c1.fst-1) (cT fun i=>aS (rat (c1.snd i) ag))] (leaf normal ([ak 3 c1.fst fun i=>rat (c1.snd i) ag,own 20480 1 0 1,ak 3 (br (cT fun i=>aS (rat (c1.snd i) ag)) (c1.fst-1)) fun i=>rat (cT (fun i=>aS (rat (c1.snd i) ag)) i) ag],[(20480,ax.mk true true 1 1 fun i=>nth [ak 3 c1.fst fun i=>rat (c1.snd i) ag] nil i)]))))):=ah
theorem abi {x y:PP} {s:PP×PP} {j:Nat}:aG T yD [16] 60 xJ [part wz [1,1,1,0,1,0,0]] ⟨aC xJ [aI x,.own 0 1 0 (j+1),aI y],[(0,kM (j+1) s)],1⟩=
  let c6:Int:=(-1:Int);let c4:AV:=ak 3 y.fst fun i=>rat (y.snd i) ag;let c3:Nat:=j+1;let c2:Nat:=y.fst-1;let c7:Nat:=c3+1;let c5:Nat:=x.fst-c2;let c1:Nat:=br (bP c2 (fun i=>aS (rat (y.snd i) ag)) (fun i=>aS (rat (x.snd i) ag)) c5 c5) x.fst;some (fork (decide ((↑y.fst:Int)>0)) (aj [(1:Nat)*1<=2^24,c7*((24:Nat)+1)*2<=2^47] (aj [cF (fun i=>rat (x.snd i) ag) x.fst ag,cF (fun i=>rat (y.snd i) ag) y.fst ag,x.fst<2^30,(1:Nat)<=y.fst,y.fst<2^30,x.fst=0\/aS (rat (x.snd (x.fst-1)) ag)≠0,aS (rat (y.snd c2) ag)≠0,lR x.fst c2 (fun i=>aS (rat (y.snd i) ag)) fun i=>aS (rat (x.snd i) ag)] (aj [-(2:Int)^63<=c6,c6<2^63,cF (fun i=>rat (bP c2 (fun i=>aS (rat (y.snd i) ag)) (fun i=>aS (rat (x.snd i) ag)) c5 c5 i) ag) c1 ag,Max.max 1 (bK c6.natAbs)<=rR,c1<2^40,cG c1 fun i=>(↑c6:Rat)*aS (rat (bP c2 (fun i=>aS (rat (y.snd i) ag)) (fun i=>aS (rat (x.snd i) ag)) c5 c5 i) ag)] (leaf normal ([c4,own 24577 1 0 c7,ak 3 c1 fun i=>rat ((↑c6:Rat)*aS (rat (bP c2 (fun i=>aS (rat (y.snd i) ag)) (fun i=>aS (rat (x.snd i) ag)) c5 c5 i) ag)) ag],[(24577,ax.mk true true 1 c7 fun i=>if i<c3 then aI (bG s i).fst else nth [ak 3 y.fst fun i=>rat (y.snd i) ag] nil (i-c3+0))]))))) (leaf (exit 0) ([ak 3 x.fst fun i=>rat (x.snd i) ag,own 0 1 0 c3,c4],[(0,ax.mk true true 1 c3 fun i=>ak 3 (bG s i).fst.fst fun i_1=>rat ((bG s i).fst.snd i_1) ag)]))):=ah
theorem NL {s:PP×PP} {j:Nat}:cA T yD [] 60 f59 [part wz [1,1,1,1]] ⟨aC xJ (xW s j),[(0,kM (j+1) s)],1⟩=
  some (leaf ret [ak 1 (j+1) fun i=>ak 3 (bG s (i+0)).fst.fst fun i_1=>rat ((bG s (i+0)).fst.snd i_1) ag]):=ah
theorem NS:bI P yD:=fD (aL Eb (aL I9 (aL Em (aL V4 gE))))
theorem Yf {a:PP} (ha:a.1<2^30) (ta:Trim a) (hd:cG (a.1-1) (cT a.2)) (hz:vJ a) (hd2:cG ((bX a).1-1) (cT (bX a).2)) (hs:ye (gj a)) (K:Nat):aP P 59 K [aI a] [] (aK (AN (eU (gj a)+1) (gj a)) []):=by
 obtain⟨s,hss⟩:∃s,s=gj a:=⟨_,rfl⟩
 have t1:Trim s.1:=by rw[hss];exact pI
 have t2:Trim s.2:=by rw[hss];exact fA
 have hTr:=oE t1 t2
 obtain⟨g1,g2,g3⟩:=rN t1 t2
 have hfl:(bX a).1<=a.1:=by
  unfold bX;split
  ·exact Nat.zero_le _
  ·exact Nat.le_trans eI (Nat.sub_le _ _)
 have hdl:(bQ (bX a)).1<=(bX a).1-1:=eI
 have hB:=EY (s:=s) (B:=2^30-1) (by rw[hss];show(bX a).1<=_;omega) (by rw[hss];show(bQ (bX a)).1<=_;omega) t1 t2
 have hg0:s.2.1=(bQ (bX a)).1:=by rw[hss];rfl
 have hg:eU s<2^30:=aa
 rw[<-hss]at hs ⊢
 refine iG (r:=aK (AN (eU s+1) s) []) hT NS hm Z4 rfl aW rfl [1,1,1,0,1] (i:=0) (y:=part wz [1,1,1,0,1,0,0]) (z:=part wz [1,1,1,1]) ah ah ah (f1:=[]) (f2:=[16]) (f3:=[]) 60 xJ 1
  (fun j:Nat=>xW s j) (fun j=>[(0,kM (j+1) s)]) (fun j=>j<=eU s) (fun j=>j=eU s) (fun j=>eU s-j) (fun _=>⟨⟨_,adI,?_⟩,fun j hj=>⟨_,abi (x:=(bG s j).1) (y:=(bG s j).2),?_⟩,fun j hj=>⟨_,NL,?_⟩⟩) K []
 ·simp only[af.all,aA]
  refine⟨⟨cZ aQ,ha,ta,hd,hz⟩,aa,⟨cZ aQ,Nat.lt_of_le_of_lt hfl aa,hd2⟩,0,Nat.zero_le _,[(0,20480)],rfl,by rw[hss];rfl,rfl,bg rfl rfl rfl (fun i hi=>?_) trivial⟩
  obtain rfl:i=0:=aa
  rw[hss];exact bE rfl rfl
 ·have h1:=hTr j
  have h3:=hB j hj
  have hb:bK (Int.natAbs (-1))=1:=by decide
  have hW:=cW
  have hX:=Df
  simp only[af.all,aA,bw,bB]
  refine⟨fun h=>?_,fun h=>?_⟩
  ·have hy:(bG s j).2.1≠0:=aa
   have hjl:j<eU s:=by
    rcases Nat.lt_or_ge j (eU s)with h|h
    ·exact h
    ·exact absurd (by rw[show j=eU s by omega];exact g2) hy
   have hr:(cw (bG s j).1 (bG s j).2).1<(bG s j).2.1:=nD aa h1.2
   have ty:(bG s j).2.2 ((bG s j).2.1-1)≠0:=by rcases h1.2 with h|h;omega;exact h
   refine⟨⟨aa,aa⟩,⟨cZ aQ,cZ aQ,aa,aa,aa,h1.1,ty,(hs j hjl).1⟩,⟨aa,aa,cZ aQ,by rw[hb,Nat.max_self];omega,by show(cw (bG s j).1 (bG s j).2).1<_;omega,(hs j hjl).2⟩,j+1,hjl,by dsimp only;omega,[(0,24577)],rfl,rfl,rfl,bg rfl rfl rfl (fun i hi=>?_) trivial⟩
   by_cases hi2:i<j+1
   ·rw[if_pos hi2];exact bE rfl rfl
   ·rw[if_neg hi2,show i-(j+1)+0=0 by omega,show i=j+1 by omega];exact bE rfl rfl
  ·have hjl:j=eU s:=by
    rcases Nat.lt_or_ge j (eU s)with h'|h'
    ·have:=g3 j h';omega
    ·omega
   exact⟨rfl,j,hjl,[(0,0)],rfl,rfl,rfl,bg rfl rfl rfl (fun i hi=>bE rfl rfl) trivial⟩
 ·subst hj
  exact .refl _
abbrev sK:Nat:=4096
abbrev ls (k:Nat->Rat) (n:Nat):AV:=aV k n sK
abbrev Iq (n:Nat) (k:Nat->Rat) (i:Nat):List AV:=[ls k n,.ptr 0 0 3 0 [],.int .i64 i,.int .i64 0,.int .i64 0]
theorem QB {a b:Rat}:iy a b>=0↔b<=a:=by
 have:=@yP a b
 constructor
 ·intro h
  have:¬a<b:=fun h'=>by have:=yP.2 h';omega
  grind
 ·intro h
  have:¬iy a b<0:=fun h'=>by have:=yP.1 h';grind
  omega
def U7 (n:Nat) (k:Nat->Rat) (t:Rat):Prop:=t<k 0\/k (n-1)<t
instance {n:Nat} {k:Nat->Rat} {t:Rat}:Decidable (U7 n k t):=inferInstanceAs (Decidable (t<k 0\/k (n-1)<t))
def Me (k:Nat->Rat) (i:Nat) (t:Rat) (d j:Nat):Rat:=if j=0 then 0 else fr (k (i-d+(j-1))) (k (i-d+(j-1)+(d+1))) t*vB k i t d (j-1)
theorem VK:aX 40 f40:=aZ func40
theorem Pg:aX 56 f56:=aZ func56
theorem QE:aX 113 f113:=aZ func113
abbrev xj:Code:=aH f40
def ku (n:Nat) (f:Nat->Rat) (m:Nat) (g:Nat->Rat):Bool:=decide (n=m/\∀i,i<n->f i=g i)
def uJ (k:Nat->Rat) (t:Rat):Nat->Nat
 |0=>0
 |i+1=>uJ k t i+if k i=t then 1 else 0
def aa7 (k:Nat->Rat) (i:Nat):Prop:=i=0\/k i≠k (i-1)
instance {k:Nat->Rat} {i:Nat}:Decidable (aa7 k i):=inferInstanceAs (Decidable (i=0\/k i≠k (i-1)))
def aeS (n:Nat) (k:Nat->Rat) (p:Nat) (t:Rat):Prop:=((t=k 0\/t=k (n-1))/\uJ k t n≠p+1)\/(¬(t=k 0\/t=k (n-1))/\p<uJ k t n)
instance {n:Nat} {k:Nat->Rat} {p:Nat} {t:Rat}:Decidable (aeS n k p t):=inferInstanceAs (Decidable (((t=k 0\/t=k (n-1))/\uJ k t n≠p+1)\/(¬(t=k 0\/t=k (n-1))/\p<uJ k t n)))
def loadT (o:Oper):Nat:=match o.op with
 |.load t _=>t
 |_=>0
def aaf (o:Oper):Nat:=match o.op with
 |.binOp _ t _ _ _=>t
 |_=>0
def aev (o:Oper):Array TypeId:=match o.op with
 |.call c=>c.argTypes
 |_=>#[]
def YF (o:Oper):Nat:=match o.op with
 |.unOp _ t _=>t
 |_=>0
def JW:Code->Code×Code
 |.block _ (.rangeFunc _ _ x y)=>(x,y)
 |_=>(.skip,.skip)
def jL (a:PP) (t:Rat):Prop:=∀m,m<=a.1->Sz (eR a.1 a.2 t m) ag
abbrev Jk:FuncId:=127
abbrev yy:FuncId:=163
abbrev tf:Code:=aH f163
def cL (v:AV):PP:=match qi v with
 |some (n,f)=>(n,fun i=>aS (f i))
 |none=>(0,fun _=>0)
abbrev ec (n:Nat) (c:Nat->PP):AV:=.ak 1 n fun i=>aI (c i)
def mz:Kind (Nat×(Nat->PP)):=⟨fun v=>match v with
 |.ak 1 n f=>some ((n,fun i=>cL (f i)),[∀i,i<n->bA (f i) (aI (cL (f i)))])
 |_=>none,fun a=>ec a.1 a.2,fun {v a q} h hq=>by
  split at h
  ·simp only[ay,Prod.mk.injEq]at h
   obtain⟨rfl,rfl⟩:=h
   exact gr hq
  ·simp at h⟩
def pK:Spec:=dA (kC (kL ag) (kC (fP ag) kN)) (fun a=>.rat (eF a.1 a.2.1) ag) fun a=>[a.1.1<2^40,jL a.1 a.2.1]
def cI (c:Nat->PP) (t:Rat) (i:Nat):Int:=dn (eF (c i) t)
def zm:bh:=zG::(66,pK)::gB
abbrev wk:Code:=aH f122
abbrev uO:List Nat:=[3,5,6,10,11,12]
abbrev zo (n:Nat) (c:Nat->PP) (l:Int) (m i:Nat):List AV:=[.ptr 0 0 3 0 [],.int .i64 l,.int .i64 m,ec n c,.int .i64 n,.int .i64 i]
def dz (n:Nat) (c:Nat->PP) (t:Rat):Prop:=∀i,i<n->(c i).1<2^40/\jL (c i) t
def Iu:Spec:=dA (kC mz (kC (fP ag) kN)) (fun a=>.int .i64 ((bY (cI a.1.2 a.2.1) a.1.1).2:Nat)) fun a=>[a.1.1<2^40,dz a.1.1 a.1.2 a.2.1]
def I6:bh:=nG::(122,Iu)::(66,pK)::gB
def g9 (n:Nat) (c:Nat->PP) (a b:Rat):Int:=if a>=b then 0 else((bY (cI c a) n).2:Int)-((bY (cI c b) n).2:Int)-(if eF (c 0) b=0 then 1 else 0)
theorem acW:aX Jk f127:=aZ func127
theorem CA:aX yy f163:=aZ func163
theorem Gr:aX 66 f66:=aZ func66
theorem adJ:aX 122 f122:=aZ func122
theorem ZX:aX 60 f60:=aZ func60
abbrev E4:Nat:=loadT (ee tf [0] 0)
abbrev HH:Nat:=loadT (ee tf [1,0,0,1,0,0,0] 5)
abbrev Rt:Nat:=aaf (ee tf [0] 2)
theorem XG:Ib tf E4 HH Rt:=⟨ah,⟨ah,ah,ah⟩,⟨ah,ah,ah⟩,⟨ah,ah,ah⟩,⟨ah,ah,ah⟩,⟨ah,ah,ah⟩,⟨ah,ah,ah⟩,⟨ah,ah,ah⟩,⟨ah,ah,ah⟩,⟨ah,ah,ah⟩,⟨ah,ah,ah⟩,⟨ah,ah,ah⟩,⟨ah,ah,ah⟩,
 ⟨aev (ee tf [1,0,0,1,0,0,0] 6),ah,ah,ah⟩,⟨YF (ee tf [1,0,0,1,0,0,0] 7),ah,ah,ah⟩,⟨ah,ah,ah⟩,⟨ah,ah,ah⟩,⟨ah,ah,ah⟩⟩
theorem WB {n s:Nat} {k:Nat->Rat} (hn:n<2^62):Av P yy [.bM (aV k n s)] n (fun i=>.int .i64 ((n:Int)-1-i)) (fun i=>.rat (k (n-1-i)) s):=
 Z2 hT (tiS:=(look E4 T).getD ⟨.bool,0,0,.nil⟩) (tiE:=(look HH T).getD ⟨.bool,0,0,.nil⟩) ah ah ah ah CA.get CA.body ah ah XG (f:=fun i=>.rat (k i) s) hn ah fun i hi=>⟨rfl,rfl⟩
def vS:bh:=nG::(Jk,Ea T [sG] [] 20 f127)::gB
abbrev xz:List Nat:=[3,4,5,9]
abbrev C3 (a:PP):List AV:=[.ptr 0 0 3 0 [],.ptr 1 0 3 0 [],.ptr 2 0 3 0 [],.func yy [.bM (aI a)]]
abbrev tR (q:Rat) (s:Nat):ax:=⟨false,true,3,1,fun _=>.rat q s⟩
abbrev pe (t x:Rat):aE:=[(2,tR x ag),(1,tR 0 1),(0,tR t ag)]
abbrev EW:List Nat:=[3,4,5,9,7]
abbrev HI (a:PP):List AV:=[.ptr 0 0 3 0 [],.ptr 1 0 3 0 [],.ptr 2 0 3 0 [],.func yy [.bM (aI a)],.ptr 3 0 3 0 []]
abbrev qI:Code:=aH f66
abbrev GH:Code:=(JW (part qI [1,1,0,1])).1
abbrev Ml:Code:=(JW (part qI [1,1,0,1])).2
theorem ZQ {a:PP} {t:Rat}:aG T vS [] 60 xz (before qI [1,1,0,1]) ⟨aT 0 [aI a,.rat t ag],[],0⟩=
  let c1:ax:=fL fun x=>rat 0 1;some (leaf normal ([ptr 0 0 (dN (rat t ag)).size 0 [],ptr 4096 0 3 0 [],ptr 8192 0 3 0 [],func 163 [(ak 3 a.fst fun i=>rat (a.snd i) ag).bM]],[((8192:Nat),c1),((4096:Nat),c1),(0,ax.mk false true (dN (rat t ag)).size 1 fun x=>rat t ag)])):=ah
theorem Vd {a:PP} {t x v:Rat} {u:Int}:aG T vS [] 60 EW [GH] ⟨aC (xz++[10,11]) (C3 a++[.int .i64 u,.rat v ag]),pe t x,3⟩=
  let c1:AV:=rat 0 1;some (aj [(0:Nat)<1] (leaf normal ([ptr 0 0 3 0 [],ptr 1 0 3 0 [],ptr 2 0 3 0 [],func 163 [(ak 3 a.fst fun i=>rat (a.snd i) ag).bM],ptr 3 0 3 0 []],[((3:Nat),fL fun j=>if(j==0)=true then dN (rat v ag)else c1),((2:Nat),fL fun x_1=>rat x ag),((1:Nat),fL fun x=>c1),((0:Nat),fL fun x=>rat t ag)]))):=ah
theorem UX {a:PP} {t x v:Rat}:aG T vS [] 60 xz [Ml] ⟨aC EW (HI a),(3,tR v ag)::pe t x,4⟩=
  let c2:Prop:=0<1;let c1:Nat:=2^42;some (aj [c2,c2,ag<c1,ag<c1,c2,ag+ag<c1,ag<c1,c2] (leaf normal ([ptr 0 0 3 0 [],ptr 1 0 3 0 [],ptr 2 0 3 0 [],func 163 [(ak 3 a.fst fun i=>rat (a.snd i) ag).bM]],[((2:Nat),fL fun j=>if(j==0)=true then dN (wY (x*t,ag+ag) (v,ag))else rat x ag),((1:Nat),fL fun x=>rat 0 1),((0:Nat),fL fun x=>rat t ag)]))):=ah
theorem XN {a:PP} {t x:Rat}:cA T vS [] 60 f66 [part qI [1,1,1]] ⟨aC xz (C3 a),pe t x,3⟩=
  let c1:Prop:=0<1;some (aj [c1,c1] (aj [c1] (leaf ret [rat x ag]))):=ah
theorem ady {n:Nat} {c:Nat->PP} {t:Rat}:aG T zm [] 60 uO (before wk [1,1,0,1]) ⟨aT 0 [ec n c,.rat t ag],[],0⟩=
  let c1:AV:=int i64 0;some (leaf normal ([ptr 0 0 (dN (rat t ag)).size 0 [],c1,c1,ak 1 n fun i=>ak 3 (c i).fst fun i_1=>rat ((c i).snd i_1) ag,int i64 (↑n:Int),c1],[(0,ax.mk false true (dN (rat t ag)).size 1 fun x=>rat t ag)])):=ah
theorem XS {n m i:Nat} {c:Nat->PP} {l:Int} {t:Rat}:aG T zm [13,23,27] 60 uO [part wk [1,1,0,1,0,0]] ⟨aC uO (zo n c l m i),[(0,tR t ag)],1⟩=
  let c14:Int:=(↑n:Int);let c11:AV:=int i64 (↑m:Int);let c9:Int:=(↑m:Int)+1;let c8:AV:=ak 1 n fun i=>ak 3 (c i).fst fun i_1=>rat ((c i).snd i_1) ag;let c7:Int:=(2:Int)^63;let c6:Int:=(↑i:Int);let c5:AV:=ptr 0 0 3 0 [];let c3:List (Nat×ax):=[((0:Nat),fL fun x=>rat t ag)];let c13:Int:=c6+1;let c12:PP:=c c6.toNat;let c10:Nat×(Nat->Rat):=(c12.fst,fun i=>aS (rat (c12.snd i) ag));let c4:List Prop:=[-c7<=c13/\c13<c7];let c2:List AV:=[c8,int i64 c14,int i64 c13];let c1:Int:=dn (eF c10 t);some (fork (decide (c6<c14)) (aj [(0:Int)<=c6/\c6.toNat<n] (aj [(0:Nat)<1,cF (fun i=>rat (c12.snd i) ag) c12.fst ag,ag<=ag,c12.fst<2^40,jL c10 t,ag<2^42] (aj [-c7<=c1*l/\c1*l<c7] (fork (decide (c1*l<0)) (aj [-c7<=c9/\c9<c7] (fork (c1 !=(0:Int)) (aj c4 (leaf normal (c5::int i64 c1::int i64 c9::c2,c3))) (aj c4 (leaf normal (c5::int i64 l::int i64 c9::c2,c3))))) (fork (c1 !=(0:Int)) (aj c4 (leaf normal (c5::int i64 c1::c11::c2,c3))) (aj c4 (leaf normal (c5::int i64 l::c11::c2,c3)))))))) (leaf (exit 0) ([c5,int i64 l,c11,c8,int i64 c14,int i64 c6],c3))):=ah
theorem RD {n m i:Nat} {c:Nat->PP} {l:Int} {t:Rat}:cA T zm [] 60 f122 [part wk [1,1,1]] ⟨aC uO (zo n c l m i),[(0,tR t ag)],1⟩=
  some (leaf ret [int i64 (↑m:Int)]):=ah
theorem Oc {n:Nat} {c:Nat->PP} {x y:Rat}:bR T I6 [11,25] 60 f60 (aH f60) ⟨aT 0 [ec n c,.rat x ag,.rat y ag],[],0⟩=
  let c6:Nat:=2^40;let c5:Prop:=ag<2^42;let c4:Int:=(2:Int)^63;let c3:Prop:=0<1;let c2:PP:=c (Int.toNat (0:Int));let c1:Int:=(↑(bY (cI (fun i=>cL (aI (c i))) x) n).snd:Int)-(↑(bY (cI (fun i=>cL (aI (c i))) y) n).snd:Int);let c8:Int:=c1-1;let c7:Nat×(Nat->Rat):=(c2.fst,fun i=>aS (rat (c2.snd i) ag));some (aj [c3,c3,c5,c5] (fork (decide (iy x y>=0)) (leaf ret [int i64 0]) (aj [c3,∀(i:Nat),i<n->bA (aI (c i)) (aI (cL (aI (c i)))),ag<=ag,n<c6,dz n (fun i=>cL (aI (c i))) x,c3,∀(i:Nat),i<n->bA (aI (c i)) (aI (cL (aI (c i)))),ag<=ag,n<c6,dz n (fun i=>cL (aI (c i))) y,-c4<=c1/\c1<c4] (aj [(0:Int)<=0/\Int.toNat (0:Int)<n,c3,cF (fun i=>rat (c2.snd i) ag) c2.fst ag,ag<=ag,c2.fst<c6,jL c7 y,c5] (fork (dn (eF c7 y)==0) (aj [-c4<=c8/\c8<c4] (leaf ret [int i64 c8])) (leaf ret [int i64 c1])))))):=ah
theorem Lz:bI P vS:=iQ (aL (IV hT (yW b9) hm acW _ _) gE)
theorem abC {a:PP} {t:Rat} (hn:a.1<2^40) (hz:jL a t) (K:Nat):aP P 66 K [aI a,.rat t ag] [] (aK (.rat (eF a t) ag) []):=by
 have hW:=cW
 refine N8 (r:=aK (.rat (eF a t) ag) []) hT Gr rfl aW rfl (fun _ cx hro hk=>?_) K []
 refine au.aaO hT Lz hm (x:=qI) (assign:=GH) (body:=Ml) (g:=9) (p0:=10) (p1:=11) [1,1,0,1] (i:=0) ah ah Gr.dst hro hk CA.enters (WB (s:=ag) (k:=a.2) (n:=a.1) aa) aW aW (by decide) (f1:=[]) (f2:=[]) (f3:=[])
  60 xz EW (C3 a) (fun _=>rfl) rfl (fun i=>pe t (eR a.1 a.2 t i)) 3 4 (fun _=>HI a) (fun i=>(3,tR (a.2 (a.1-1-i)) ag)::pe t (eR a.1 a.2 t i)) [0,1,2] ⟨_,ZQ,?_⟩ (fun i hi=>⟨_,Vd,?_⟩) (fun i hi=>⟨_,UX,?_⟩) ?_
 ·simp only[af.all,aA]
  exact⟨trivial,[(0,0),(1,4096),(2,8192)],rfl,rfl,rfl,jt rfl rfl (.inr ⟨rfl,dy rfl aa⟩) (dh (dh trivial))⟩
 ·simp only[af.all,aA]
  exact⟨aa,trivial,[(0,0),(1,1),(2,2),(3,3)],rfl,rfl,rfl,dh (dh (dh (dh trivial)))⟩
 ·simp only[af.all,aA]
  exact⟨aa,trivial,[(0,0),(1,1),(2,2)],rfl,rfl,rfl,jt rfl rfl (.inr ⟨rfl,dK rfl (hz (i+1) hi)⟩) (dh (dh trivial))⟩
 ·rw[show behind qI [1,1,0,1]=[part qI [1,1,1]]from by kernel_rfl]
  exact(aF.fin hT Lz hm 60 XN ah (by simp only[af.all,aA];exact⟨aa,aa,.refl _⟩)).mono fun _ _ h=>.inl h
theorem AH:bf P pK 66:=cR fun⟨a,t,_⟩ K hn=>abC hn.1 hn.2 K
theorem MP (q:Rat):-1<=dn q/\dn q<=1:=by unfold dn;split<;>(try split)<;>omega
theorem qx {s:Nat->Int} (h:∀i,-1<=s i/\s i<=1):∀i,(-1<=(bY s i).1/\(bY s i).1<=1)/\(bY s i).2<=i
 |0=>⟨⟨show(-1:Int)<=0 by decide,show(0:Int)<=1 by decide⟩,aQ⟩
 |i+1=>by
  have ih:=qx h i
  have hi:=h i
  refine⟨?_,?_⟩
  ·show-1<=(if s i=0 then(bY s i).1 else s i)/\(if s i=0 then(bY s i).1 else s i)<=1
   split
   ·exact ih.1
   ·exact hi
  ·show(if s i*(bY s i).1<0 then(bY s i).2+1 else(bY s i).2)<=i+1
   split<;>omega
theorem sI {c:Nat->PP} {t:Rat} (i:Nat):-1<=cI c t i/\cI c t i<=1:=MP _
theorem NN {a b:Int} (ha:-1<=a/\a<=1) (hb:-1<=b/\b<=1):-1<=a*b/\a*b<=1:=by
 rcases(show a=-1\/a=0\/a=1 by omega)with rfl|rfl|rfl<;>omega
theorem Xf:bI P zm:=fD (aL AH gE)
theorem Sd {n:Nat} {c:Nat->PP} {t:Rat} (hn:n<2^40) (hz:dz n c t) (K:Nat):aP P 122 K [ec n c,.rat t ag] [] (aK (.int .i64 ((bY (cI c t) n).2:Nat)) []):=by
 have hW:=cW
 refine iG (r:=aK (.int .i64 ((bY (cI c t) n).2:Nat)) []) hT Xf hm adJ rfl aW rfl [1,1,0,1] (i:=0) (y:=part wk [1,1,0,1,0,0]) (z:=part wk [1,1,1]) ah ah ah (f1:=[]) (f2:=[13,23,27]) (f3:=[]) 60 uO 1
  (fun i:Nat=>zo n c (bY (cI c t) i).1 (bY (cI c t) i).2 i) (fun _=>[(0,tR t ag)]) (fun i=>i<=n) (fun i=>i=n) (fun i=>n-i) (fun _=>⟨⟨_,ady,?_⟩,fun i hi=>⟨_,XS,?_⟩,fun i hi=>⟨_,RD,?_⟩⟩) K []
 ·simp only[af.all,aA]
  exact⟨0,Nat.zero_le _,[(0,0)],rfl,rfl,rfl,dh trivial⟩
 ·obtain⟨h1,h2⟩:=qx (s:=cI c t) sI i
  have h3:=sI (c:=c) (t:=t) i
  have h4:=NN h3 h1
  have e1:dn (eF (c i) t)=cI c t i:=rfl
  have e2:(bY (cI c t) (i+1)).1=if cI c t i=0 then(bY (cI c t) i).1 else cI c t i:=rfl
  have e3:(bY (cI c t) (i+1)).2=if cI c t i*(bY (cI c t) i).1<0 then(bY (cI c t) i).2+1 else(bY (cI c t) i).2:=rfl
  simp only[af.all,aA,bw,bB,bu,bne_iff_ne,ne_eq,bne_eq_false_iff_eq]
  show((i:Int)<n->_/\(_/\cF _ _ _/\_/\_/\jL (c i) t/\_)/\(-2^63<=cI c t i*_/\cI c t i*_<2^63)/\(cI c t i*_<0->_/\(¬cI c t i=0->_)/\(cI c t i=0->_))/\(¬cI c t i*_<0->(¬cI c t i=0->_)/\(cI c t i=0->_)))/\_
  have re:∀{l:Int} {m:Int},l=(bY (cI c t) (i+1)).1->m=((bY (cI c t) (i+1)).2:Nat)->dx [] ([.ptr 0 0 3 0 [],.int .i64 l,.int .i64 m,ec n c,.int .i64 n,.int .i64 ((i:Int)+1)],[((0:Nat),tR t ag)]) (zo n c (bY (cI c t) (i+1)).1 (bY (cI c t) (i+1)).2 (i+1)) [(0,tR t ag)] 1:=fun {l m} hl hm=>by
   subst hl hm
   exact⟨[(0,0)],rfl,by rw[show(i:Int)+1=((i+1:Nat):Int) by omega];rfl,rfl,dh trivial⟩
  refine⟨fun h=>⟨aa,⟨aa,cZ aQ,aQ,(hz i aa).1,(hz i aa).2,aa⟩,aa,fun h5=>⟨aa,fun h6=>⟨aa,i+1,aa,by dsimp only;omega,re (by rw[e2,if_neg h6];rfl) (by rw[e3,if_pos h5];omega)⟩,fun h6=>⟨aa,i+1,aa,by dsimp only;omega,re (by rw[e2,if_pos h6]) (by rw[e3,if_pos h5];omega)⟩⟩,
   fun h5=>⟨fun h6=>⟨aa,i+1,aa,by dsimp only;omega,re (by rw[e2,if_neg h6];rfl) (by rw[e3,if_neg h5])⟩,fun h6=>⟨aa,i+1,aa,by dsimp only;omega,re (by rw[e2,if_pos h6]) (by rw[e3,if_neg h5])⟩⟩⟩,fun h=>⟨rfl,i,aa,[(0,0)],rfl,rfl,rfl,dh trivial⟩⟩
 ·subst hi;exact .refl _
theorem VY:bf P Iu 122:=cR fun⟨⟨n,c⟩,t,_⟩ K hn=>Sd hn.1 hn.2 K
theorem aa6:bI P I6:=iQ (aL VY (aL AH gE))
theorem Uc {n:Nat} {c:Nat->PP} {x y:Rat} (h0:0<n) (hn:n<2^40) (hx:dz n c x) (hy:dz n c y) (K:Nat):aP P 60 K [ec n c,.rat x ag,.rat y ag] [] (aK (.int .i64 (g9 n c x y)) []):=by
 have hW:=cW
 refine bZ hT aa6 hm ZX rfl aW rfl 60 Oc (fun _=>?_) K []
 have hbx:=(qx (s:=cI c x) sI n).2
 have hby:=(qx (s:=cI c y) sI n).2
 simp only[af.all,aA,QB,bw,bB,nB]
 show _/\(x>=y->_)/\(¬x>=y->(_/\(∀i,i<n->bA (aI (c i)) (aI (c i)))/\_/\_/\dz n c x/\_/\_/\_/\_/\dz n c y/\(-2^63<=((bY (cI c x) n).2:Int)-((bY (cI c y) n).2:Int)/\((bY (cI c x) n).2:Int)-((bY (cI c y) n).2:Int)<2^63))/\(_/\_/\_/\_/\_/\jL (c 0) y/\_)/\(eF (c 0) y=0->_)/\(¬eF (c 0) y=0->_))
 refine⟨aa,fun h=>?_,fun h=>⟨⟨aa,fun i _=>.refl _,aQ,hn,hx,aa,fun i _=>.refl _,aQ,hn,hy,aa⟩,⟨aa,aa,cZ aQ,aQ,(hy 0 h0).1,(hy 0 h0).2,aa⟩,fun h2=>⟨?_,?_⟩,fun h2=>?_⟩⟩
 ·exact bN (if_pos h).symm
 ·show-2^63<=((bY (cI c x) n).2:Int)-((bY (cI c y) n).2:Int)-1/\((bY (cI c x) n).2:Int)-((bY (cI c y) n).2:Int)-1<2^63
  omega
 ·exact bN (by unfold g9;rw[if_neg h,if_pos h2];rfl)
 ·exact bN (by unfold g9;rw[if_neg h,if_neg h2,Int.sub_zero];rfl)
def yu:Spec:=dA (kC mz (kC (fP ag) (kC (fP ag) kN))) (fun a=>.int .i64 (g9 a.1.1 a.1.2 a.2.1 a.2.2.1)) fun a=>[0<a.1.1,a.1.1<2^40,dz a.1.1 a.1.2 a.2.1,dz a.1.1 a.1.2 a.2.2.1]
theorem CF:bf P yu 60:=cR fun⟨⟨n,c⟩,x,y,_⟩ K hn=>Uc hn.1 hn.2.1 hn.2.2.1 hn.2.2.2 K
def az (p:PP):PP:=(br (fk p.1 p.2) p.1,fk p.1 p.2)
def jH (a:PP):PP:=(jy a.1,ng a.1 a.2)
def dm (p:PP):Prop:=1<=p.1/\p.1<=41/\qk p.1 p.2
def fO (a:PP):Prop:=a.1<=41/\iD a.1 a.2
abbrev aR (a:PP):Prop:=cF (fun i=>.rat (a.2 i) ag) a.1 ag
def B6:PP:=(0,fun _=>0)
def zE (n:Nat):Int:=if n=0 then 3 else 0
def wI:Spec:=dA (kC (kL ag) kN) (fun a=>aI (az a.1)) fun a=>[dm a.1]
def M3:Spec:=dA (kC (kL ag) kN) (fun a=>aI (jH a.1)) fun a=>[fO a.1]
def ue:Spec:=dA (kC (kL ag) (kC (kL ag) kN)) (fun a=>.tuple [aI (eZ a.1 a.2.1),aI (cw a.1 a.2.1)]) fun a=>[a.1.1<2^30,1<=a.2.1.1,a.2.1.1<2^30,Trim a.1,Trim a.2.1,j4 a.1 a.2.1]
def wQ (a:PP):Prop:=a.1<2^30/\Trim a/\cG (a.1-1) (cT a.2)/\vJ a
def lW (a:PP):Prop:=wQ a/\cG ((bX a).1-1) (cT (bX a).2)/\ye (gj a)
def Kx:Spec:=dA (kC (kL ag) kN) (fun a=>aI (bX a.1)) fun a=>[wQ a.1]
def cH (a:PP) (i:Nat):PP:=(bG (gj a) i).1
def cq (a:PP):Nat:=eU (gj a)+1
def Bu:Spec:=dA (kC (kL ag) kN) (fun a=>ec (cq a.1) (cH a.1)) fun a=>[lW a.1]
def pL:bh:=zG::(57,wI)::(88,ue)::(81,M3)::(80,Kx)::(72,yI)::(59,Bu)::(60,yu)::gB
def l9 (p q:PP):PP:=if(az q).1=0 then B6 else jH (eZ (az p) (az q))
def mL (p q:PP):PP:=if(az q).1=0 then B6 else jH (cw (az p) (az q))
def vH (p q:PP):Prop:=(az q).1≠0->j4 (az p) (az q)/\fO (eZ (az p) (az q))/\fO (cw (az p) (az q))
def jP (p:PP):PP:=if(az p).1=0 then B6 else jH (bX (az p))
def uh (p q:PP):PP:=jH (bS (az p) (az q))
def nV (p:PP) (a b:Rat):Int:=if(az p).1=0 then 3 else if a>b then 7 else 0
def tF (p:PP) (a b:Rat):Int:=if nV p a b=0 then g9 (cq (az p)) (cH (az p)) a b else 0
theorem ab6:aX 29 f29:=aZ func29
theorem ab0:aX 35 f35:=aZ func35
theorem Zt:aX 22 f22:=aZ func22
theorem VD:aX 16 f16:=aZ func16
theorem Og {p q:PP}:bR T pL [14] 60 f29 (aH f29) ⟨aT 0 [aI p,aI q],[],0⟩=
  some (aj [aR q,dm q] (fork (((az q).1:Int)==0) (leaf ret [nil,nil,int i64 3]) (aj [aR p,dm p,aR (az p),aR (az q),(az p).1<2^30,1<=(az q).1,(az q).1<2^30,Trim (az p),Trim (az q),j4 (az p) (az q)] (aj [aR (eZ (az p) (az q)),fO (eZ (az p) (az q)),aR (cw (az p) (az q)),fO (cw (az p) (az q))] (leaf ret [aI (jH (eZ (az p) (az q))),aI (jH (cw (az p) (az q))),int i64 0]))))):=ah
theorem aas {p q:PP}:bR T pL [] 60 f35 (aH f35) ⟨aT 0 [aI p,aI q],[],0⟩=
  some (aj [aR p,dm p,aR q,dm q,aR (az p),aR (az q),(az p).1<2^30,(az q).1<2^30,Trim (az p),Trim (az q),jQ (az p,az q),aR (bS (az p) (az q)),fO (bS (az p) (az q))] (leaf ret [aI (uh p q)])):=ah
theorem RM {p:PP}:bR T pL [9] 60 f22 (aH f22) ⟨aT 0 [aI p],[],0⟩=
  some (aj [aR p,dm p] (fork (((az p).1:Int)==0) (leaf ret [nil,int i64 3]) (aj [aR (az p),wQ (az p),aR (bX (az p)),fO (bX (az p))] (leaf ret [aI (jH (bX (az p))),int i64 0])))):=ah
theorem Zc {p:PP} {a b:Rat}:bR T pL [11,15] 60 f16 (aH f16) ⟨aT 0 [aI p,.rat a ag,.rat b ag],[],0⟩=
  some (aj [aR p,dm p] (fork (((az p).1:Int)==0) (leaf ret [int i64 0,int i64 3]) (aj [(0:Nat)<1,(0:Nat)<1,ag<2^42,ag<2^42] (fork (decide (iy a b>0)) (leaf ret [int i64 0,int i64 7]) (aj [aR (az p),lW (az p),(0:Nat)<1,(0:Nat)<1,∀i,i<cq (az p)->bA (aI (cH (az p) i)) (aI (cH (az p) i)),ag<=ag,ag<=ag,0<cq (az p),cq (az p)<2^40,dz (cq (az p)) (cH (az p)) a,dz (cq (az p)) (cH (az p)) b] (leaf ret [int i64 (g9 (cq (az p)) (cH (az p)) a b),int i64 0])))))):=ah
theorem GO:bf P wI 57:=cR fun⟨a,_⟩ K hn=>Tr hn.1 hn.2.1 hn.2.2 K
theorem aau:bf P M3 81:=cR fun⟨a,_⟩ K hn=>QL hn.1 hn.2 K
theorem Rj:bf P ue 88:=cR fun⟨⟨n,a⟩,⟨m,d⟩,_⟩ K hn=>by
 obtain⟨h1,h2,h3,h4,h5,h6⟩:=hn
 simp only at h1 h2 h3
 obtain⟨e,rfl⟩:∃e,m=e+1:=⟨m-1,aa⟩
 have hd:d e≠0:=h5.resolve_left (Nat.succ_ne_zero e)
 cases n with
 |zero=>exact F9 aa K
 |succ n=>exact Ju h1 aa (h4.resolve_left (Nat.succ_ne_zero n)) hd h6 K
theorem ad5:bf P Kx 80:=cR fun⟨a,_⟩ K hn=>Hs hn.1 hn.2.1 hn.2.2.1 hn.2.2.2 K
theorem JE:bf P Bu 59:=cR fun⟨a,_⟩ K hn=>Yf hn.1.1 hn.1.2.1 hn.1.2.2.1 hn.1.2.2.2 hn.2.1 hn.2.2 K
theorem tU:bI P pL:=fD (aL GO (aL Rj (aL aau (aL ad5 (aL Ct (aL JE (aL CF gE)))))))
theorem of_le {p:PP} (h:dm p):(az p).1<=41:=Nat.le_trans eI h.2.1
theorem mR {p:PP}:Trim (az p):=lK
theorem cV {a:PP}:aR a:=cZ aQ
theorem s9 {f:Nat->Rat} {n:Nat} (h:n=0):bA .nil (aV f n ag):=by subst h;exact jS aa
theorem abg {p q:PP} (hp:dm p) (hq:dm q) (hz:vH p q) (K:Nat):aP P 29 K [aI p,aI q] [] (aK (.tuple [aI (l9 p q),aI (mL p q),.int .i64 (zE (az q).1)]) []):=by
 refine bZ hT tU hm ab6 rfl aW rfl 60 Og (fun _=>?_) K []
 have h1:=of_le hp
 have h2:=of_le hq
 simp only[af.all,aA,beq_iff_eq,beq_eq_false_iff_ne]
 refine⟨⟨cV,hq⟩,fun h=>?_,fun h=>?_⟩
 ·have h0:(az q).1=0:=aa
  refine⟨s9 ?_,s9 ?_,bN (if_pos h0).symm,trivial⟩
  ·unfold l9;rw[if_pos h0];rfl
  ·unfold mL;rw[if_pos h0];rfl
 ·have h0:¬(az q).1=0:=aa
  obtain⟨z1,z2,z3⟩:=hz h0
  refine⟨⟨cV,hp,cV,cV,aa,aa,aa,mR,mR,z1⟩,⟨cV,z2,cV,z3⟩,?_⟩
  unfold l9 mL
  rw[if_neg h0,if_neg h0]
  exact⟨.refl _,.refl _,bN (if_neg h0).symm,trivial⟩
theorem Sn {p q:PP} (hp:dm p) (hq:dm q) (hz:jQ (az p,az q)) (hy:fO (bS (az p) (az q))) (K:Nat):aP P 35 K [aI p,aI q] [] (aK (aI (uh p q)) []):=by
 refine bZ hT tU hm ab0 rfl aW rfl 60 aas (fun _=>?_) K []
 have h1:=of_le hp
 have h2:=of_le hq
 simp only[af.all,aA]
 exact⟨⟨cV,hp,cV,hq,cV,cV,aa,aa,mR,mR,hz,cV,hy⟩,.refl _⟩
def zF (p:PP):Prop:=(az p).1≠0->wQ (az p)/\fO (bX (az p))
theorem aa8 {p:PP} (hp:dm p) (hz:zF p) (K:Nat):aP P 22 K [aI p] [] (aK (.tuple [aI (jP p),.int .i64 (zE (az p).1)]) []):=by
 refine bZ hT tU hm Zt rfl aW rfl 60 RM (fun _=>?_) K []
 simp only[af.all,aA,beq_iff_eq,beq_eq_false_iff_ne]
 refine⟨⟨cV,hp⟩,fun h=>?_,fun h=>?_⟩
 ·have h0:(az p).1=0:=aa
  refine⟨s9 ?_,bN (if_pos h0).symm,trivial⟩
  unfold jP;rw[if_pos h0];rfl
 ·have h0:¬(az p).1=0:=aa
  obtain⟨z1,z2⟩:=hz h0
  refine⟨⟨cV,z1,cV,z2⟩,?_⟩
  unfold jP
  rw[if_neg h0]
  exact⟨.refl _,bN (if_neg h0).symm,trivial⟩
def zY (p:PP) (a b:Rat):Prop:=dm p/\((az p).1≠0->lW (az p)/\cq (az p)<2^40/\dz (cq (az p)) (cH (az p)) a/\dz (cq (az p)) (cH (az p)) b)
theorem So {p:PP} {a b:Rat} (hz:zY p a b) (K:Nat):aP P 16 K [aI p,.rat a ag,.rat b ag] [] (aK (.tuple [.int .i64 (tF p a b),.int .i64 (nV p a b)]) []):=by
 obtain⟨hp,hz⟩:=hz
 have hW:=cW
 refine bZ hT tU hm VD rfl aW rfl 60 Zc (fun _=>?_) K []
 have hgt:∀{x y:Rat},iy x y>0↔x>y:=Kq
 simp only[af.all,aA,beq_iff_eq,beq_eq_false_iff_ne,bw,bB,hgt]
 refine⟨⟨cV,hp⟩,fun h=>?_,fun h=>⟨aa,fun h2=>?_,fun h2=>?_⟩⟩
 ·have h0:(az p).1=0:=aa
  have e1:nV p a b=3:=if_pos h0
  exact⟨bN (by unfold tF;rw[e1];rfl),bN e1.symm,trivial⟩
 ·have h0:¬(az p).1=0:=aa
  have e1:nV p a b=7:=by unfold nV;rw[if_neg h0,if_pos h2]
  exact⟨bN (by unfold tF;rw[e1];rfl),bN e1.symm,trivial⟩
 ·have h0:¬(az p).1=0:=aa
  have e1:nV p a b=0:=by unfold nV;rw[if_neg h0,if_neg h2]
  obtain⟨z1,z2,z3,z4⟩:=hz h0
  exact⟨⟨cV,z1,aa,aa,fun i _=>.refl _,aQ,aQ,Nat.succ_pos _,z2,z3,z4⟩,bN (by unfold tF;rw[if_pos e1]),bN e1.symm,trivial⟩
def ke:bh:=zG::gV
def zq:bh:=zG::(46,yd)::gV
abbrev w7:Code:=aH f91
abbrev xm:List Nat:=[0,1,4,5,6]
abbrev DP (n k i:Nat):List AV:=[.int .i64 n,.int .i64 k,.ptr 0 0 3 0 [],.ptr 1 0 3 0 [],.int .i64 i]
abbrev D5 (x:Rat):aE:=[(1,tR x 64),(0,tR 0 1)]
def yb:Spec:=bU fun l=>match l with
 |[.int .i64 n,.int .i64 k]=>some (aK (.rat ((bn n.toNat k.toNat:Int):Rat) 64) [0<=k,k<=n,n<=40])
 |_=>none
def rD:bh:=zG::(91,yb)::gV
abbrev vO:Code:=aH f123
abbrev xu:Code:=part vO [1,1,1,1,0,1,0,0]
abbrev uL:Code:=part xu [1,0,0]
abbrev qF:List Nat:=[3,4,5,6]
abbrev yK (m k:Nat):List AV:=[.int .i64 m,.own 0 3 0 (m+1-k),.own 1 3 0 k,.int .i64 k]
abbrev u5:List Nat:=[3,4,5,6,7]
abbrev Bw (m k i:Nat):List AV:=[.int .i64 m,.own 0 3 0 (m+1-k),.own 1 3 0 (k+1),.int .i64 k,.int .i64 i]
def Aw:bh:=zG::(123,yC)::gV
abbrev vp:Code:=aH f61
abbrev lz:Code:=aH f151
theorem OC:aX 91 f91:=aZ func91
theorem JU:aX 123 f123:=aZ func123
theorem Vp:aX 61 f61:=aZ func61
theorem C6:aX 151 f151:=aZ func151
theorem acM {n k:Nat}:aG T zq [] 60 xm (before w7 [1,1,0,1]) ⟨aT 0 [.int .i64 n,.int .i64 k],[],0⟩=
  let c1:AV:=rat 0 1;some (aj [-(2:Int)^63<=(1:Int),(1:Int)<2^63,(0:Nat)<1] (leaf normal ([int i64 (↑n:Int),int i64 (↑k:Int),ptr 0 0 3 0 [],ptr 8192 0 3 0 [],int i64 0],[((8192:Nat),fL fun j=>if(j==0)=true then dN (rat (↑(1:Int):Rat) (Max.max 1 (bK (Int.natAbs (1:Int)))))else c1),((0:Nat),fL fun x=>c1)]))):=ah
theorem V6 {n k i:Nat} {x:Rat}:aG T zq [10] 60 xm [part w7 [1,1,0,1,0,0]] ⟨aC xm (DP n k i),D5 x,2⟩=
  let c9:Int:=(↑k:Int);let c8:Int:=(↑i:Int);let c7:Prop:=64<2^41;let c6:AV:=ptr 1 0 3 0 [];let c5:AV:=ptr 0 0 3 0 [];let c4:Nat×ax:=((0:Nat),fL fun x=>rat 0 1);let c1:Int:=(2:Int)^63;let c3:Int:=(↑n:Int)-c8;let c2:Int:=c8+1;some (fork (decide (c8<c9)) (aj [(0:Nat)<1,-c1<=c3/\c3<c1,-c1<=c2/\c2<c1,-c1<=c3,c3<c1,-c1<=c2,c2<c1,c7,c7,(0:Nat)<1] (aj [-c1<=c2/\c2<c1] (leaf normal ([int i64 (↑n:Int),int i64 c9,c5,c6,int i64 c2],[((1:Nat),fL fun j=>if(j==0)=true then dN (CH (x,(64:Nat)) ((↑c3:Rat)/(↑c2:Rat),(64:Nat)))else rat x 64),c4])))) (leaf (exit 0) ([int i64 (↑n:Int),int i64 c9,c5,c6,int i64 c8],[((1:Nat),fL fun x_1=>rat x 64),c4]))):=ah
theorem T8 {n k i:Nat} {x:Rat}:cA T zq [] 60 f91 [part w7 [1,1,1]] ⟨aC xm (DP n k i),D5 x,2⟩=
  let c1:Prop:=0<1;some (aj [c1,c1] (aj [c1] (leaf ret [rat x 64]))):=ah
theorem PC {m:Nat} {p:Nat->Rat}:aG T rD [] 60 qF (before vO [1,1,1,1,0,1]) ⟨aT 0 [aV p (m+1) ag],[],0⟩=
  let c2:Nat:=0+(m+1);let c1:Int:=(↑(m+1):Int)-1;some (aj [-(2:Int)^63<=c1/\c1<2^63] (aj [(0:Nat)*3<=2^24,c2*((56:Nat)+1)*2<=2^47] (leaf normal ([int i64 c1,own 28672 3 0 c2,nil,int i64 0],[(28672,ax.mk true true 3 c2 fun i=>rat (p (i-0)) ag)])))):=ah
theorem PY {m k:Nat} {d x:Nat->Rat}:aG T rD [16] 60 qF (before xu [1,0]) ⟨aC qF (yK m k),jR m d x k,2⟩=
  let c1:List AV×aE:=([int i64 (↑m:Int),own 0 3 0 (m+1-k),own 1 3 0 k,int i64 (↑k:Int)],[(1,ax.mk true true 3 k fun i=>rat (x i) ag),(0,ax.mk true true 3 (m+1) fun i=>rat (d i) ag)]);some (fork (decide ((↑k:Int)<=(↑m:Int))) (leaf normal c1) (leaf (exit 0) c1)):=ah
theorem RB {m k:Nat} {d x:Nat->Rat}:aG T rD [] 60 u5 (before uL [1,0,1]) ⟨aC qF (yK m k),jR m d x k,2⟩=
  let c4:Int:=(↑m:Int);let c3:Int:=(↑k:Int);let c2:Nat:=m+1;let c1:Nat:=Int.toNat (0:Int);some (aj [(0:Int)<=c3,c3<=c4,c4<=40,(0:Int)<=0/\c1<c2-k,c1+0<c2,(64:Nat)<2^41,ag<2^41,(1:Nat)*3<=2^24,(k+1)*((56:Nat)+1)*2<=2^47] (leaf normal ([int i64 c4,own 0 3 0 (c2-k),own 36866 3 0 (k+1),int i64 c3,int i64 0],[(36866,ax.mk true true 3 (k+1) fun i=>if i<k then rat (x i) ag else nth [rat ((↑(↑(bn c4.toNat c3.toNat):Int):Rat)*d (c1+0)) ((64:Nat)+ag)] (rat 0 1) (i-k+0)),(0,ax.mk true true 3 c2 fun i=>rat (d i) ag)]))):=ah
theorem adS {m k i:Nat} {d x:Nat->Rat}:aG T rD [33] 60 u5 [part uL [1,0,1,0,0]] ⟨aC u5 (Bw m k i),jR m d x (k+1),2⟩=
  let c10:Prop:=ag<2^41;let c9:Int:=(↑i:Int);let c6:AV:=own 1 3 0 (k+1);let c5:Nat×ax:=(1,ax.mk true true 3 (k+1) fun i=>rat (x i) ag);let c2:Nat:=m+1;let c8:AV:=own 0 3 0 (c2-k);let c7:Prop:=(0:Int)<=c9/\c9.toNat<c2-k;let c4:Nat:=c9.toNat+0;let c1:Int:=c9+1;let c3:Prop:=-(2:Int)^63<=c1/\c1<2^63;some (aj [c3] (fork (decide (c1<(↑(c2-k):Int))) (aj [c3,(0:Int)<=c1/\c1.toNat<c2-k,c1.toNat+0<c2,c7,c4<c2,c10,c10,c7,c4<c2] (aj [c3] (leaf normal ([int i64 (↑m:Int),c8,c6,int i64 (↑k:Int),int i64 c1],[c5,(0,ax.mk true true 3 c2 fun j=>rat (bif j==c4 then d (c1.toNat+0)-d c4 else d j) (bif j==c4 then ag+ag+1 else ag))])))) (leaf (exit 2) ([int i64 (↑m:Int),c8,c6,int i64 (↑k:Int),int i64 c9],[c5,(0,ax.mk true true 3 c2 fun i=>rat (d i) ag)])))):=ah
theorem Tg {m k i:Nat} {d x:Nat->Rat}:aG T rD [] 60 qF (behind uL [1,0,1]++[part xu [1,1]]) ⟨aC u5 (Bw m k i),jR m d x (k+1),2⟩=
  let c4:Int:=(↑(m+1-k):Int);let c3:Int:=(↑k:Int)+1;let c2:Int:=(2:Int)^63;let c1:Int:=c4-1;some (aj [-c2<=c1/\c1<c2,(0:Int)<=0/\(0:Int)<=c1/\c1<=c1/\c1<=c4] (aj [-c2<=c3/\c3<c2] (leaf normal ([int i64 (↑m:Int),own 0 3 0 (c1.toNat-Int.toNat (0:Int)),own 1 3 0 (k+1),int i64 c3],[(1,ax.mk true true 3 (k+1) fun i=>rat (x i) ag),(0,ax.mk true true 3 (m+1) fun i=>rat (d i) ag)])))):=ah
theorem Xn {m k:Nat} {d x:Nat->Rat}:cA T rD [] 60 f123 [part vO [1,1,1,1,1]] ⟨aC qF (yK m k),jR m d x k,2⟩=
  some (leaf ret [ak 3 k fun i=>rat (x (i+0)) ag]):=ah
theorem Zj {n:Nat} {p:Nat->Rat}:aG T Aw [] 60 [3] (before vp [1,1,0]) ⟨aT 0 [aV p n ag],[],0⟩=
  some (aj [cF (fun i=>rat (p i) ag) n ag,(1:Nat)<=n,n<=41,qk n fun i=>aS (rat (p i) ag)] (leaf normal ([ak 3 n fun i=>rat (fk n (fun i=>aS (rat (p i) ag)) i) ag],[]))):=ah
theorem Zx {n:Nat} {k:Nat->Rat}:aG T Aw [9,18] 60 [3] [part vp [1,1,0,0,0]] ⟨aC [3] [aV k n ag],[],0⟩=
  let c6:Int:=(↑n:Int);let c4:Int:=(2:Int)^63;let c3:af (List AV×aE):=leaf (exit 0) ([ak 3 n fun i=>rat (k i) ag],[]);let c5:Bool:=decide (c6>0);let c2:Int:=c6-1;let c1:af (List AV×aE):=aj [-c4<=c2/\c2<c4,(0:Int)<=0/\(0:Int)<=c2/\c2<=c2/\c2<=c6] (leaf normal ([ak 3 (c2.toNat-Int.toNat (0:Int)) fun i=>rat (k (i+Int.toNat (0:Int))) ag],[]));some (fork c5 (aj [c5=true,-c4<=c2/\c2<c4,(0:Int)<=c2/\c2.toNat<n,ag<2^41] (fork (bif true then dn (k c2.toNat)==0 else false) c1 c3)) (aj [c5=false] (fork false c1 c3))):=ah
theorem Xy {n:Nat} {k:Nat->Rat}:cA T Aw [] 60 f61 [part vp [1,1,1]] ⟨aC [3] [aV k n ag],[],0⟩=
  some (leaf ret [ak 3 n fun i=>rat (k i) ag]):=ah
theorem O4 {n:Nat} {k:Nat->Rat}:aG T ke [] 60 [0] (before lz [1,0]) ⟨aT 0 [aV k n ag],[],0⟩=
  some (leaf normal ([ak 3 n fun i=>rat (k i) ag],[])):=ah
theorem XB {n:Nat} {k:Nat->Rat}:aG T ke [6,15] 60 [0] [part lz [1,0,0,0]] ⟨aC [0] [aV k n ag],[],0⟩=
  let c6:Int:=(↑n:Int);let c4:Int:=(2:Int)^63;let c3:af (List AV×aE):=leaf (exit 0) ([ak 3 n fun i=>rat (k i) ag],[]);let c5:Bool:=decide (c6>0);let c2:Int:=c6-1;let c1:af (List AV×aE):=aj [-c4<=c2/\c2<c4,(0:Int)<=0/\(0:Int)<=c2/\c2<=c2/\c2<=c6] (leaf normal ([ak 3 (c2.toNat-Int.toNat (0:Int)) fun i=>rat (k (i+Int.toNat (0:Int))) ag],[]));some (fork c5 (aj [c5=true,-c4<=c2/\c2<c4,(0:Int)<=c2/\c2.toNat<n,ag<2^41] (fork (bif true then dn (k c2.toNat)==0 else false) c1 c3)) (aj [c5=false] (fork false c1 c3))):=ah
theorem W9 {n:Nat} {k:Nat->Rat}:cA T ke [] 60 f151 [part lz [1,1]] ⟨aC [0] [aV k n ag],[],0⟩=
  some (leaf ret [ak 3 n fun i=>rat (k i) ag]):=ah
theorem u6:bI P ke:=fD iu
theorem Ql:bI P zq:=fD (aL CK iu)
theorem PA {n i:Nat} (h:i<n):((bn n i:Int):Rat)*((((n:Int)-(i:Int):Int):Rat)/(((i:Int)+1:Int):Rat))=((bn n (i+1):Int):Rat):=by
 have h1:=yh n i
 have h2:(((i:Int)+1:Int):Rat)≠0:=by
  intro h0
  have:((i:Int)+1:Int)=0:=by exact_mod_cast h0
  omega
 have h3:((bn n (i+1):Int):Rat)*(((i:Int)+1:Int):Rat)=((bn n i:Int):Rat)*(((n:Int)-(i:Int):Int):Rat):=by
  rw[<-Rat.intCast_mul,<-Rat.intCast_mul]
  congr 1
  have:((bn n (i+1)*(i+1):Nat):Int)=((bn n i*(n-i):Nat):Int):=by rw[Nat.mul_comm,h1,Nat.mul_comm]
  rw[Int.natCast_mul,Int.natCast_mul,Int.natCast_sub aa]at this
  exact this
 rw[Rat.div_def,<-Rat.mul_assoc,<-h3,Rat.mul_assoc,Rat.mul_inv_cancel _ h2,Rat.mul_one]
theorem UI {n k:Nat} (hk0:k<=n) (hn:n<=40) (K:Nat):aP P 91 K [.int .i64 n,.int .i64 k] [] (aK (.rat ((bn n k:Int):Rat) 64) []):=by
 refine iG (r:=aK (.rat ((bn n k:Int):Rat) 64) []) hT Ql hm OC rfl aW rfl [1,1,0,1] (i:=0) (y:=part w7 [1,1,0,1,0,0]) (z:=part w7 [1,1,1]) ah ah ah (f1:=[]) (f2:=[10]) (f3:=[]) 60 xm 2
  (fun i:Nat=>DP n k i) (fun i=>D5 ((bn n i:Int):Rat)) (fun i=>i<=k) (fun i=>i=k) (fun i=>k-i) (fun _=>⟨⟨_,acM,?_⟩,fun i hi=>⟨_,V6,?_⟩,fun i hi=>⟨_,T8,?_⟩⟩) K []
 ·simp only[af.all,aA]
  exact⟨⟨aa,aa,aa⟩,0,Nat.zero_le _,[(0,0),(1,8192)],rfl,rfl,rfl,jt rfl rfl (.inr ⟨rfl,dy (by rw[ov];rfl) (by decide)⟩) (dh trivial)⟩
 ·have h1:=Af (n:=n) (k:=i+1) hn
  simp only[af.all,aA,bw,bB]
  refine⟨fun h=>⟨⟨aa,aa,aa,aa,aa,aa,aa,aa,aa,aa⟩,aa,i+1,aa,by dsimp only;omega,[(0,0),(1,1)],rfl,by rw[show(i:Int)+1=((i+1:Nat):Int) by omega];rfl,rfl,jt rfl rfl (.inr ⟨rfl,dK (PA aa) (yg (y:=0) aa aa)⟩) (dh trivial)⟩,fun h=>⟨rfl,i,aa,[(0,0),(1,1)],rfl,rfl,rfl,dh (dh trivial)⟩⟩
 ·subst hi
  simp only[af.all,aA]
  exact⟨⟨aa,aa⟩,aa,.refl _⟩
theorem BM:bf P yb 91:=by
 refine cJ fun K args r hk hs _=>?_
 split at hs
 ·rename_i n k
  simp only[ay]at hs
  subst hs
  intro hn
  have h1:0<=k:=hn.1
  have h2:k<=n:=hn.2.1
  have h3:n<=40:=hn.2.2
  have:=UI (n:=n.toNat) (k:=k.toNat) aa aa K
  rw[Int.toNat_of_nonneg h1,Int.toNat_of_nonneg aa]at this
  exact this trivial
 ·simp at hs
theorem Hf:bI P rD:=fD (aL BM iu)
theorem WG {m:Nat} {p:Nat->Rat} (hm1:m<=40) (hz:qk (m+1) p) (K:Nat):aP P 123 K [aV p (m+1) ag] [] (aK (aV (fk (m+1) p) (m+1) ag) []):=by
 refine gm (r:=aK (aV (fk (m+1) p) (m+1) ag) []) hT JU rfl aW rfl (fun _ cx h0=>?_) K []
 have hk:=jZ h0
 have hW:=cW
 have hd:∀k i,k+i<=m->Sz (fe p k i) ag:=fun k i h=>hz.1 k i aa
 refine au.oX hT Hf hm (x:=vO) [1,1,1,1,0,1] (i:=0) (y:=xu) (z:=part vO [1,1,1,1,1]) ah ah ah JU.dst [1,0] (j:=1) (x1:=uL) (zb:=part xu [1,1]) ah ah ah [1,0,1] (i2:=2) (y2:=part uL [1,0,1,0,0]) ah ah rfl hk
  (f1:=[]) (f2:=[16]) (f3:=[]) (f4:=[33]) (f5:=[]) 60 qF u5 2 2 (fun k:Nat=>yK m k) (fun k=>jR m (jo m p k) (fk (m+1) p) k) (fun k=>k<=m+1) (fun k=>k=m+1) (fun k=>m+1-k) (fun k=>k<m+1) (fun _=>False) (fun _=>False)
  (fun k (i:Nat)=>Bw m k i) (fun k i=>jR m (gQ m p k i) (fk (m+1) p) (k+1)) (fun k i=>i<=m-k) (fun k i=>i=m-k) (fun k i=>m-k-i)
  ⟨_,PC,?_⟩ (fun k hk=>⟨_,PY,?_⟩) (fun k hk hG=>⟨_,RB,?_⟩) (fun k hk hG i hi=>⟨_,adS,?_⟩) (fun k hk hG i hi=>⟨_,Tg,?_⟩) (fun k hk=>?_) (fun _ _ h=>h.elim) (fun _ _ h=>h.elim)
 ·simp only[af.all,aA]
  refine⟨aa,aa,0,aa,[(0,28672)],rfl,?_,rfl,kA rfl aa aa (bg rfl rfl aa (fun i hi=>bE rfl ?_) trivial)⟩
  ·rw[show((m+1:Nat):Int)-1=(m:Nat) by omega,show 0+(m+1)=m+1-0 by omega];rfl
  ·show AV.rat (p i) ag=AV.rat (jo m p 0 i) ag
   unfold jo;rw[Nat.zero_min];rfl
 ·simp only[af.all,aA,bw,bB]
  exact⟨fun h=>⟨aa,[(0,0),(1,1)],rfl,rfl,rfl,bg rfl rfl rfl (fun i hi=>bE rfl rfl) (bg rfl rfl rfl (fun i hi=>bE rfl rfl) trivial)⟩,fun h=>⟨rfl,k,aa,[(0,0),(1,1)],rfl,rfl,rfl,bg rfl rfl rfl (fun i hi=>bE rfl rfl) (bg rfl rfl rfl (fun i hi=>bE rfl rfl) trivial)⟩⟩
 ·simp only[af.all,aA,bu]
  have e0:(0:Int).toNat=0:=rfl
  refine⟨aa,0,aa,[(0,0),(1,36866)],rfl,rfl,rfl,bg rfl rfl rfl (fun i hi=>?_) (bg rfl rfl rfl (fun i hi=>bE rfl ?_) trivial)⟩
  ·refine .inr ⟨?_,?_⟩
   ·split
    ·rfl
    ·rw[show i-k+0=0 by omega];rfl
   ·split
    ·exact .refl _
    ·rw[show i-k+0=0 by omega,show i=k by omega]
     exact dK (by rw[zK aa];rfl) (hz.2 k hG)
  ·show AV.rat (jo m p k i) ag=AV.rat (gQ m p k 0 i) ag
   unfold gQ;rw[if_neg (Nat.not_lt_zero i)]
 ·simp only[af.all,aA,bw,bB,bu,Nat.add_zero]
  have e1:((i:Int)+1).toNat=i+1:=aa
  rw[e1]
  refine⟨aa,fun h=>⟨aa,aa,i+1,aa,by dsimp only;omega,[(0,0),(1,1)],rfl,rfl,rfl,bg rfl rfl rfl (fun j hj=>bE rfl rfl) (bg rfl rfl rfl (fun j hj=>?_) trivial)⟩,fun h=>⟨rfl,i,aa,[(0,0),(1,1)],rfl,rfl,rfl,bg rfl rfl rfl (fun j hj=>bE rfl rfl) (bg rfl rfl rfl (fun j hj=>bE rfl rfl) trivial)⟩⟩
  have h3:=fun j=>Mr (m:=m) (k:=k) (i:=i) (j:=j) (p:=p) aa
  exact kI (x:=gQ m p k i) (y:=gQ m p k (i+1)) (dK ((if_pos rfl).symm.trans (h3 i)) (by unfold gQ;rw[if_pos (Nat.lt_succ_self i)];exact hd _ _ aa)) fun hj=>dy ((if_neg hj).symm.trans (h3 j)) aQ
 ·subst hi
  simp only[af.all,aA]
  refine⟨aa,aa,k+1,aa,by dsimp only;omega,[(0,0),(1,1)],rfl,?_,rfl,bg rfl rfl rfl (fun j hj=>bE rfl rfl) (bg rfl rfl rfl (fun j hj=>bE rfl ?_) trivial)⟩
  ·rw[show(((m+1-k:Nat):Int)-1).toNat-(0:Int).toNat=m+1-(k+1) by omega];rfl
  ·show AV.rat (gQ m p k (m-k) j) ag=AV.rat (jo m p (k+1) j) ag
   rw[Gk]
 ·subst hk
  exact au.jV ((aF.fin hT Hf hm 60 Xn ah (gr fun _ _=>.refl _)).mono fun _ _ h=>.inl h)
theorem Qt:bf P yC 123:=cR fun⟨⟨n,p⟩,_⟩ K hn=>by
 obtain⟨h1,h2,h3⟩:=hn
 simp only at h1 h2 h3
 obtain⟨m,rfl⟩:∃m,n=m+1:=⟨n-1,aa⟩
 exact WG aa h3 K
theorem Yx:bI P Aw:=fD (aL Qt iu)
theorem O6 {n:Nat} {k:Nat->Rat} (hn:n<2^40) (K:Nat):aP P 151 K [aV k n ag] [] (aK (aV k (br k n) ag) []):=by
 have hW:=cW
 refine iG (r:=aK (aV k (br k n) ag) []) hT u6 hm C6 rfl aW rfl [1,0] (i:=0) (y:=part lz [1,0,0,0]) (z:=part lz [1,1]) ah ah ah (f1:=[]) (f2:=[6,15]) (f3:=[]) 60 [0] 0
  (fun j:Nat=>[aV k j ag]) (fun _=>[]) (fun j=>j<=n/\br k j=br k n) (fun j=>j=br k n) (fun j=>j) (fun _=>⟨⟨_,O4,?_⟩,fun j hj=>⟨_,XB,?_⟩,fun j hj=>⟨_,W9,?_⟩⟩) K []
 ·simp only[af.all,aA]
  exact⟨n,⟨aQ,rfl⟩,dx.vals rfl⟩
 ·obtain⟨h1,h2⟩:=hj
  simp only[af.all,aA,cond_true,nB,bw,bB]
  refine⟨fun h=>⟨⟨aa,aa,aa,aa⟩,fun h3=>⟨aa,j-1,⟨aa,?_⟩,by dsimp only;omega,?_⟩,fun h3=>⟨rfl,j,?_,dx.vals rfl⟩⟩,fun h=>⟨aa,fun h3=>absurd h3 (by decide),fun _=>⟨rfl,j,?_,dx.vals rfl⟩⟩⟩
  ·rw[<-h2]
   obtain⟨m,rfl⟩:∃m,j=m+1:=⟨j-1,aa⟩
   rw[show(((m+1:Nat):Int)-1).toNat=m by omega]at h3
   show br k m=_
   rw[br,if_pos h3]
  ·rw[show((j:Int)-1).toNat-(0:Int).toNat=j-1 by omega]
   exact dx.vals rfl
  ·rw[<-h2]
   obtain⟨m,rfl⟩:∃m,j=m+1:=⟨j-1,aa⟩
   rw[show(((m+1:Nat):Int)-1).toNat=m by omega]at h3
   exact(nP (.inr h3)).symm
  ·rw[<-h2,show j=0 by omega];rfl
 ·rw[hj];exact .refl _
theorem Bq:bf P rI 151:=cR fun⟨⟨n,k⟩,_⟩ K hn=>O6 hn K
theorem O3 {p:PP} (hp:dm p) (K:Nat):aP P 61 K [aI p] [] (aK (aI (az p)) []):=by
 have hW:=cW
 obtain⟨n,hn⟩:∃n,n=p.1:=⟨_,rfl⟩
 obtain⟨k,hk⟩:∃k,k=fk p.1 p.2:=⟨_,rfl⟩
 have e0:az p=(br k n,k):=by rw[hk,hn];rfl
 have h2:=hp.2.1
 rw[e0]
 refine iG (r:=aK (aI (br k n,k)) []) hT Yx hm Vp rfl aW rfl [1,1,0] (i:=0) (y:=part vp [1,1,0,0,0]) (z:=part vp [1,1,1]) ah ah ah (f1:=[]) (f2:=[9,18]) (f3:=[]) 60 [3] 0
  (fun j:Nat=>[aV k j ag]) (fun _=>[]) (fun j=>j<=n/\br k j=br k n) (fun j=>j=br k n) (fun j=>j) (fun _=>⟨⟨_,Zj,?_⟩,fun j hj=>⟨_,Zx,?_⟩,fun j hj=>⟨_,Xy,?_⟩⟩) K []
 ·simp only[af.all,aA]
  exact⟨⟨cZ aQ,hp.1,hp.2.1,hp.2.2⟩,n,⟨aQ,rfl⟩,by rw[hk,hn];exact dx.vals rfl⟩
 ·obtain⟨h1,h2⟩:=hj
  simp only[af.all,aA,cond_true,nB,bw,bB]
  refine⟨fun h=>⟨⟨aa,aa,aa,aa⟩,fun h3=>⟨aa,j-1,⟨aa,?_⟩,by dsimp only;omega,?_⟩,fun h3=>⟨rfl,j,?_,dx.vals rfl⟩⟩,fun h=>⟨aa,fun h3=>absurd h3 (by decide),fun _=>⟨rfl,j,?_,dx.vals rfl⟩⟩⟩
  ·rw[<-h2]
   obtain⟨m,rfl⟩:∃m,j=m+1:=⟨j-1,aa⟩
   rw[show(((m+1:Nat):Int)-1).toNat=m by omega]at h3
   show br k m=_
   rw[br,if_pos h3]
  ·rw[show((j:Int)-1).toNat-(0:Int).toNat=j-1 by omega]
   exact dx.vals rfl
  ·rw[<-h2]
   obtain⟨m,rfl⟩:∃m,j=m+1:=⟨j-1,aa⟩
   rw[show(((m+1:Nat):Int)-1).toNat=m by omega]at h3
   exact(nP (.inr h3)).symm
  ·rw[<-h2,show j=0 by omega];rfl
 ·rw[hj];exact .refl _
theorem Zu:bf P wI 61:=cR fun⟨a,_⟩ K hn=>O3 hn K
def qe:bh:=zG::(91,yb)::(93,ir kR kR xH mS)::gV
abbrev uG:Code:=aH f96
abbrev u9:Code:=part uG [1,1,1,1,0,1,0,0]
abbrev xy:Code:=part u9 [1,0,0]
abbrev qp:List Nat:=[0,4,5,6]
abbrev zW (m:Nat) (c:Nat->Rat) (i:Nat):List AV:=[aV c (m+1) ag,.int .i64 m,.own 0 3 0 i,.int .i64 i]
abbrev uH:List Nat:=[0,4,5,6,7,8]
abbrev BK (m:Nat) (c:Nat->Rat) (i k:Nat):List AV:=[aV c (m+1) ag,.int .i64 m,.own 0 3 0 i,.int .i64 i,.ptr 1 0 3 0 [],.int .i64 k]
def E2:Spec:=dA (kC (kL ag) kN) (fun a=>.tuple [aV (eW a.1.1 a.1.2) a.1.1 ag,.int .i64 0]) fun a=>[1<=a.1.1,a.1.1<=41,iD a.1.1 a.1.2]
def Hp:bh:=zG::(151,rI)::(96,E2)::gV
theorem JV:aX 96 f96:=aZ func96
theorem Zv:aX 98 f98:=aZ func98
theorem Ro {m:Nat} {c:Nat->Rat}:aG T qe [200014,200017] 60 qp (before uG [1,1,1,1,0,1]) ⟨aT 0 [aV c (m+1) ag],[],0⟩=
  let c1:Int:=(↑(m+1):Int)-1;some (aj [-(2:Int)^63<=c1/\c1<2^63] (aj [decide (c1<0)=false] (aj [(bif false then true else decide (c1>40))=false] (leaf normal ([ak 3 (m+1) fun i=>rat (c i) ag,int i64 c1,nil,int i64 0],[]))))):=ah
theorem NX {m i:Nat} {c x:Nat->Rat}:aG T qe [20] 60 qp (before u9 [1,0]) ⟨aC qp (zW m c i),[(0,bT i x ag)],1⟩=
  let c1:List AV×aE:=([ak 3 (m+1) fun i=>rat (c i) ag,int i64 (↑m:Int),own 0 3 0 i,int i64 (↑i:Int)],[(0,ax.mk true true 3 i fun i=>rat (x i) ag)]);some (fork (decide ((↑i:Int)<=(↑m:Int))) (leaf normal c1) (leaf (exit 0) c1)):=ah
theorem adZ {m i:Nat} {c x:Nat->Rat}:aG T qe [] 60 uH (before xy [1,0,1]) ⟨aC qp (zW m c i),[(0,bT i x ag)],1⟩=
  some (leaf normal ([ak 3 (m+1) fun i=>rat (c i) ag,int i64 (↑m:Int),own 0 3 0 i,int i64 (↑i:Int),ptr 1 0 3 0 [],int i64 0],[((1:Nat),fL fun x=>rat 0 1),(0,ax.mk true true 3 i fun i=>rat (x i) ag)])):=ah
theorem aai {m i k:Nat} {c x:Nat->Rat} {q:Rat}:aG T qe [25] 60 uH [part xy [1,0,1,0,0]] ⟨aC uH (BK m c i k),[(1,tR q ag),(0,bT i x ag)],2⟩=
  let c9:Int:=(↑m:Int);let c8:AV:=own 0 3 0 i;let c7:Nat:=64+64;let c6:Int:=(↑i:Int);let c5:AV:=ptr 1 0 3 0 [];let c4:AV:=ak 3 (m+1) fun i=>rat (c i) ag;let c3:Nat×ax:=(0,ax.mk true true 3 i fun i=>rat (x i) ag);let c2:Nat:=2^41;let c1:Int:=(↑k:Int);let c11:Prop:=(0:Int)<=c1;let c10:Int:=c1+1;some (fork (decide (c1<=c6)) (aj [(0:Nat)<1,c11,c1<=c6,c6<=40,c11,c1<=c9,c9<=40,(64:Nat)<c2,(64:Nat)<c2,c11/\c1.toNat<m+1,c7<c2,ag<c2,ag<c2,c7+ag<c2,(0:Nat)<1] (aj [-(2:Int)^63<=c10/\c10<2^63] (leaf normal ([c4,int i64 c9,c8,int i64 c6,c5,int i64 c10],[((1:Nat),fL fun j=>if(j==0)=true then dN (wY (q,ag) ((↑(↑(bn c6.toNat c1.toNat):Int):Rat)/(↑(↑(bn c9.toNat c1.toNat):Int):Rat)*c c1.toNat,c7+ag))else rat q ag),c3])))) (leaf (exit 2) ([c4,int i64 c9,c8,int i64 c6,c5,int i64 c1],[((1:Nat),fL fun x=>rat q ag),c3]))):=ah
theorem RT {m i k:Nat} {c x:Nat->Rat} {q:Rat}:aG T qe [] 60 qp (behind xy [1,0,1]++[part u9 [1,1]]) ⟨aC uH (BK m c i k),[(1,tR q ag),(0,bT i x ag)],2⟩=
  let c1:Int:=(↑i:Int)+1;some (aj [(0:Nat)<1,(1:Nat)*3<=2^24,(i+1)*((56:Nat)+1)*2<=2^47] (aj [-(2:Int)^63<=c1/\c1<2^63] (leaf normal ([ak 3 (m+1) fun i=>rat (c i) ag,int i64 (↑m:Int),own 12290 3 0 (i+1),int i64 c1],[(12290,ax.mk true true 3 (i+1) fun i_1=>if i_1<i then rat (x i_1) ag else nth [rat q ag] (rat 0 1) (i_1-i+0))])))):=ah
theorem RV {m i:Nat} {c x:Nat->Rat}:cA T qe [] 60 f96 [part uG [1,1,1,1,1]] ⟨aC qp (zW m c i),[(0,bT i x ag)],1⟩=
  some (leaf ret [ak 3 i fun i=>rat (x (i+0)) ag,int i64 0]):=ah
theorem aeb {a:PP}:bR T Hp [9] 60 f98 (aH f98) ⟨aT 0 [aI a],[],0⟩=
  some (aj [aR a,a.1<2^40] (fork (((br a.2 a.1:Nat):Int)==0) (aj [(1:Nat)*3<=2^24] (leaf ret [ak 3 1 fun i=>nth [agg [AV.bool (decide ((0:Rat)<0)),mag (0:Int).natAbs,mag (if 1=1 then 0 else 1)]] (rat 0 1) (i+0)])) (aj [aR (br a.2 a.1,a.2),1<=br a.2 a.1,br a.2 a.1<=41,iD (br a.2 a.1) a.2] (leaf ret [aV (eW (br a.2 a.1) a.2) (br a.2 a.1) ag])))):=ah
theorem Ff:bI P qe:=fD (aL BM (aL (iL fun _ _ K hn=>AP hn.1 hn.2 K) iu))
theorem UL {m:Nat} {c:Nat->Rat} (hm1:m<=40) (hz:iD (m+1) c) (K:Nat):aP P 96 K [aV c (m+1) ag] [] (aK (.tuple [aV (eW (m+1) c) (m+1) ag,.int .i64 0]) []):=by
 refine gm (r:=aK (.tuple [aV (eW (m+1) c) (m+1) ag,.int .i64 0]) []) hT JV rfl aW rfl (fun _ cx h0=>?_) K []
 have hk:=jZ h0
 have hW:=cW
 refine au.oX hT Ff hm (x:=uG) [1,1,1,1,0,1] (i:=0) (y:=u9) (z:=part uG [1,1,1,1,1]) ah ah ah JV.dst [1,0] (j:=1) (x1:=xy) (zb:=part u9 [1,1]) ah ah ah [1,0,1] (i2:=2) (y2:=part xy [1,0,1,0,0]) ah ah rfl hk
  (f1:=[200014,200017]) (f2:=[20]) (f3:=[]) (f4:=[25]) (f5:=[]) 60 qp uH 1 2 (fun i:Nat=>zW m c i) (fun i=>[(0,bT i (eW (m+1) c) ag)]) (fun i=>i<=m+1) (fun i=>i=m+1) (fun i=>m+1-i) (fun i=>i<m+1) (fun _=>False) (fun _=>False)
  (fun i (k:Nat)=>BK m c i k) (fun i k=>[(1,tR (ju (m+1) c i k) ag),(0,bT i (eW (m+1) c) ag)]) (fun i k=>k<=i+1) (fun i k=>k=i+1) (fun i k=>i+1-k)
  ⟨_,Ro,?_⟩ (fun i hi=>⟨_,NX,?_⟩) (fun i hi hG=>⟨_,adZ,?_⟩) (fun i hi hG k hk=>⟨_,aai,?_⟩) (fun i hi hG k hk=>⟨_,RT,?_⟩) (fun i hi=>?_) (fun _ _ h=>h.elim) (fun _ _ h=>h.elim)
 ·simp only[af.all,aA,cond_false,bB]
  exact⟨aa,aa,aa,0,aa,[],rfl,by rw[show((m+1:Nat):Int)-1=(m:Nat) by omega];rfl,rfl,kA rfl aa aa trivial⟩
 ·simp only[af.all,aA,bw,bB]
  exact⟨fun h=>⟨aa,[(0,0)],rfl,rfl,rfl,bg rfl rfl rfl (fun i hi=>bE rfl rfl) trivial⟩,fun h=>⟨rfl,i,aa,[(0,0)],rfl,rfl,rfl,bg rfl rfl rfl (fun i hi=>bE rfl rfl) trivial⟩⟩
 ·simp only[af.all,aA]
  exact⟨0,aa,[(0,0),(1,1)],rfl,rfl,rfl,jt rfl rfl (.inr ⟨rfl,dy rfl aa⟩) (bg rfl rfl rfl (fun i hi=>bE rfl rfl) trivial)⟩
 ·simp only[af.all,aA,bw,bB,bu]
  exact⟨fun h=>⟨aa,aa,k+1,aa,by dsimp only;omega,[(0,0),(1,1)],rfl,rfl,rfl,jt rfl rfl (.inr ⟨rfl,dK rfl (hz i (k+1) hG aa)⟩) (bg rfl rfl rfl (fun i hi=>bE rfl rfl) trivial)⟩,fun h=>⟨rfl,k,aa,[(0,0),(1,1)],rfl,rfl,rfl,dh (bg rfl rfl rfl (fun i hi=>bE rfl rfl) trivial)⟩⟩
 ·subst hk
  simp only[af.all,aA]
  refine⟨aa,aa,i+1,aa,by dsimp only;omega,[(0,12290)],rfl,rfl,rfl,bg rfl rfl rfl (fun j hj=>?_) trivial⟩
  by_cases h:j<i
  ·rw[if_pos h];exact bE rfl rfl
  ·rw[if_neg h,show j-i+0=0 by omega,show j=i by omega];exact bE rfl rfl
 ·subst hi
  refine au.jV ((aF.fin hT Ff hm 60 RV ah ?_).mono fun _ _ h=>.inl h)
  exact⟨.refl _,.refl _,trivial⟩
theorem FZ:bf P E2 96:=cR fun⟨⟨n,p⟩,_⟩ K hn=>by
 obtain⟨h1,h2,h3⟩:=hn
 simp only at h1 h2 h3
 obtain⟨m,rfl⟩:∃m,n=m+1:=⟨n-1,aa⟩
 exact UL aa h3 K
theorem O9:bI P Hp:=fD (aL Bq (aL FZ iu))
theorem SP {a:PP} (ta:Trim a) (hz:fO a) (K:Nat):aP P 98 K [aI a] [] (aK (aI (jH a)) []):=by
 have e0:br a.2 a.1=a.1:=nP ta
 have hl:=hz.1
 refine bZ hT O9 hm Zv rfl aW rfl 60 aeb (fun _=>?_) K []
 rw[e0]
 simp only[af.all,aA,beq_iff_eq,beq_eq_false_iff_ne]
 refine⟨⟨cV,aa⟩,fun h=>⟨aa,?_⟩,fun h=>⟨⟨cV,aa,hz.1,hz.2⟩,?_⟩⟩
 ·have h0:a.1=0:=aa
  show bA _ (aV (ng a.1 a.2) (jy a.1) ag)
  rw[h0]
  refine gr (n:=1) fun i hi=>?_
  obtain rfl:i=0:=aa
  exact lV
 ·have e1:jy a.1=a.1:=if_neg aa
  show bA _ (aV (ng a.1 a.2) (jy a.1) ag)
  rw[e1]
  exact gr fun i hi=>dy (if_neg (show¬a.1=0 by omega)).symm aQ
def L7:Spec:=dA (kC (kL ag) kN) (fun a=>aI (jH a.1)) fun a=>[Trim a.1,fO a.1]
theorem TR:bf P L7 98:=cR fun⟨a,_⟩ K hn=>SP hn.1 hn.2 K
def rm:bh:=zG::(151,rI)::(93,ir kR kR xH mS)::gV
abbrev vD:Code:=aH f152
abbrev uv:List Nat:=[0,3,4]
abbrev Dk (n:Nat) (c:Nat->Rat) (i:Nat):List AV:=[aV c n ag,.own 0 3 0 i,.int .i64 i]
abbrev vK:Code:=aH f125
theorem Q5:aX 152 f152:=aZ func152
theorem Rd:aX 125 f125:=aZ func125
theorem ab9 {n:Nat} {c:Nat->Rat}:aG T rm [] 60 uv (before vD [1,1,1,0,1]) ⟨aT 0 [aV c n ag],[],0⟩=
  some (aj [cF (fun i=>rat (c i) ag) n ag,n<2^40] (leaf normal ([ak 3 (br (fun i=>aS (rat (c i) ag)) n) fun i=>rat (aS (rat (c i) ag)) ag,nil,int i64 0],[]))):=ah
theorem acz {n i:Nat} {c x:Nat->Rat}:aG T rm [10] 60 uv [part vD [1,1,1,0,1,0,0]] ⟨aC uv (Dk n c i),[(0,bT i x ag)],1⟩=
  let c5:Prop:=ag<2^41;let c4:AV:=ak 3 n fun i=>rat (c i) ag;let c3:Int:=(↑i:Int);let c2:Int:=(2:Int)^63;let c1:Int:=(↑n:Int)-1;let c6:Int:=c3+1;some (fork (decide (c3<(↑n:Int))) (aj [(0:Int)<=c3/\c3.toNat<n,-c2<=c1/\c1<c2,(0:Int)<=c1/\c1.toNat<n,c5,c5,(1:Nat)*3<=2^24,(i+1)*((56:Nat)+1)*2<=2^47] (aj [-c2<=c6/\c6<c2] (leaf normal ([c4,own 69633 3 0 (i+1),int i64 c6],[(69633,ax.mk true true 3 (i+1) fun i_1=>if i_1<i then rat (x i_1) ag else nth [rat (c c3.toNat/c c1.toNat) (ag+ag)] (rat 0 1) (i_1-i+0))])))) (leaf (exit 0) ([c4,own 0 3 0 i,int i64 c3],[(0,ax.mk true true 3 i fun i=>rat (x i) ag)]))):=ah
theorem WL {n i:Nat} {c x:Nat->Rat}:cA T rm [] 60 f152 [part vD [1,1,1,1]] ⟨aC uv (Dk n c i),[(0,bT i x ag)],1⟩=
  some (leaf ret [ak 3 i fun i=>rat (x (i+0)) ag]):=ah
theorem acv {n:Nat} {c:Nat->Rat}:aG T rm [] 60 mG (before vK [1,1,0,1]) ⟨aT 0 [aV c n ag],[],0⟩=
  some (leaf normal ([ak 3 n fun i=>rat (c i) ag,nil,int i64 1],[])):=ah
theorem Te {n i:Nat} {c x:Nat->Rat}:aG T rm [8] 60 mG [part vK [1,1,0,1,0,0]] ⟨aC mG (rU n c i),[(0,bT i x ag)],1⟩=
  let c5:Nat:=i+1;let c3:AV:=ak 3 n fun i=>rat (c i) ag;let c2:Int:=(2:Int)^63;let c1:Int:=(↑c5:Int);let c6:Int:=c1+1;let c4:Nat:=Max.max 1 (bK c1.natAbs);some (fork (decide (c1<(↑n:Int))) (aj [-c2<=c1,c1<c2,(0:Int)<=c1/\c1.toNat<n,c4<2^41,ag<2^41,(1:Nat)*3<=2^24,c5*((56:Nat)+1)*2<=2^47] (aj [-c2<=c6/\c6<c2] (leaf normal ([c3,own 53249 3 0 c5,int i64 c6],[(53249,ax.mk true true 3 c5 fun i_1=>if i_1<i then rat (x i_1) ag else nth [rat ((↑c1:Rat)*c c1.toNat) (c4+ag)] (rat 0 1) (i_1-i+0))])))) (leaf (exit 0) ([c3,own 0 3 0 i,int i64 c1],[(0,ax.mk true true 3 i fun i=>rat (x i) ag)]))):=ah
theorem Oi {n i:Nat} {c x:Nat->Rat}:cA T rm [] 60 f125 [part vK [1,1,1]] ⟨aC mG (rU n c i),[(0,bT i x ag)],1⟩=
  some (aj [cF (fun i=>rat (x (i+0)) ag) i ag,i<2^40] (leaf ret [ak 3 (br (fun i=>aS (rat (x (i+0)) ag)) i) fun i=>rat (aS (rat (x (i+0)) ag)) ag])):=ah
theorem Ru {n m:Nat} {x:Nat->Rat}:aG T ke [] 60 [0] (before lz [1,0]) ⟨aT 0 [.own 0 3 0 n],[(0,bT m x ag)],1⟩=
  some (leaf normal ([own 0 3 0 n],[(0,ax.mk true true 3 m fun i=>rat (x i) ag)])):=ah
theorem RX {n m:Nat} {x:Nat->Rat}:aG T ke [6,15] 60 [0] [part lz [1,0,0,0]] ⟨aC [0] [.own 0 3 0 n],[(0,bT m x ag)],1⟩=
  let c7:Int:=(↑n:Int);let c4:Int:=(2:Int)^63;let c3:Nat×ax:=(0,ax.mk true true 3 m fun i=>rat (x i) ag);let c6:af (List AV×aE):=leaf (exit 0) ([own 0 3 0 n],[c3]);let c5:Bool:=decide (c7>0);let c2:Int:=c7-1;let c1:af (List AV×aE):=aj [-c4<=c2/\c2<c4,(0:Int)<=0/\(0:Int)<=c2/\c2<=c2/\c2<=c7] (leaf normal ([own 0 3 0 (c2.toNat-Int.toNat (0:Int))],[c3]));some (fork c5 (aj [c5=true,-c4<=c2/\c2<c4,(0:Int)<=c2/\c2.toNat<n,c2.toNat+0<m,ag<2^41] (fork (bif true then dn (x (c2.toNat+0))==0 else false) c1 c6)) (aj [c5=false] (fork false c1 c6))):=ah
theorem Sh {n m:Nat} {x:Nat->Rat}:aG T ke [] 60 [2] [part lz [1,1]] ⟨aC [0] [.own 0 3 0 n],[(0,bT m x ag)],1⟩=
  some (leaf ret ([own 0 3 0 n],[(0,ax.mk true true 3 m fun i=>rat (x i) ag)])):=ah
theorem Mn:bI P rm:=fD (aL Bq (aL (iL fun _ _ K hn=>AP hn.1 hn.2 K) iu))
theorem abe {a:PP} (hn:a.1<2^40) (ta:Trim a) (hz:cG a.1 (cu a.1 a.2)) (K:Nat):aP P 152 K [aI a] [] (aK (aI (dO a)) []):=by
 have hW:=cW
 have e0:br a.2 a.1=a.1:=nP ta
 refine iG (r:=aK (aI (dO a)) []) hT Mn hm Q5 rfl aW rfl [1,1,1,0,1] (i:=0) (y:=part vD [1,1,1,0,1,0,0]) (z:=part vD [1,1,1,1]) ah ah ah (f1:=[]) (f2:=[10]) (f3:=[]) 60 uv 1
  (fun i:Nat=>Dk a.1 a.2 i) (fun i=>[(0,bT i (cu a.1 a.2) ag)]) (fun i=>i<=a.1) (fun i=>i=a.1) (fun i=>a.1-i) (fun _=>⟨⟨_,ab9,?_⟩,fun i hi=>⟨_,acz,?_⟩,fun i hi=>⟨_,WL,?_⟩⟩) K []
 ·simp only[af.all,aA]
  exact⟨⟨cZ aQ,hn⟩,0,Nat.zero_le _,[],rfl,by have e1:br (fun i=>aS (.rat (a.2 i) ag)) a.1=a.1:=e0;rw[e1];rfl,rfl,kA rfl aa aa trivial⟩
 ·simp only[af.all,aA,bw,bB,bu]
  refine⟨fun h=>⟨aa,aa,i+1,aa,by dsimp only;omega,[(0,69633)],rfl,?_,rfl,bg rfl rfl rfl (fun j hj=>?_) trivial⟩,fun h=>⟨rfl,i,aa,[(0,0)],rfl,rfl,rfl,bg rfl rfl rfl (fun j hj=>bE rfl rfl) trivial⟩⟩
  ·rw[show(i:Int)+1=((i+1:Nat):Int) by omega];rfl
  ·by_cases h2:j<i
   ·rw[if_pos h2];exact bE rfl rfl
   ·rw[if_neg h2,show j-i+0=0 by omega,show j=i by omega,show((a.1:Int)-1).toNat=a.1-1 by omega]
    exact .inr ⟨rfl,dK rfl (hz i aa)⟩
 ·subst hi;exact .refl _
def EL:Spec:=dA (kC (kL ag) kN) (fun a=>aI (dO a.1)) fun a=>[a.1.1<2^40,Trim a.1,cG a.1.1 (cu a.1.1 a.1.2)]
theorem Lt:bf P EL 152:=cR fun⟨a,_⟩ K hn=>abe hn.1 hn.2.1 hn.2.2 K
theorem TA {n:Nat} {c:Nat->Rat} (hn:n<2^40) (hz:cG (n-1) (cT c)) (K:Nat):aP P 125 K [aV c n ag] [] (aK (aV (cT c) (br (cT c) (n-1)) ag) []):=by
 have hW:=cW
 refine iG (r:=aK (aV (cT c) (br (cT c) (n-1)) ag) []) hT Mn hm Rd rfl aW rfl [1,1,0,1] (i:=0) (y:=part vK [1,1,0,1,0,0]) (z:=part vK [1,1,1]) ah ah ah (f1:=[]) (f2:=[8]) (f3:=[]) 60 mG 1
  (fun i:Nat=>rU n c i) (fun i=>[(0,bT i (cT c) ag)]) (fun i=>i<=n-1) (fun i=>i=n-1) (fun i=>n-1-i) (fun _=>⟨⟨_,acv,?_⟩,fun i hi=>⟨_,Te,?_⟩,fun i hi=>⟨_,Oi,?_⟩⟩) K []
 ·simp only[af.all,aA]
  exact⟨0,aa,[],rfl,rfl,rfl,kA rfl aa aa trivial⟩
 ·have hb:(max 1 (bK ((i+1:Nat):Int).natAbs))<=64:=by
   rw[Int.natAbs_natCast]
   have:=ji (x:=i+1) (k:=64)|>.2 aa
   omega
  simp only[af.all,aA,bw,bB,bu]
  refine⟨fun h2=>⟨aa,aa,i+1,aa,by dsimp only;omega,[(0,53249)],rfl,?_,rfl,bg rfl rfl rfl (fun j hj=>?_) trivial⟩,fun h2=>⟨rfl,i,aa,[(0,0)],rfl,rfl,rfl,bg rfl rfl rfl (fun j hj=>bE rfl rfl) trivial⟩⟩
  ·rw[show((i+1:Nat):Int)+1=((i+1+1:Nat):Int) by omega];rfl
  ·refine .inr ⟨?_,?_⟩
   ·split
    ·rfl
    ·rw[show j-i+0=0 by omega];rfl
   ·split
    ·exact .refl _
    ·rw[show j-i+0=0 by omega,show j=i by omega]
     exact dK rfl (hz i aa)
 ·subst hi
  simp only[af.all,aA]
  exact⟨⟨cZ aQ,aa⟩,.refl _⟩
theorem Fz:bf P pT 125:=cR fun⟨⟨n,c⟩,_⟩ K hn=>TA hn.1 hn.2 K
theorem Pp {kk n m:Nat} {x:Nat->Rat} (hn:n<2^40) (hnm:n<=m) (c:Ctx) (hk:Kept [0] c):au P c f151.ntmps lz ⟨aT 0 [.own 0 3 0 n],[(0,bT m x ag)],1⟩ (EM f151 kk [.own kk 3 0 (br x n)] (bT m x ag)):=by
 have hW:=cW
 have re:∀j,dx [0] ([.own 0 3 0 j],[((0:Nat),bT m x ag)]) [.own 0 3 0 j] [(0,bT m x ag)] 1:=fun j=>⟨[(0,0)],rfl,rfl,rfl,lf trivial⟩
 refine au.l5 hT u6 hm [1,0] (i:=0) (y:=part lz [1,0,0,0]) (z:=part lz [1,1]) ah ah ah C6.dst hk (f1:=[]) (f2:=[6,15]) 60 [0] 1
  (fun j:Nat=>[.own 0 3 0 j]) (fun _=>[(0,bT m x ag)]) (fun j=>j<=n/\br x j=br x n) (fun j=>j=br x n) (fun j=>j) (fun _=>False) ⟨_,Ru,?_⟩ (fun j hj=>⟨_,RX,?_⟩) (fun j hj=>?_) (fun _ _ h=>h.elim)
 ·simp only[af.all,aA]
  exact⟨n,⟨aQ,rfl⟩,re n⟩
 ·obtain⟨h1,h2⟩:=hj
  simp only[af.all,aA,cond_true,nB,bw,bB,Nat.add_zero]
  refine⟨fun h=>⟨⟨aa,aa,aa,aa,aa⟩,fun h3=>⟨aa,j-1,⟨aa,?_⟩,by dsimp only;omega,?_⟩,fun h3=>⟨rfl,j,?_,re j⟩⟩,fun h=>⟨aa,fun h3=>absurd h3 (by decide),fun _=>⟨rfl,j,?_,re j⟩⟩⟩
  ·rw[<-h2]
   obtain⟨m,rfl⟩:∃m,j=m+1:=⟨j-1,aa⟩
   rw[show(((m+1:Nat):Int)-1).toNat=m by omega]at h3
   show br x m=_
   rw[br,if_pos h3]
  ·rw[show((j:Int)-1).toNat-(0:Int).toNat=j-1 by omega]
   exact re (j-1)
  ·rw[<-h2]
   obtain⟨m,rfl⟩:∃m,j=m+1:=⟨j-1,aa⟩
   rw[show(((m+1:Nat):Int)-1).toNat=m by omega]at h3
   exact(nP (.inr h3)).symm
  ·rw[<-h2,show j=0 by omega];rfl
 ·subst hj
  exact au.bD hT u6 hm 60 [2] Sh ah fun s' hs'=>⟨.inr rfl,[2],_,[.own 0 3 0 (br x n)],_,_,hs',ah,⟨⟨rfl,dH (by simp[aY,look]) rfl rfl⟩,trivial⟩,rfl,gk rfl fun i hi=>gp rfl⟩
theorem ZY:bf P vm 151:=by
 intro K args pre r h
 unfold vm at h
 split at h
 ·rename_i k n k' m f
  split at h
  ·rename_i hc
   have hc:=eq_of_beq hc
   subst hc
   simp only[ay]at h
   subst h
   intro need
   have h0:=need
   obtain⟨n1,n2,n3⟩:=need
   exact Kt hT C6 (rest:=[]) (ws:=[.own k' 3 0 _]) (o2:=⟨true,true,3,m,f⟩) (o:=bT m (fun i=>aS (f i)) ag) rfl rfl aW (fun ρ=>gk rfl fun i hi=>gO (n3 i hi).1 (n3 i hi).2) (fun _ c hk=>Pp n2 n1 c hk) K h0
  ·simp at h
 ·simp at h
theorem YT:bf P sN 151:=by
 intro K args pre r h
 unfold sN at h
 split at h
 ·rename_i h1
  exact ZY K args pre r (h1.trans h)
 ·exact Bq K args pre r h
def nX:bh:=zG::(151,sN)::(93,ir kR kR xH mS)::gV
abbrev pO:Code:=aH f97
abbrev wT:Code:=part pO [1,1,1,1,0,1,0,0]
abbrev sL:Code:=part wT [1,0,0]
abbrev mm:List Nat:=[1,6,7,8]
abbrev tG (n e:Nat) (d:Nat->Rat) (j:Nat):List AV:=[aV d (e+1) ag,.own 0 3 0 n,.own 1 3 0 (n-e),.int .i64 ((n:Int)-((e:Int)+1)-(j:Int))]
abbrev o5 (n e:Nat) (x q:Nat->Rat):aE:=[(0,bT n x ag),(1,bT (n-e) q ag)]
abbrev sV:List Nat:=[1,6,7,8,9,10]
abbrev C1 (n e:Nat) (d:Nat->Rat) (k i:Nat):List AV:=[aV d (e+1) ag,.own 0 3 0 n,.own 1 3 0 (n-e),.int .i64 k,.ptr 2 0 3 0 [],.int .i64 i]
abbrev DS (n e:Nat) (x q:Nat->Rat) (f:Rat):aE:=[(2,tR f ag),(0,bT n x ag),(1,bT (n-e) q ag)]
theorem Ez:aX 97 f97:=aZ func97
theorem ZA {n e:Nat} {a d:Nat->Rat}:aG T nX [18] 60 mm (before pO [1,1,1,1,0,1]) ⟨aT 0 [aV a n ag,aV d (e+1) ag],[],0⟩=
  let c7:Int:=(↑(e+1):Int);let c6:AV:=own 16384 3 0 ((0:Nat)+n);let c5:AV:=ak 3 (e+1) fun i=>rat (d i) ag;let c3:Nat×ax:=(16384,ax.mk true true 3 ((0:Nat)+n) fun i=>rat (a (i-0)) ag);let c2:Int:=(2:Int)^63;let c1:Int:=(↑n:Int)-c7;let c8:Prop:=-c2<=c1/\c1<c2;let c4:Int:=c1+1;some (aj [(0:Nat)*3<=2^24,((0:Nat)+n)*((56:Nat)+1)*2<=2^47] (fork (decide ((↑n:Int)>=c7)) (aj [c8,-c2<=c4/\c4<c2,(0:Int)<=c4/\c4<=c4/\c4<=2^47/\c4*(↑(56:Nat):Int)<=2^47] (aj [c8] (leaf normal ([c5,c6,own 73728 3 0 c4.toNat,int i64 c1],[(73728,ax.mk true true 3 c4.toNat fun x=>rat 0 1),c3])))) (aj [c8] (leaf normal ([c5,c6,nil,int i64 c1],[c3]))))):=ah
theorem X5 {n e j:Nat} {d x q:Nat->Rat}:aG T nX [32] 60 mm (before wT [1,0]) ⟨aC mm (tG n e d j),o5 n e x q,2⟩=
  let c2:Int:=(↑n:Int)-((↑e:Int)+1)-(↑j:Int);let c1:List AV×aE:=([ak 3 (e+1) fun i=>rat (d i) ag,own 0 3 0 n,own 1 3 0 (n-e),int i64 c2],[(1,ax.mk true true 3 (n-e) fun i=>rat (q i) ag),(0,ax.mk true true 3 n fun i=>rat (x i) ag)]);some (fork (decide (c2>=0)) (leaf normal c1) (leaf (exit 0) c1)):=ah
theorem SY {n e k:Nat} {d x q:Nat->Rat}:aG T nX [] 60 sV (before sL [1,1,1]) ⟨aC mm [aV d (e+1) ag,.own 0 3 0 n,.own 1 3 0 (n-e),.int .i64 k],o5 n e x q,2⟩=
  let c8:Prop:=ag<2^41;let c4:Int:=(↑k:Int);let c3:Int:=(2:Int)^63;let c1:Int:=(↑(e+1):Int);let c6:Nat:=c4.toNat+0;let c5:Int:=c1-1;let c2:Int:=c4+c1-1;let c7:Nat:=c2.toNat+0;some (aj [-c3<=c4+c1/\c4+c1<c3,-c3<=c2/\c2<c3,(0:Int)<=c2/\c2.toNat<n,c7<n,-c3<=c5/\c5<c3,(0:Int)<=c5/\c5.toNat<e+1,c8,c8,(0:Nat)<1] (aj [(0:Nat)<1,(0:Int)<=c4/\c4.toNat<n-e,c6<n-e] (leaf normal ([ak 3 (e+1) fun i=>rat (d i) ag,own 0 3 0 n,own 1 3 0 (n-e),int i64 c4,ptr 61442 0 3 0 [],int i64 0],[((61442:Nat),fL fun j=>if(j==0)=true then dN (xH (x c7,ag) (d c5.toNat,ag))else rat 0 1),(1,ax.mk true true 3 (n-e) fun j=>rat (bif j==c6 then x c7/d c5.toNat else q j) (bif j==c6 then ag+ag else ag)),(0,ax.mk true true 3 n fun i=>rat (x i) ag)])))):=ah
theorem T5 {n e k i:Nat} {d x q:Nat->Rat} {f:Rat}:aG T nX [57] 60 sV [part sL [1,1,1,0,0]] ⟨aC sV (C1 n e d k i),DS n e x q f,3⟩=
  let c12:Nat:=e+1;let c11:AV:=own 0 3 0 n;let c10:AV:=own 1 3 0 (n-e);let c9:AV:=ptr 2 0 3 0 [];let c8:Nat:=2^41;let c7:Int:=(↑i:Int);let c4:Nat×ax:=((2:Nat),fL fun x=>rat f ag);let c3:Nat×ax:=(1,ax.mk true true 3 (n-e) fun i=>rat (q i) ag);let c2:Int:=(2:Int)^63;let c14:Int:=c7+1;let c6:AV:=ak 3 c12 fun i=>rat (d i) ag;let c1:Int:=(↑k:Int)+c7;let c13:Prop:=(0:Int)<=c1/\c1.toNat<n;let c5:Nat:=c1.toNat+0;some (fork (decide (c7<(↑c12:Int))) (aj [-c2<=c1/\c1<c2,-c2<=c1/\c1<c2,c13,c5<n,(0:Nat)<1,(0:Int)<=c7/\c7.toNat<c12,ag<c8,ag<c8,ag<c8,ag+ag<c8,c13,c5<n] (aj [-c2<=c14/\c14<c2] (leaf normal ([c6,c11,c10,int i64 (↑k:Int),c9,int i64 c14],[c4,c3,(0,ax.mk true true 3 n fun j=>rat (bif j==c5 then x c5-f*d c7.toNat else x j) (bif j==c5 then ag+(ag+ag)+1 else ag))])))) (leaf (exit 2) ([c6,c11,c10,int i64 (↑k:Int),c9,int i64 c7],[c4,c3,(0,ax.mk true true 3 n fun i=>rat (x i) ag)]))):=ah
theorem ac0 {n e k i:Nat} {d x q:Nat->Rat} {f:Rat}:aG T nX [] 60 mm (behind sL [1,1,1]++[part wT [1,1]]) ⟨aC sV (C1 n e d k i),DS n e x q f,3⟩=
  let c1:Int:=(↑k:Int)-1;some (aj [-(2:Int)^63<=c1/\c1<2^63] (leaf normal ([ak 3 (e+1) fun i=>rat (d i) ag,own 0 3 0 n,own 1 3 0 (n-e),int i64 c1],[(1,ax.mk true true 3 (n-e) fun i=>rat (q i) ag),(0,ax.mk true true 3 n fun i=>rat (x i) ag)]))):=ah
theorem PB {n e j:Nat} {d x q:Nat->Rat}:cA T nX [] 60 f97 [part pO [1,1,1,1,1]] ⟨aC mm (tG n e d j),o5 n e x q,2⟩=
  some (aj [n-e<=n-e,n-e<2^40,qS (fun i=>rat (q i) ag) (n-e) ag,n<=n,n<2^40,qS (fun i=>rat (x i) ag) n ag] (leaf ret [ak 3 (br (fun i=>aS (rat (q i) ag)) (n-e)) fun i=>rat (aS (rat (q (i+0)) ag)) ag,ak 3 (br (fun i=>aS (rat (x i) ag)) n) fun i=>rat (aS (rat (x (i+0)) ag)) ag])):=ah
theorem Y0 {n e j:Nat} {d x q:Nat->Rat}:aG T nX [] 60 [4,5] [part pO [1,1,1,1,1]] ⟨aC mm (tG n e d j),o5 n e x q,2⟩=
  some (aj [n-e<=n-e,n-e<2^40,qS (fun i=>rat (q i) ag) (n-e) ag,n<=n,n<2^40,qS (fun i=>rat (x i) ag) n ag] (leaf ret ([own 1 3 0 (br (fun i=>aS (rat (q i) ag)) (n-e)),own 0 3 0 (br (fun i=>aS (rat (x i) ag)) n)],[(0,ax.mk true true 3 n fun i=>rat (aS (rat (x i) ag)) ag),(1,ax.mk true true 3 (n-e) fun i=>rat (aS (rat (q i) ag)) ag)]))):=ah
theorem Eu:bI P nX:=fD (aL YT (aL (iL fun _ _ K hn=>AP hn.1 hn.2 K) iu))
def kK (e:Nat) (d a:Nat->Rat) (R j k:Nat):Rat:=if k+j<R then 0 else cY e d a R k
theorem acg {e k:Nat} {d x:Nat->Rat}:en e d x k (x (k+e)/d e) (e+1)=fJ e d k x:=by
 funext j
 unfold en fJ
 by_cases h:k<=j/\j<k+e+1
 ·rw[if_pos aa,if_pos h]
 ·rw[if_neg aa,if_neg h]
theorem J0 {e k i j:Nat} {d x:Nat->Rat} {f:Rat} (hj:j≠k+i):en e d x k f i j=en e d x k f (i+1) j:=by
 unfold en
 by_cases h2:k<=j/\j<k+i
 ·rw[if_pos h2,if_pos aa]
 ·rw[if_neg h2,if_neg aa]
theorem X0 {e k i:Nat} {d x:Nat->Rat} {f:Rat}:en e d x k f i (k+i)-f*d i=en e d x k f (i+1) (k+i):=by
 unfold en
 rw[if_neg aa,if_pos aa,show k+i-k=i by omega]
theorem Yp {ρ:Nat->Option Nat} {k es s n:Nat}:gi ρ (.own k es s n) .void:=by
 refine⟨rfl,fun M w β cs hc=>?_⟩
 cases hc with
 |own h1 h2 h3 h4 h5 h6=>cases h6;exact .void rfl .nil
 |own0 h5 h6=>cases h6;exact .void rfl .nil
theorem FG {n e:Nat} {a d:Nat->Rat} (hn:n<2^30) (he:e<2^30) (hz:lR n e d a) {cx:Ctx} (hk:Kept [] cx) {Q:aq->aJ->Prop}
  (hQ:au P cx f97.ntmps (part pO [1,1,1,1,1]) ⟨aC mm (tG n e d (n-e)),o5 n e (bP e d a (n-e) (n-e)) (cY e d a (n-e)),2⟩ Q):
  au P cx f97.ntmps pO ⟨aT 0 [aV a n ag,aV d (e+1) ag],[],0⟩ Q:=by
 have hW:=cW
 obtain⟨R,hR⟩:∃R,R=n-e:=⟨_,rfl⟩
 unfold lR at hz
 rw[<-hR]at hz
 obtain⟨hzR,hzQ⟩:=hz
 have hz0:cG n a:=hzR 0 (Nat.zero_le _)
 refine au.oX hT Eu hm (x:=pO) [1,1,1,1,0,1] (i:=0) (y:=wT) (z:=part pO [1,1,1,1,1]) ah ah ah Ez.dst [1,0] (j:=1) (x1:=sL) (zb:=part wT [1,1]) ah ah ah [1,1,1] (i2:=2) (y2:=part sL [1,1,1,0,0]) ah ah rfl hk
  (f1:=[18]) (f2:=[32]) (f3:=[]) (f4:=[57]) (f5:=[]) 60 mm sV 2 3 (fun j:Nat=>tG n e d j) (fun j=>o5 n e (bP e d a R j) (kK e d a R j)) (fun j=>j<=R) (fun j=>j=R) (fun j=>R-j) (fun j=>j<R) (fun _=>False) (fun _=>False)
  (fun j (i:Nat)=>C1 n e d (R-1-j) i) (fun j i=>DS n e (en e d (bP e d a R j) (R-1-j) (cY e d a R (R-1-j)) i) (kK e d a R (j+1)) (cY e d a R (R-1-j))) (fun j i=>i<=e+1/\cG n (en e d (bP e d a R j) (R-1-j) (cY e d a R (R-1-j)) i)) (fun j i=>i=e+1) (fun _ i=>e+1-i)
  ⟨_,ZA,?_⟩ (fun j hj=>⟨_,X5,?_⟩) (fun j hj hG=>?_) (fun j hj hG i ⟨hi,hxi⟩=>⟨_,T5,?_⟩) (fun j hj hG i hi=>⟨_,ac0,?_⟩) (fun j hj=>?_) (fun _ _ h=>h.elim) (fun _ _ h=>h.elim)
 ·simp only[af.all,aA,bw,bB]
  have hq0:∀k,k<R->kK e d a R 0 k=0:=fun k hk=>by unfold kK;rw[if_pos aa]
  refine⟨aa,fun h=>⟨aa,aa,0,Nat.zero_le _,[(0,16384),(1,73728)],rfl,?_,rfl,bg rfl rfl aa (fun j hj=>bE rfl rfl) (bg rfl rfl aa (fun j hj=>.inr ⟨rfl,dy (hq0 j aa).symm aa⟩) trivial)⟩,fun h=>?_⟩
  ·rw[show((n:Int)-((e+1:Nat):Int)+1).toNat=n-e by omega,Nat.zero_add,show(n:Int)-((e+1:Nat):Int)=(n:Int)-((e:Int)+1)-((0:Nat):Int) by omega];rfl
  ·have h0:n-e=0:=aa
   refine⟨aa,0,Nat.zero_le _,[(0,16384)],rfl,?_,?_,?_⟩
   ·show _=([_,_,AV.own 1 3 0 (n-e),_]:List AV).map _
    rw[h0,Nat.zero_add,show(n:Int)-((e+1:Nat):Int)=(n:Int)-((e:Int)+1)-((0:Nat):Int) by omega];rfl
   ·show([_,_,AV.own 1 3 0 (n-e),_]:List AV).all _=true
    rw[h0];rfl
   ·refine bg rfl rfl aa (fun j hj=>bE rfl rfl) ?_
    show iU _ _ _ [(1,bT (n-e) _ _)]
    rw[h0]
    exact kA rfl aa aa trivial
 ·simp only[af.all,aA,bw,bB]
  have re:∀{x q:Nat->Rat},dx [] ([ak 3 (e+1) fun i=>rat (d i) ag,own 0 3 0 n,own 1 3 0 (n-e),int i64 ((↑n:Int)-((↑e:Int)+1)-(↑j:Int))],[(1,ax.mk true true 3 (n-e) fun i=>rat (q i) ag),(0,ax.mk true true 3 n fun i=>rat (x i) ag)]) (tG n e d j) (o5 n e x q) 2:=⟨[(0,0),(1,1)],rfl,rfl,rfl,bg rfl rfl rfl (fun j hj=>bE rfl rfl) (bg rfl rfl rfl (fun j hj=>bE rfl rfl) trivial)⟩
  exact⟨fun h=>⟨aa,re⟩,fun h=>⟨rfl,j,aa,re⟩⟩
 ·show∃t,aG T nX [] 60 sV (before sL [1,1,1]) ⟨aC mm [_,_,_,.int .i64 ((n:Int)-((e:Int)+1)-(j:Int))],_,_⟩=some t/\_
  rw[show(n:Int)-((e:Int)+1)-(j:Int)=(R-1-j:Nat) by omega]
  refine⟨_,SY,?_⟩
  simp only[af.all,aA,Nat.add_zero,bu]
  rw[show((R-1-j:Nat):Int)+((e+1:Nat):Int)-1=(R-1-j+e:Nat) by omega,show(((e+1:Nat):Int)-1).toNat=e by omega,bu]
  have hf:bP e d a R j (R-1-j+e)/d e=cY e d a R (R-1-j):=by unfold cY;rw[show R-1-(R-1-j)=j by omega]
  have hu0:en e d (bP e d a R j) (R-1-j) (cY e d a R (R-1-j)) 0=bP e d a R j:=by funext i;unfold en;rw[if_neg aa]
  rw[hf]
  refine⟨aa,aa,0,⟨Nat.zero_le _,by rw[hu0];exact hzR j aa⟩,[(0,0),(1,1),(2,61442)],rfl,rfl,rfl,jt rfl rfl (.inr ⟨rfl,dK hf (hzQ _ aa)⟩) (bg rfl rfl rfl (fun i hi=>.inr ⟨rfl,dy (by rw[hu0]) aQ⟩) (bg rfl rfl rfl (fun i hi=>?_) trivial))⟩
  refine kI (x:=kK e d a R j) (y:=kK e d a R (j+1)) (dK ?_ ?_) fun hi=>dy ?_ aQ
  ·unfold kK;rw[if_neg aa]
  ·unfold kK;rw[if_neg aa];exact hzQ _ aa
  ·unfold kK
   by_cases h:i+j<R
   ·rw[if_pos h,if_pos aa]
   ·rw[if_neg h,if_neg aa]
 ·simp only[af.all,aA,bw,bB,Nat.add_zero]
  rw[show((R-1-j:Nat):Int)+(i:Int)=(R-1-j+i:Nat) by omega,bu,bu]
  refine⟨fun h=>?_,fun h=>⟨rfl,i,aa,[(0,0),(1,1),(2,2)],rfl,rfl,rfl,dh (bg rfl rfl rfl (fun j hj=>bE rfl rfl) (bg rfl rfl rfl (fun j hj=>bE rfl rfl) trivial))⟩⟩
  have hs:Sz (en e d (bP e d a R j) (R-1-j) (cY e d a R (R-1-j)) (i+1) (R-1-j+i)) ag:=by
   have:=hzR (j+1) aa (R-1-j+i) aa
   have e1:bP e d a R (j+1) (R-1-j+i)=en e d (bP e d a R j) (R-1-j) (cY e d a R (R-1-j)) (i+1) (R-1-j+i):=by
    show fJ e d (R-1-j) (bP e d a R j) _=_
    unfold fJ en
    rw[if_pos aa,if_pos aa]
    unfold cY
    rw[show R-1-(R-1-j)=j by omega]
   rwa [e1]at this
  refine⟨aa,aa,i+1,⟨aa,fun l hl=>?_⟩,by dsimp only;omega,[(0,0),(1,1),(2,2)],rfl,by rw[show(i:Int)+1=((i+1:Nat):Int) by omega];rfl,rfl,dh (bg rfl rfl rfl (fun l hl=>?_) (bg rfl rfl rfl (fun j hj=>bE rfl rfl) trivial))⟩
  ·by_cases h3:l=R-1-j+i
   ·rw[h3];exact hs
   ·rw[<-J0 h3];exact hxi l hl
  ·exact kI (x:=en e d (bP e d a R j) (R-1-j) (cY e d a R (R-1-j)) i) (y:=en e d (bP e d a R j) (R-1-j) (cY e d a R (R-1-j)) (i+1)) (dK X0 hs) fun hj=>dy (J0 hj) aQ
 ·subst hi
  simp only[af.all,aA]
  have hf:bP e d a R j (R-1-j+e)/d e=cY e d a R (R-1-j):=by unfold cY;rw[show R-1-(R-1-j)=j by omega]
  refine⟨aa,j+1,hG,by dsimp only;omega,[(0,0),(1,1)],rfl,?_,rfl,bg rfl rfl rfl (fun l hl=>.inr ⟨rfl,dy ?_ aQ⟩) (bg rfl rfl rfl (fun j hj=>bE rfl rfl) trivial)⟩
  ·rw[show((R-1-j:Nat):Int)-1=(n:Int)-((e:Int)+1)-((j+1:Nat):Int) by omega];rfl
  ·rw[<-hf,acg];rfl
 ·subst hj
  rw[<-hR]at hQ
  have e1:kK e d a j j=cY e d a j:=by funext k;unfold kK;rw[if_neg aa]
  show au P cx _ _ ⟨_,o5 n e _ (kK e d a j j),2⟩ Q
  rw[e1]
  exact hQ
theorem Nb {n e:Nat} {a d:Nat->Rat} (hn:n<2^30) (he:e<2^30) (hz:lR n e d a) (K:Nat):aP P 97 K [aV a n ag,aV d (e+1) ag] [] (aK (tZ n e d a) []):=by
 refine gm (r:=aK (tZ n e d a) []) hT Ez rfl aW rfl (fun _ cx h0=>?_) K []
 refine FG hn he hz (jZ h0) (au.jV ((aF.fin hT Eu hm 60 PB ah ?_).mono fun _ _ h=>.inl h))
 simp only[af.all,aA,Nat.add_zero]
 exact⟨⟨aQ,aa,fun j hj=>⟨rfl,.refl _⟩,aQ,aa,fun j hj=>⟨rfl,.refl _⟩⟩,.refl _,.refl _,trivial⟩
theorem C9:bf P ue 97:=cR fun⟨⟨n,a⟩,⟨m,d⟩,_⟩ K hn=>by
 obtain⟨h1,h2,h3,h4,h5,h6⟩:=hn
 simp only at h1 h2 h3
 obtain⟨e,rfl⟩:∃e,m=e+1:=⟨m-1,aa⟩
 have h3:e+1<2^30:=h3
 exact Nb (e:=e) h1 aa h6 K
theorem ad7 {args:List AV} {n e:Nat} {a d:Nat->Rat} {l:List Prop} (ha:aA l->ga (aY []) args [aV a n ag,aV d (e+1) ag]) (hl:aA l->n<2^30/\e<2^30/\lR n e d a) (K:Nat):
  aP P 97 K args [] ⟨lZ [.void,.own K 3 0 (br (bP e d a (n-e) (n-e)) n)],[(K,bT n (bP e d a (n-e) (n-e)) ag)],l⟩:=by
 refine BB hT Ez ha aW fun need c hk=>?_
 obtain⟨hn,he,hz⟩:=hl need
 refine FG hn he hz hk (au.bD hT Eu hm 60 [4,5] Y0 ah ?_)
 simp only[af.all,aA]
 exact⟨⟨aQ,aa,fun j hj=>⟨rfl,.refl _⟩,aQ,aa,fun j hj=>⟨rfl,.refl _⟩⟩,fun s' hs'=>⟨.inr trivial,[4,5],_,[.own 1 3 0 (br (cY e d a (n-e)) (n-e)),.own 0 3 0 (br (bP e d a (n-e) (n-e)) n)],_,0,_,hs',ah,⟨⟨rfl,Yp⟩,⟨rfl,dH (by simp[aY,look]) rfl rfl⟩,trivial⟩,rfl,gk rfl fun i hi=>gp rfl⟩⟩
end Go.Am.B
namespace Go.Am
def fU (a b:PP):Prop:=a.1=b.1/\∀i,i<a.1->a.2 i=b.2 i
theorem fU.refl (a:PP):fU a a:=⟨rfl,fun _ _=>rfl⟩
theorem fU.symm {a b:PP} (h:fU a b):fU b a:=⟨h.1.symm,fun i hi=>(h.2 i (by rw[h.1];exact hi)).symm⟩
theorem fU.trans {a b c:PP} (h:fU a b) (h':fU b c):fU a c:=⟨h.1.trans h'.1,fun i hi=>(h.2 i hi).trans (h'.2 i (by rw[<-h.1];exact hi))⟩
theorem Ji {n e R:Nat} {d d' a a':Nat->Rat} (hR:R=n-e) (ha:∀i,i<n->a i=a' i) (hd:∀i,i<=e->d i=d' i):∀j,j<=R->∀i,i<n->bP e d a R j i=bP e d' a' R j i
 |0,_,i,hi=>ha i hi
 |j+1,hj,i,hi=>by
  have ih:=Ji hR ha hd j (by omega)
  show fJ e d (R-1-j) (bP e d a R j) i=fJ e d' (R-1-j) (bP e d' a' R j) i
  unfold fJ
  by_cases h:R-1-j<=i/\i<R-1-j+e+1
  ·rw[if_pos h,if_pos h,ih i hi,ih (R-1-j+e) (by omega),hd e (Nat.le_refl _),hd (i-(R-1-j)) (by omega)]
  ·rw[if_neg h,if_neg h,ih i hi]
theorem LX {n e R:Nat} {d a:Nat->Rat} {l m:Rat} (hm:m≠0):∀j i,bP e (fun i=>m*d i) (fun i=>l*a i) R j i=l*bP e d a R j i
 |0,i=>rfl
 |j+1,i=>by
  have ih:=LX (n:=n) (e:=e) (R:=R) (d:=d) (a:=a) (l:=l) hm j
  show fJ e (fun i=>m*d i) (R-1-j) (bP e (fun i=>m*d i) (fun i=>l*a i) R j) i=l*fJ e d (R-1-j) (bP e d a R j) i
  unfold fJ
  by_cases h:R-1-j<=i/\i<R-1-j+e+1
  ·rw[if_pos h,if_pos h,ih,ih]
   show _-_/(m*d e)*(m*d (i-(R-1-j)))=_
   generalize bP e d a R j i=x
   generalize bP e d a R j (R-1-j+e)=y
   generalize d (i-(R-1-j))=z
   by_cases h0:d e=0
   ·rw[h0];simp only[Rat.mul_zero,Rat.div_def,Rat.inv_zero,Rat.zero_mul];grind
   ·have e1:l*y/(m*d e)*(m*z)=l*(y/d e*z):=by
     rw[Rat.div_def,Rat.div_def,Rat.inv_mul_rev]
     have:m⁻¹*m=1:=Rat.inv_mul_cancel _ hm
     generalize (d e)⁻¹=w
     calc l*y*(w*m⁻¹)*(m*z)=l*y*w*(m⁻¹*m)*z:=by grind
      _=l*(y*w*z):=by rw[this];grind
    rw[e1];grind
  ·rw[if_neg h,if_neg h,ih]
theorem L9 {k:Nat->Rat} {l:Rat} (hl:l≠0):∀n,br (fun i=>l*k i) n=br k n
 |0=>rfl
 |n+1=>by
  unfold br
  by_cases h:k n=0
  ·rw[if_pos h,if_pos (by rw[h,Rat.mul_zero]),L9 hl n]
  ·rw[if_neg h,if_neg fun h0=>(Rat.mul_eq_zero.1 h0).elim hl h]
def lF (a b:PP):Prop:=∃l:Rat,l≠0/\a.1=b.1/\∀i,i<a.1->a.2 i=l*b.2 i
theorem Bk {a:PP} (h:Trim a):lF (dO a) a:=by
 rcases h with h|h
 ·exact⟨1,by decide,rfl,fun i hi=>absurd hi (by show¬i<a.1;omega)⟩
 ·refine⟨(a.2 (a.1-1))⁻¹,fun h0=>h (by rw[<-Rat.inv_inv (a.2 (a.1-1)),h0,Rat.inv_zero]),rfl,fun i _=>?_⟩
  show cu a.1 a.2 i=_
  unfold cu
  rw[Rat.div_def,Rat.mul_comm]
theorem lF.cu {a b:PP} (h:lF a b):fU (dO a) (dO b):=by
 obtain⟨l,hl,h1,h2⟩:=h
 refine⟨h1,fun i hi=>?_⟩
 have hi:i<a.1:=hi
 show Go.Am.cu a.1 a.2 i=Go.Am.cu b.1 b.2 i
 unfold Go.Am.cu
 rw[h2 i hi,h2 (a.1-1) (by omega),h1,Rat.div_def,Rat.div_def,Rat.inv_mul_rev]
 have:l*l⁻¹=1:=Rat.mul_inv_cancel _ hl
 generalize (b.2 (b.1-1))⁻¹=w
 calc l*b.2 i*(w*l⁻¹)=(l*l⁻¹)*(b.2 i*w):=by grind
  _=_:=by rw[this,Rat.one_mul]
theorem lF.rem {a b d f:PP} (h:lF a b) (h':lF d f) (hd:0<d.1):lF (cw a d) (cw b f):=by
 obtain⟨l,hl,h1,h2⟩:=h
 obtain⟨m,hm,g1,g2⟩:=h'
 have key:∀i,i<a.1->bP (d.1-1) d.2 a.2 (a.1-(d.1-1)) (a.1-(d.1-1)) i=l*bP (d.1-1) f.2 b.2 (a.1-(d.1-1)) (a.1-(d.1-1)) i:=fun i hi=>by
  rw[Ji (a':=fun i=>l*b.2 i) (d':=fun i=>m*f.2 i) rfl h2 (fun i hi=>g2 i (by omega)) _ (Nat.le_refl _) i hi,LX (n:=a.1) hm]
 have e1:(cw a d).1=(cw b f).1:=by
  show br _ _=br _ _
  rw[<-g1,<-h1,Ao key,L9 hl]
 refine⟨l,hl,e1,fun i hi=>?_⟩
 have hi:i<(cw a d).1:=hi
 show bP _ _ _ _ _ i=l*bP _ _ _ _ _ i
 rw[<-g1,<-h1]
 exact key i (Nat.lt_of_lt_of_le hi eI)
theorem fU.Ci {a b:PP} (h:fU a b):lF a b:=⟨1,by decide,h.1,fun i hi=>by rw[h.2 i hi,Rat.one_mul]⟩
theorem Qu {a:PP} (h:Trim a):fU (dO (dO a)) (dO a):=(Bk h).cu
theorem Jp {s t:PP×PP} (h1:Trim t.1) (h2:Trim t.2) (g1:fU s.1 (dO t.1)) (g2:fU s.2 (dO t.2)):∀j,fU (bJ s j).1 (dO (bJ t j).1)/\fU (bJ s j).2 (dO (bJ t j).2)
 |0=>⟨g1,g2⟩
 |j+1=>by
  obtain⟨i1,i2⟩:=Jp h1 h2 g1 g2 j
  obtain⟨t1,t2⟩:=mI h1 h2 j
  show fU (fo _).1 (dO (fo _).1)/\fU (fo _).2 (dO (fo _).2)
  have hl:(bJ s j).2.1=(bJ t j).2.1:=i2.1
  unfold fo
  by_cases h0:(bJ t j).2.1=0
  ·rw[if_pos h0,if_pos (hl.trans h0)];exact⟨i1,i2⟩
  ·rw[if_neg h0,if_neg (by rw[hl];exact h0)]
   refine⟨i2,?_⟩
   have hs1:lF (bJ s j).1 (bJ t j).1:=by
    obtain⟨l,a1,a2,a3⟩:=Bk t1
    exact⟨l,a1,i1.1,fun i hi=>by rw[i1.2 i hi,a3 i (by rw[<-i1.1];exact hi)]⟩
   have hs2:lF (bJ s j).2 (bJ t j).2:=by
    obtain⟨l,a1,a2,a3⟩:=Bk t2
    exact⟨l,a1,i2.1,fun i hi=>by rw[i2.2 i hi,a3 i (by rw[<-i2.1];exact hi)]⟩
   have:=(lF.rem hs1 hs2 (by omega)).cu
   exact this.trans (Qu oN).symm
def NJ (a b:PP):PP:=(bJ (dO a,dO b) b.1).1
theorem Q3 {a b:PP} (h1:Trim a) (h2:Trim b):fU (NJ a b) (bS a b):=(Jp (s:=(dO a,dO b)) (t:=(a,b)) h1 h2 (fU.refl _) (fU.refl _) b.1).1
end Go.Am
namespace Go.Am.B
open Go Go.Am.N AV af aq IntKind Proofs.Tryz
def yc:bh:=zG::(97,ue)::(152,EL)::gV
abbrev ux:Code:=aH f100
def nq (a b:PP):Prop:=cG a.1 (cu a.1 a.2)/\cG b.1 (cu b.1 b.2)/\jQ (dO a,dO b)
def DZ:Spec:=dA (kC (kL ag) (kC (kL ag) kN)) (fun a=>aI (bS a.1 a.2.1)) fun a=>[a.1.1<2^30,a.2.1.1<2^30,Trim a.1,Trim a.2.1,nq a.1 a.2.1]
def Ul (a:PP):Prop:=a.1≠0->nq a (bQ a)/\j4 a (bS a (bQ a))/\cG (bX a).1 (bX a).2
def qZ (a:PP):Prop:=a.1≠0/\a.1<2^30/\Trim a/\cG (a.1-1) (cT a.2)/\Ul a
def CQ:Spec:=dA (kC (kL ag) kN) (fun a=>aI (bX a.1)) fun a=>[qZ a.1]
def Hu:bh:=zG::(97,ue)::(152,EL)::(125,pT)::(100,DZ)::gV
theorem aed:aX 100 f100:=aZ func100
theorem acr:aX 99 f99:=aZ func99
theorem M4 {a b:PP}:aG T yc [] 60 mV (before ux [1,1,0]) ⟨aT 0 [aI a,aI b],[],0⟩=
  some (aj [aR a,a.1<2^40,Trim a,cG a.1 (cu a.1 a.2),aR b,b.1<2^40,Trim b,cG b.1 (cu b.1 b.2)] (leaf normal ([aI (dO a),aI (dO b)],[]))):=ah
theorem adB {a b:PP}:aG T yc [13] 60 mV [part ux [1,1,0,0,0]] ⟨aC mV [aI a,aI b],[],0⟩=
  some (fork (decide ((b.1:Int)>0)) (aj [aR a,aR b,a.1<2^30,1<=b.1,b.1<2^30,Trim a,Trim b,j4 a b] (aj [aR (cw a b),(cw a b).1<2^40,Trim (cw a b),cG (cw a b).1 (cu (cw a b).1 (cw a b).2)] (leaf normal ([aI b,aI (dO (cw a b))],[])))) (leaf (exit 0) ([aI a,aI b],[]))):=ah
theorem TH {a b:PP}:cA T yc [] 60 f100 [part ux [1,1,1]] ⟨aC mV [aI a,aI b],[],0⟩=some (leaf ret [aI a]):=ah
theorem TB {a:PP}:bR T Hu [] 60 f99 (aH f99) ⟨aT 0 [aI a],[],0⟩=
  some (aj [aR a,a.1<2^40,cG (a.1-1) (cT a.2),aR a,aR (bQ a),a.1<2^30,(bQ a).1<2^30,Trim a,Trim (bQ a),nq a (bQ a),aR a,aR (bS a (bQ a)),a.1<2^30,1<=(bS a (bQ a)).1,(bS a (bQ a)).1<2^30,Trim a,Trim (bS a (bQ a)),j4 a (bS a (bQ a))] (aj [aR (eZ a (bS a (bQ a))),(eZ a (bS a (bQ a))).1<2^40,Trim (eZ a (bS a (bQ a))),cG (eZ a (bS a (bQ a))).1 (cu (eZ a (bS a (bQ a))).1 (eZ a (bS a (bQ a))).2)] (leaf ret [aI (dO (eZ a (bS a (bQ a))))]))):=ah
theorem OH:bI P yc:=fD (aL C9 (aL Lt iu))
theorem VJ {a b:PP} (ha:a.1<2^30) (hb:b.1<2^30) (ta:Trim a) (tb:Trim b) (hz:nq a b) (K:Nat):aP P 100 K [aI a,aI b] [] (aK (aI (bS a b)) []):=by
 obtain⟨za,zb,hz⟩:=hz
 obtain⟨s,hs⟩:∃s,s=(dO a,dO b):=⟨_,rfl⟩
 have t1:Trim s.1:=by rw[hs];exact m8 ta
 have t2:Trim s.2:=by rw[hs];exact m8 tb
 have hT1:=mI t1 t2
 have hL:=wV t1 t2
 have hB:=o4 (s:=s) (B:=2^30-1) (by rw[hs];show a.1<=_;omega) (by rw[hs];show b.1<=_;omega) t1 t2
 have hb2:s.2.1=b.1:=by rw[hs];rfl
 rw[<-hs]at hz
 refine iG (r:=aK (aI (bS a b)) []) hT OH hm aed rfl aW rfl [1,1,0] (i:=0) (y:=part ux [1,1,0,0,0]) (z:=part ux [1,1,1]) ah ah ah (f1:=[]) (f2:=[13]) (f3:=[]) 60 mV 0
  (fun j:Nat=>sB (bJ s j)) (fun _=>[]) (fun j=>j<=b.1) (fun j=>j<=b.1/\(bJ s j).2.1=0) (fun j=>(bJ s j).2.1) (fun _=>⟨⟨_,M4 (a:=a) (b:=b),?_⟩,fun j hj=>⟨_,adB,?_⟩,fun j hj=>⟨_,TH,?_⟩⟩) K []
 ·simp only[af.all,aA]
  exact⟨⟨cV,aa,ta,za,cV,aa,tb,zb⟩,0,Nat.zero_le _,by rw[hs];exact dx.vals rfl⟩
 ·have h1:=hT1 j
  have h2:=hL j
  have h3:=hB j
  have h4:=hB (j+1)
  have h5:=hz.1 j
  have e1:(bJ s j).2.1≠0->bJ s (j+1)=((bJ s j).2,dO (cw (bJ s j).1 (bJ s j).2)):=fun h=>if_neg h
  have e2:=hL (j+1)
  obtain⟨x,y,hx⟩:∃x y,bJ s j=(x,y):=⟨_,_,rfl⟩
  rw[hx]at h1 h2 h3 h5 e1
  dsimp only at h1 h2 h3 h5 e1
  simp only[af.all,aA,bw,bB,hx]
  refine⟨fun h=>?_,fun h=>⟨rfl,j,⟨hj,by rw[hx];dsimp only;omega⟩,by show dx _ _ (sB (bJ s j)) _ _;rw[hx];exact dx.vals rfl⟩⟩
  have hy:y.1≠0:=aa
  have e1:=e1 hy
  rw[e1]at h4 e2
  have hr:(cw x y).1<y.1:=nD aa h1.2
  refine⟨⟨cV,cV,aa,aa,aa,h1.1,h1.2,(h5 hy).1⟩,⟨cV,aa,oN,(h5 hy).2⟩,j+1,aa,?_,?_⟩
  ·show(bJ s (j+1)).2.1<(bJ s j).2.1
   rw[e1,hx];exact hr
  ·show dx _ _ (sB (bJ s (j+1))) _ _
   rw[e1];exact dx.vals rfl
 ·obtain⟨hj,h0⟩:=hj
  have hst:=El h0 (b.1-j)
  rw[show j+(b.1-j)=b.1 by omega]at hst
  have hg:fU (bJ s j).1 (bS a b):=by rw[<-hst,hs];exact Q3 ta tb
  simp only[af.all]
  obtain⟨g1,g2⟩:=hg
  show bA (aV _ _ _) (aV _ _ _)
  rw[<-g1]
  exact gr fun i hi=>dy (g2 i hi) aQ
theorem F4:bf P DZ 100:=cR fun⟨a,b,_⟩ K hn=>VJ hn.1 hn.2.1 hn.2.2.1 hn.2.2.2.1 hn.2.2.2.2 K
theorem NT:bI P Hu:=fD (aL C9 (aL Lt (aL Fz (aL F4 iu))))
theorem Wm {a:PP} (hz:qZ a) (K:Nat):aP P 99 K [aI a] [] (aK (aI (bX a)) []):=by
 obtain⟨h0,ha,ta,hd,hz⟩:=hz
 refine bZ hT NT hm acr rfl aW rfl 60 TB (fun _=>?_) K []
 simp only[af.all,aA]
 obtain⟨z1,z2,z3⟩:=hz h0
 have e0:bX a=dO (eZ a (bS a (bQ a))):=if_neg h0
 rw[e0]at z3 ⊢
 have hd1:(bQ a).1<=a.1-1:=eI
 have hg:=o4 (s:=(a,bQ a)) (B:=a.1) aQ (by dsimp only;omega) ta fA (bQ a).1
 have hgl:(bS a (bQ a)).1<=a.1:=hg
 have hgp:0<(bS a (bQ a)).1:=As aa
 have tg:Trim (bS a (bQ a)):=mu ta fA
 have hq:(eZ a (bS a (bQ a))).1<=a.1:=Nat.le_trans eI (Nat.sub_le _ _)
 exact⟨⟨cV,aa,hd,cV,cV,ha,aa,ta,fA,z1,cV,cV,ha,hgp,aa,ta,tg,z2⟩,⟨cV,aa,xV,z3⟩,.refl _⟩
theorem IE:bf P CQ 99:=cR fun⟨a,_⟩ K hn=>Wm hn K
def Kz:Spec:=qE fun K l=>match l with
 |[u,v]=>match(kL ag).read u,(kL ag).read v with
  |some (a,q1),some (d,q2)=>some ⟨.tuple [.void,.own K 3 0 (cw a d).1],[(K,bT a.1 (cw a d).2 ag)],q1++(q2++[a.1<2^30,1<=d.1,d.1<2^30,j4 a d])⟩
  |_,_=>none
 |_=>none
def qc:bh:=zG::(97,Kz)::(125,pT)::(99,CQ)::(52,wD)::gV
abbrev tP:Code:=aH f63
abbrev C8:Code:=part tP [1,1,1,1,0,0,0]
abbrev rq:Code:=part C8 [1,0]
abbrev ow:List Nat:=[3,4,5]
abbrev rL:List Nat:=[4,5,7,8]
abbrev yS (y:PP) (j n i:Nat):List AV:=[.own 0 1 0 (j+1+1),aI y,.own 1 3 0 n,.int .i64 i]
abbrev Aj (s:PP×PP) (j m:Nat) (r:Nat->Rat):aE:=[(0,kM (j+1+1) s),(1,bT m r ag)]
theorem Jm:aX 63 f63:=aZ func63
theorem aeA {a:PP}:aG T qc [] 60 ow (before tP [1,1,1,1,0]) ⟨aT 0 [aI a],[],0⟩=
  some (aj [aR a,qZ a] (aj [(1:Nat)*1<=2^24] (aj [aR (bX a),(bX a).1<2^40,cG ((bX a).1-1) (cT (bX a).2)] (leaf normal ([aI (bX a),own 20480 1 0 1,aI (bQ (bX a))],[(20480,ax.mk true true 1 1 fun i=>nth [aI (bX a)] nil i)]))))):=ah
theorem acU {x y:PP} {s:PP×PP} {j:Nat}:aG T qc [17] 60 ow (before C8 [1]) ⟨aC ow [aI x,.own 0 1 0 (j+1),aI y],[(0,kM (j+1) s)],1⟩=
  some (fork (decide ((y.1:Int)>0)) (leaf normal ([aI x,own 0 1 0 (j+1),aI y],[((0:Nat),kM (j+1) s)])) (leaf (exit 0) ([aI x,own 0 1 0 (j+1),aI y],[((0:Nat),kM (j+1) s)]))):=ah
theorem Ua {x y:PP} {s:PP×PP} {j:Nat}:aG T qc [] 60 rL (before rq [1,1,0,1]) ⟨aC ow [aI x,.own 0 1 0 (j+1),aI y],[(0,kM (j+1) s)],1⟩=
  let c3:Nat:=y.fst-1;let c2:Nat:=j+1;let c4:Nat:=c2+1;let c1:Nat:=x.fst-c3;some (aj [(1:Nat)*1<=2^24,c4*((24:Nat)+1)*2<=2^47] (aj [cF (fun i=>rat (x.snd i) ag) x.fst ag,cF (fun i=>rat (y.snd i) ag) y.fst ag,x.fst<2^30,(1:Nat)<=y.fst,y.fst<2^30,j4 (x.fst,fun i=>aS (rat (x.snd i) ag)) (y.fst,fun i=>aS (rat (y.snd i) ag))] (leaf normal ([own 12289 1 0 c4,ak 3 y.fst fun i=>rat (y.snd i) ag,own 28673 3 0 (br (bP c3 (fun i=>aS (rat (y.snd i) ag)) (fun i=>aS (rat (x.snd i) ag)) c1 c1) x.fst),int i64 0],[(28673,ax.mk true true 3 x.fst fun i=>rat (bP c3 (fun i=>aS (rat (y.snd i) ag)) (fun i=>aS (rat (x.snd i) ag)) c1 c1 i) ag),(12289,ax.mk true true 1 c4 fun i=>if i<c2 then aI (bG s i).fst else nth [ak 3 y.fst fun i=>rat (y.snd i) ag] nil (i-c2+0))])))):=ah
theorem Z0 {y:PP} {s:PP×PP} {j m n i:Nat} {r:Nat->Rat}:aG T qc [31] 60 rL [part rq [1,1,0,1,0,0]] ⟨aC rL (yS y j n i),Aj s j m r,2⟩=
  let c8:Nat:=j+1+1;let c6:AV:=own 1 3 0 n;let c4:AV:=ak 3 y.fst fun i=>rat (y.snd i) ag;let c3:Int:=(↑i:Int);let c9:Int:=c3+1;let c7:Prop:=(0:Int)<=c3/\c3.toNat<n;let c5:AV:=own 0 1 0 c8;let c2:Nat:=c3.toNat+0;let c1:Nat×ax:=(0,ax.mk true true 1 c8 fun i=>ak 3 (bG s i).fst.fst fun i_1=>rat ((bG s i).fst.snd i_1) ag);some (fork (decide (c3<(↑n:Int))) (aj [c7,c2<m,c7,c2<m] (aj [-(2:Int)^63<=c9/\c9<2^63] (leaf normal ([c5,c4,c6,int i64 c9],[(1,ax.mk true true 3 m fun j=>rat (bif j==c2 then-r c2 else r j) (bif j==c2 then ag else ag)),c1])))) (leaf (exit 2) ([c5,c4,c6,int i64 c3],[(1,ax.mk true true 3 m fun i=>rat (r i) ag),c1]))):=ah
theorem acK {y z:PP} {s:PP×PP} {j i m:Nat} {r:Nat->AV}:aG T qc [] 60 ow [part rq [1,1,1]] ⟨pg (some 7) (.ak 3 z.1 r) (aC rL (yS y j z.1 i)),put 1 ⟨true,false,3,m,r⟩ (Aj s j m z.2),2⟩=
  let c1:Nat:=j+1+1;some (leaf normal ([ak 3 y.fst fun i=>rat (y.snd i) ag,own 0 1 0 c1,ak 3 z.fst fun a=>r a],[(0,ax.mk true true 1 c1 fun i=>ak 3 (bG s i).fst.fst fun i_1=>rat ((bG s i).fst.snd i_1) ag)])):=ah
theorem NI {x y:PP} {s:PP×PP} {j:Nat}:cA T qc [] 60 f63 [part tP [1,1,1,1,1]] ⟨aC ow [aI x,.own 0 1 0 (j+1),aI y],[(0,kM (j+1) s)],1⟩=
  some (leaf ret [ak 1 (j+1) fun i=>ak 3 (bG s (i+0)).fst.fst fun i_1=>rat ((bG s (i+0)).fst.snd i_1) ag]):=ah
theorem Xx:bf P Kz 97:=by
 refine wq fun K args r hk hs=>?_
 split at hs
 ·rename_i u v
  split at hs
  ·rename_i a q1 d q2 hu hv
   simp only[ay]at hs
   subst hs
   intro need
   obtain⟨n1,n2⟩:=fI.1 need
   obtain⟨n2,h1,h2,h3,h4⟩:=fI.1 n2
   have e1:aV d.2 (d.1-1+1) ag=aI d:=by rw[show d.1-1+1=d.1 by omega]
   refine(ad7 (e:=d.1-1) (a:=a.2) (d:=d.2) (n:=a.1) (l:=q1++(q2++[a.1<2^30,1<=d.1,d.1<2^30,j4 a d])) (fun _=>?_) (fun _=>⟨h1,aa,h4⟩) K) need
   rw[e1]
   exact Dg hk (by cases u<;>first|(exfalso;simp[kL,qi]at hu;done)|(cases v<;>first|rfl|(exfalso;simp[kL,qi]at hv;done))) ⟨(kL ag).ok hu n1,(kL ag).ok hv n2,trivial⟩
  ·simp at hs
 ·simp at hs
theorem Dt:bI P qc:=fD (aL Xx (aL Fz (aL IE (aL zk iu))))
def tM (a:PP):Prop:=qZ a/\cG ((bX a).1-1) (cT (bX a).2)/\ye (gj a)
def mD (x:Nat->Rat) (i j:Nat):Rat:=if j<i then-x j else x j
theorem aa2 (q:Rat):((-1:Int):Rat)*q=-q:=by
 rw[show((-1:Int):Rat)=-1 by rfl,Rat.neg_mul,Rat.one_mul]
theorem aan {a:PP} (hz:tM a) (K:Nat):aP P 63 K [aI a] [] (aK (ec (cq a) (cH a)) []):=by
 obtain⟨hz0,hd2,hs⟩:=hz
 have ha:=hz0.2.1
 obtain⟨s,hss⟩:∃s,s=gj a:=⟨_,rfl⟩
 have t1:Trim s.1:=by rw[hss];exact pI
 have t2:Trim s.2:=by rw[hss];exact fA
 have hTr:=oE t1 t2
 obtain⟨g1,g2,g3⟩:=rN t1 t2
 have hfl:(bX a).1<=a.1:=by
  unfold bX;split
  ·exact Nat.zero_le _
  ·exact Nat.le_trans eI (Nat.sub_le _ _)
 have hdl:(bQ (bX a)).1<=(bX a).1-1:=eI
 have hB:=EY (s:=s) (B:=2^30-1) (by rw[hss];show(bX a).1<=_;omega) (by rw[hss];show(bQ (bX a)).1<=_;omega) t1 t2
 have hg0:s.2.1=(bQ (bX a)).1:=by rw[hss];rfl
 have hg:eU s<2^30:=aa
 have hW:=cW
 show aP P 63 K [aI a] [] (aK (AN (eU (gj a)+1) (gj a)) [])
 rw[<-hss]at hs ⊢
 refine gm (r:=aK (AN (eU s+1) s) []) hT Jm rfl aW rfl (fun _ cx h0=>?_) K []
 have hk:=jZ h0
 have hj0:∀{j},j<=eU s->(bG s j).2.1≠0->j<eU s:=fun {j} hj h=>by
  rcases Nat.lt_or_ge j (eU s)with h'|h'
  ·exact h'
  ·exact absurd (by rw[show j=eU s by omega];exact g2) h
 refine au.Rq hT Dt hm (x:=tP) [1,1,1,1,0] (i:=0) (y:=C8) ah ah Jm.dst [1] (j:=1) (x1:=rq) ah ah ah [1,1,0,1] (i2:=2) (y2:=part rq [1,1,0,1,0,0]) ah ah rfl ah hk
  (f1:=[]) (f2:=[17]) (f3:=[]) (f4:=[31]) 60 ow rL 1 2 (fun j:Nat=>xW s j) (fun j=>[(0,kM (j+1) s)]) (fun j=>j<=eU s) (fun j=>j=eU s) (fun j=>eU s-j) (fun j=>j<eU s) (fun _=>False) (fun _=>False)
  (fun j (i:Nat)=>yS (bG s j).2 j (cw (bG s j).1 (bG s j).2).1 i) (fun j i=>Aj s j (bG s j).1.1 (mD (cw (bG s j).1 (bG s j).2).2 i)) (fun j i=>i<=(cw (bG s j).1 (bG s j).2).1) (fun j i=>i=(cw (bG s j).1 (bG s j).2).1) (fun j i=>(cw (bG s j).1 (bG s j).2).1-i)
  ⟨_,aeA,?_⟩ (fun j hj=>⟨_,acU,?_⟩) (fun j hj hG=>⟨_,Ua,?_⟩) (fun j hj hG i hi=>⟨_,Z0,?_⟩) (fun j hj hG i hi=>?_) (fun j s' hj hs'=>?_) (fun _ _ h=>h.elim) (fun _ _ h=>h.elim)
 ·simp only[af.all,aA]
  refine⟨⟨cV,hz0⟩,aa,⟨cV,Nat.lt_of_le_of_lt hfl aa,hd2⟩,0,Nat.zero_le _,[(0,20480)],rfl,by rw[hss];rfl,rfl,bg rfl rfl rfl (fun i hi=>?_) trivial⟩
  obtain rfl:i=0:=aa
  rw[hss];exact bE rfl rfl
 ·simp only[af.all,bw,bB]
  have re:dx [] ([aI (bG s j).1,own 0 1 0 (j+1),aI (bG s j).2],[((0:Nat),kM (j+1) s)]) (xW s j) [(0,kM (j+1) s)] 1:=⟨[(0,0)],rfl,rfl,rfl,bg rfl rfl rfl (fun i hi=>bE rfl rfl) trivial⟩
  refine⟨fun h=>⟨hj0 hj aa,re⟩,fun h=>⟨rfl,j,?_,re⟩⟩
  rcases Nat.lt_or_ge j (eU s)with h'|h'
  ·have:=g3 j h';omega
  ·omega
 ·have h1:=hTr j
  have h3:=hB j hj
  have hy:=g3 j hG
  simp only[af.all,aA]
  refine⟨⟨aa,aa⟩,⟨cV,cV,aa,aa,aa,(hs j hG).1⟩,0,Nat.zero_le _,[(0,12289),(1,28673)],rfl,rfl,rfl,bg rfl rfl rfl (fun i hi=>?_) (bg rfl rfl rfl (fun i hi=>bE rfl ?_) trivial)⟩
  ·by_cases hi2:i<j+1
   ·rw[if_pos hi2];exact bE rfl rfl
   ·rw[if_neg hi2,show i-(j+1)+0=0 by omega,show i=j+1 by omega];exact bE rfl rfl
  ·show AV.rat ((cw (bG s j).1 (bG s j).2).2 i) ag=AV.rat (mD _ 0 i) ag
   unfold mD;rw[if_neg (Nat.not_lt_zero i)]
 ·have h3:=hB j hj
  have hrl:(cw (bG s j).1 (bG s j).2).1<=(bG s j).1.1:=eI
  simp only[af.all,aA,bw,bB,bu,Nat.add_zero]
  refine⟨fun h=>⟨aa,aa,i+1,aa,by dsimp only;omega,[(0,0),(1,1)],rfl,by rw[show(i:Int)+1=((i+1:Nat):Int) by omega];rfl,rfl,bg rfl rfl rfl (fun l hl=>bE rfl rfl) (bg rfl rfl rfl (fun l hl=>?_) trivial)⟩,fun h=>⟨rfl,i,aa,[(0,0),(1,1)],rfl,rfl,rfl,bg rfl rfl rfl (fun l hl=>bE rfl rfl) (bg rfl rfl rfl (fun l hl=>bE rfl rfl) trivial)⟩⟩
  refine kI (x:=mD _ i) (y:=mD _ (i+1)) (dy ?_ aQ) fun hl=>dy (Ey hl).symm aQ
  unfold mD;rw[if_neg (Nat.lt_irrefl i),if_pos (Nat.lt_succ_self i)]
 ·subst hi
  obtain⟨z,hzz⟩:∃z:PP,z=((cw (bG s j).1 (bG s j).2).1,mD (cw (bG s j).1 (bG s j).2).2 (cw (bG s j).1 (bG s j).2).1):=⟨_,rfl⟩
  have e1:behind rq [1,1,0,1]=[part rq [1,1,1]]:=ah
  rw[e1]
  show aF P cx _ _ ⟨aC rL (yS (bG s j).2 j _ _),Aj s j _ _,2⟩ _
  rw[show(cw (bG s j).1 (bG s j).2).1=z.1 by rw[hzz],show mD (cw (bG s j).1 (bG s j).2).2 z.1=z.2 by rw[hzz]]
  refine aF.one (au.cP (t:=7) (k:=1) (es:=3) (s0:=0) (n:=z.1) (o:=bT (bG s j).1.1 z.2 ag) rfl rfl rfl rfl (au.bD hT Dt hm 60 ow acK ah ?_))
  simp only[af.all,aA]
  refine fun s' hs'=>⟨j+1,hG,by dsimp only;omega,zw [(0,0)] hs' (fun k x h=>absurd (hk k x h) List.not_mem_nil) rfl ⟨aO,⟨rfl,dH (by simp[aY,look]) rfl rfl⟩,⟨rfl,gO rfl ?_⟩,trivial⟩ (rP (bg rfl rfl rfl (fun i hi=>bE rfl rfl) trivial))⟩
  show bA (aV (fun i=>z.2 (i+0)) z.1 ag) (aI (bG s (j+1)).2)
  rw[hzz]
  refine gr fun i hi=>dy ?_ aQ
  show mD _ _ i=((-1:Int):Rat)*_
  unfold mD
  rw[if_pos hi,aa2]
 ·subst hj
  rw[show behind tP [1,1,1,1,0]=[part tP [1,1,1,1,1]]from by kernel_rfl]
  exact aF.weak rfl hs' (aF.mono (fun _ _ h=>.inl h) (aF.fin hT Dt hm 60 NI ah (.refl _)))
end Go.Am.B
