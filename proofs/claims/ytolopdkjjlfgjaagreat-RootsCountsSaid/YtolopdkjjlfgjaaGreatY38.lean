/- roots.gcd, free. -/
import Derived.Test.YtolopdkjjlfgjaaGreatY37
import Derived.Test.YtolopdkjjlfgjaaGreatZ2
set_option linter.unusedVariables false
noncomputable section
namespace Go.Am.B
open Go Go.Am.N AV af aq IntKind Proofs.Tryz
abbrev aK (a:PP):AV:=aV a.2 a.1 ag
def zL:bp:=zG::(88,xl)::(135,Ek)::gn
abbrev uW:Code:=aG f72
abbrev lM:List Nat:=[0,1]
abbrev rM (s:PP×PP):List AV:=[aK s.1,aK s.2]
def lH (a d:PP):Prop:=kX a.1 (d.1-1) d.2 a.2
def m8 (s:PP×PP):Prop:=(∀j,(bK s j).2.1≠0->lH (bK s j).1 (bK s j).2/\cB (cQ (bK s j).1 (bK s j).2).1 (cE (cQ (bK s j).1 (bK s j).2).1 (cQ (bK s j).1 (bK s j).2).2))/\cB (cm s.1 s.2).1 (cm s.1 s.2).2
def xD:Spec:=dU (kC (kL ag) (kC (kL ag) kN)) (fun a=>aK (cm a.1 a.2.1)) fun a=>[a.1.1<2^30,a.2.1.1<2^30,Trim a.1,Trim a.2.1,m8 (a.1,a.2.1)]
def uj (a:PP):Prop:=a.1≠0->m8 (a,bQ a)/\lH a (cm a (bQ a))/\cB (cw a).1 (cw a).2
def LZ:bp:=zG::(88,xl)::(135,Ek)::(73,pX)::(72,xD)::gn
theorem QM:aZ 72 f72:=bf func72
theorem S8:aZ 80 f80:=bf func80
theorem WK {s:PP×PP}:aF T zL [] 60 lM (before uW [1,0]) ⟨aQ 0 [aK s.1,aK s.2],[],0⟩=
  some (leaf normal ([ak 3 s.fst.fst fun i=>rat (s.fst.snd i) ag,ak 3 s.snd.fst fun i=>rat (s.snd.snd i) ag],[])):=ah
theorem Oc {a b:PP}:aF T zL [9] 60 lM [part uW [1,0,0,0]] ⟨aC lM [aK a,aK b],[],0⟩=
  let c3:AV:=ak 3 b.fst fun i=>rat (b.snd i) ag;let c2:Nat:=b.fst-1;let c4:Nat:=a.fst-c2;let c1:Nat:=bu (bP c2 (fun i=>aT (rat (b.snd i) ag)) (fun i=>aT (rat (a.snd i) ag)) c4 c4) a.fst;some (fork (decide ((↑b.fst:Int)>0)) (aj [cV (fun i=>rat (a.snd i) ag) a.fst ag,cV (fun i=>rat (b.snd i) ag) b.fst ag,a.fst<2^30,(1:Nat)<=b.fst,b.fst<2^30,a.fst=0\/aT (rat (a.snd (a.fst-1)) ag)≠0,aT (rat (b.snd c2) ag)≠0,kX a.fst c2 (fun i=>aT (rat (b.snd i) ag)) fun i=>aT (rat (a.snd i) ag)] (aj [cV (fun i=>rat (bP c2 (fun i=>aT (rat (b.snd i) ag)) (fun i=>aT (rat (a.snd i) ag)) c4 c4 i) ag) c1 ag,c1<2^40,cB c1 (cE c1 fun i=>aT (rat (bP c2 (fun i=>aT (rat (b.snd i) ag)) (fun i=>aT (rat (a.snd i) ag)) c4 c4 i) ag))] (leaf normal ([c3,ak 3 c1 fun i=>rat (cE c1 (fun i=>aT (rat (bP c2 (fun i=>aT (rat (b.snd i) ag)) (fun i=>aT (rat (a.snd i) ag)) c4 c4 i) ag)) i) ag],[])))) (leaf (exit 0) ([ak 3 a.fst fun i=>rat (a.snd i) ag,c3],[]))):=ah
theorem VI {a b:PP}:cG T zL [] 60 f72 [part uW [1,1]] ⟨aC lM [aK a,aK b],[],0⟩=
  some (aj [cV (fun i=>rat (a.snd i) ag) a.fst ag,a.fst<2^40,cB a.fst (cE a.fst fun i=>aT (rat (a.snd i) ag))] (leaf ret [ak 3 a.fst fun i=>rat (cE a.fst (fun i=>aT (rat (a.snd i) ag)) i) ag])):=ah
theorem RC {a:PP}:bT T LZ [7] 60 f80 (aG f80) ⟨aQ 0 [aK a],[],0⟩=
  let c9:Nat:=a.fst;let c8:Nat:=2^30;let c11:Nat:=c9-1;let c7:Nat×(Nat->Rat):=(c9,fun i=>aT (rat (a.snd i) ag));let c6:Prop:=cV (fun i=>rat (a.snd i) ag) c9 ag;let c3:Nat:=bu (cM fun i=>aT (rat (a.snd i) ag)) c11;let c5:Nat×(Nat->Rat):=(c3,fun i=>aT (rat (cM (fun i=>aT (rat (a.snd i) ag)) i) ag));let c1:PP:=(bK (c7,c5) c3).fst;let c10:Nat:=c1.fst;let c4:Nat:=c10-1;let c2:Nat:=bu (cS c4 (fun i=>aT (rat (cE c10 c1.snd i) ag)) (fun i=>aT (rat (a.snd i) ag)) (c9-c4)) (c9-c4);some (fork ((↑c9:Int)==0) (leaf ret [nil]) (aj [c6,c9<2^40,cB c11 (cM fun i=>aT (rat (a.snd i) ag)),c6,cV (fun i=>rat (cM (fun i=>aT (rat (a.snd i) ag)) i) ag) c3 ag,c9<c8,c3<c8,Trim c7,Trim c5,m8 (c7,c5),c6,cV (fun i=>rat (cE c10 c1.snd i) ag) c10 ag,c9<c8,(1:Nat)<=c10,c10<c8,c9=0\/aT (rat (a.snd c11) ag)≠0,aT (rat (cE c10 c1.snd c4) ag)≠0,kX c9 c4 (fun i=>aT (rat (cE c10 c1.snd i) ag)) fun i=>aT (rat (a.snd i) ag)] (aj [cV (fun i=>rat (cS c4 (fun i=>aT (rat (cE c10 c1.snd i) ag)) (fun i=>aT (rat (a.snd i) ag)) (c9-c4) i) ag) c2 ag,c2<2^40,cB c2 (cE c2 fun i=>aT (rat (cS c4 (fun i=>aT (rat (cE c10 c1.snd i) ag)) (fun i=>aT (rat (a.snd i) ag)) (c9-c4) i) ag))] (leaf ret [ak 3 c2 fun i=>rat (cE c2 (fun i=>aT (rat (cS c4 (fun i=>aT (rat (cE c10 c1.snd i) ag)) (fun i=>aT (rat (a.snd i) ag)) (c9-c4) i) ag)) i) ag])))):=ah
theorem aaq:bI P zL:=fu (aI Ca (aI Ge gD))
theorem OI {a b:PP} (ha:a.1<2^30) (hb:b.1<2^30) (ta:Trim a) (tb:Trim b) (hz:m8 (a,b)) (K:Nat):aO P 72 K [aK a,aK b] [] (aJ (aK (cm a b)) []):=by
 obtain⟨s,hs⟩:∃s,s=(a,b):=⟨_,rfl⟩
 have hT1:=l8 (s:=s) (by rw[hs];exact ta) (by rw[hs];exact tb)
 have hL:=wD (s:=s) (by rw[hs];exact ta) (by rw[hs];exact tb)
 have hB:=tu (s:=s) (B:=2^30-1) (by rw[hs];dsimp only;omega) (by rw[hs];dsimp only;omega) (by rw[hs];exact ta) (by rw[hs];exact tb)
 have hb2:s.2.1=b.1:=by rw[hs]
 rw[<-hs]at hz
 refine iZ (r:=aJ (aK (cm a b)) []) hT aaq hm QM rfl aX rfl [1,0] (i:=0) (y:=part uW [1,0,0,0]) (z:=part uW [1,1]) ah ah ah (f1:=[]) (f2:=[9]) (f3:=[]) 60 lM 0
  (fun j:Nat=>rM (bK s j)) (fun _=>[]) (fun j=>j<=b.1) (fun j=>j<=b.1/\(bK s j).2.1=0) (fun j=>(bK s j).2.1) (fun _=>⟨⟨_,WK (s:=(a,b)),?_⟩,fun j hj=>⟨_,Oc,?_⟩,fun j hj=>⟨_,VI,?_⟩⟩) K []
 ·simp only[af.all,az]
  exact⟨0,Nat.zero_le _,by rw[hs];exact dr.vals rfl⟩
 ·have h1:=hT1 j
  have h2:=hL j
  have h3:=hB j
  have h4:=hB (j+1)
  have h5:=hz.1 j
  have e1:(bK s j).2.1≠0->bK s (j+1)=((bK s j).2,dM (cQ (bK s j).1 (bK s j).2)):=fun h=>if_neg h
  have e2:=hL (j+1)
  obtain⟨x,y,hx⟩:∃x y,bK s j=(x,y):=⟨_,_,rfl⟩
  rw[hx]at h1 h2 h3 h5 e1
  dsimp only at h1 h2 h3 h5 e1
  simp only[af.all,az,bz,bB,hx]
  refine⟨fun h=>?_,fun h=>⟨rfl,j,⟨hj,by rw[hx];dsimp only;omega⟩,by show dr _ _ (rM (bK s j)) _ _;rw[hx];exact dr.vals rfl⟩⟩
  have hy:y.1≠0:=aa
  have e1:=e1 hy
  rw[e1]at h4 e2
  have hr:(cQ x y).1<y.1:=nv aa h1.2
  have ty:y.2 (y.1-1)≠0:=by rcases h1.2 with h|h;omega;exact h
  refine⟨⟨dg aP,dg aP,aa,aa,aa,h1.1,ty,(h5 hy).1⟩,⟨dg aP,by show(cQ x y).1<_;omega,(h5 hy).2⟩,j+1,aa,?_,?_⟩
  ·show(bK s (j+1)).2.1<(bK s j).2.1
   rw[e1,hx];exact hr
  ·show dr _ _ (rM (bK s (j+1))) _ _
   rw[e1];exact dr.vals rfl
 ·obtain⟨hj,h0⟩:=hj
  have hg:dM (bK s j).1=cm a b:=by rw[hs]at h0 ⊢;exact Ql ta tb hj h0
  have h3:=hB j
  have hz2:=hz.2
  rw[show s.1=a by rw[hs],show s.2=b by rw[hs],<-hg]at hz2
  rw[<-hg]
  simp only[af.all,az]
  exact⟨⟨dg aP,aa,hz2⟩,.refl _⟩
theorem CE:aY P xD 72:=dD fun⟨a,b,_⟩ K hn=>OI hn.1 hn.2.1 hn.2.2.1 hn.2.2.2.1 hn.2.2.2.2 K
theorem Nt:bI P LZ:=fu (aI Ca (aI Ge (aI AB (aI CE gD))))
theorem FV {a:PP} (ha:a.1<2^30) (ta:Trim a) (hd:cB (a.1-1) (cM a.2)) (hz:uj a) (K:Nat):aO P 80 K [aK a] [] (aJ (aK (cw a)) []):=by
 refine cj hT Nt hm S8 rfl aX rfl 60 RC (fun _=>?_) K []
 simp only[af.all,az,beq_iff_eq,beq_eq_false_iff_ne]
 refine⟨fun h=>?_,fun h=>?_⟩
 ·have h0:a.1=0:=aa
  unfold cw
  rw[if_pos h0];exact kS aa
 ·have h0:a.1≠0:=aa
  obtain⟨z1,z2,z3⟩:=hz h0
  have e0:cw a=dM (gA a (cm a (bQ a))):=if_neg h0
  rw[e0]at z3 ⊢
  have hd1:(bQ a).1<=a.1-1:=fk
  have hg:=tu (s:=(a,bQ a)) (B:=a.1) aP (by dsimp only;omega) ta fH (bQ a).1
  have hgp:0<(cm a (bQ a)).1:=yC aa
  have tg:Trim (cm a (bQ a)):=nj ta fH
  have tg':(cm a (bQ a)).2 ((cm a (bQ a)).1-1)≠0:=by rcases tg with h|h;omega;exact h
  have hq:(gA a (cm a (bQ a))).1<=a.1:=Nat.le_trans fk (Nat.sub_le _ _)
  exact⟨⟨dg aP,aa,hd,dg aP,dg aP,ha,Nat.lt_of_le_of_lt hd1 aa,ta,fH,z1,dg aP,dg aP,ha,hgp,Nat.lt_of_le_of_lt hg ha,ta,tg',z2⟩,⟨dg aP,Nat.lt_of_le_of_lt hq aa,z3⟩,.refl _⟩
def Kg:Spec:=dU (kC (kL ag) kN) (fun a=>aK (cw a.1)) fun a=>[a.1.1<2^30,Trim a.1,cB (a.1.1-1) (cM a.1.2),uj a.1]
theorem aaG:aY P Kg 80:=dD fun⟨a,_⟩ K hn=>FV hn.1 hn.2.1 hn.2.2.1 hn.2.2.2 K
abbrev yh (n:Nat) (s:PP×PP):AV:=.ak 1 n fun i=>aK (bF s i).1
abbrev kK (n:Nat) (s:PP×PP):ax:=⟨true,true,1,n,fun i=>aK (bF s i).1⟩
def zB:bp:=zG::(88,xl)::(121,Ce)::(73,pX)::(80,Kg)::gn
abbrev wT:Code:=aG f59
abbrev vY:List Nat:=[3,4,5]
abbrev zM (s:PP×PP) (j:Nat):List AV:=[aK (bF s j).1,.own 0 1 0 (j+1),aK (bF s j).2]
def ya (s:PP×PP):Prop:=∀j,j<eM s->lH (bF s j).1 (bF s j).2/\cB (bF s (j+1)).2.1 (bF s (j+1)).2.2
theorem aa9:aZ 59 f59:=bf func59
theorem UL {a:PP}:aF T zB [] 60 vY (before wT [1,1,1,0,1]) ⟨aQ 0 [aK a],[],0⟩=
  let c2:Nat×(Nat->Rat):=(a.fst,fun i=>aT (rat (a.snd i) ag));let c1:PP:=cw c2;some (aj [cV (fun i=>rat (a.snd i) ag) a.fst ag,a.fst<2^30,Trim c2,cB (a.fst-1) (cM fun i=>aT (rat (a.snd i) ag)),uj c2] (aj [(1:Nat)*1<=2^24] (aj [cV (fun i=>rat (c1.snd i) ag) c1.fst ag,c1.fst<2^40,cB (c1.fst-1) (cM fun i=>aT (rat (c1.snd i) ag))] (leaf normal ([ak 3 c1.fst fun i=>rat (c1.snd i) ag,own 20480 1 0 1,ak 3 (bu (cM fun i=>aT (rat (c1.snd i) ag)) (c1.fst-1)) fun i=>rat (cM (fun i=>aT (rat (c1.snd i) ag)) i) ag],[(20480,ax.mk true true 1 1 fun i=>nth [ak 3 c1.fst fun i=>rat (c1.snd i) ag] nil i)]))))):=ah
theorem M0 {x y:PP} {s:PP×PP} {j:Nat}:aF T zB [16] 60 vY [part wT [1,1,1,0,1,0,0]] ⟨aC vY [aK x,.own 0 1 0 (j+1),aK y],[(0,kK (j+1) s)],1⟩=
  let c6:Int:=(-1:Int);let c4:AV:=ak 3 y.fst fun i=>rat (y.snd i) ag;let c3:Nat:=j+1;let c2:Nat:=y.fst-1;let c7:Nat:=c3+1;let c5:Nat:=x.fst-c2;let c1:Nat:=bu (bP c2 (fun i=>aT (rat (y.snd i) ag)) (fun i=>aT (rat (x.snd i) ag)) c5 c5) x.fst;some (fork (decide ((↑y.fst:Int)>0)) (aj [(1:Nat)*1<=2^24,c7*((24:Nat)+1)*2<=2^47] (aj [cV (fun i=>rat (x.snd i) ag) x.fst ag,cV (fun i=>rat (y.snd i) ag) y.fst ag,x.fst<2^30,(1:Nat)<=y.fst,y.fst<2^30,x.fst=0\/aT (rat (x.snd (x.fst-1)) ag)≠0,aT (rat (y.snd c2) ag)≠0,kX x.fst c2 (fun i=>aT (rat (y.snd i) ag)) fun i=>aT (rat (x.snd i) ag)] (aj [-(2:Int)^63<=c6,c6<2^63,cV (fun i=>rat (bP c2 (fun i=>aT (rat (y.snd i) ag)) (fun i=>aT (rat (x.snd i) ag)) c5 c5 i) ag) c1 ag,Max.max 1 (bJ c6.natAbs)<=s7,c1<2^40,cB c1 fun i=>(↑c6:Rat)*aT (rat (bP c2 (fun i=>aT (rat (y.snd i) ag)) (fun i=>aT (rat (x.snd i) ag)) c5 c5 i) ag)] (leaf normal ([c4,own 24577 1 0 c7,ak 3 c1 fun i=>rat ((↑c6:Rat)*aT (rat (bP c2 (fun i=>aT (rat (y.snd i) ag)) (fun i=>aT (rat (x.snd i) ag)) c5 c5 i) ag)) ag],[(24577,ax.mk true true 1 c7 fun i=>if i<c3 then aK (bF s i).fst else nth [ak 3 y.fst fun i=>rat (y.snd i) ag] nil (i-c3+0))]))))) (leaf (exit 0) ([ak 3 x.fst fun i=>rat (x.snd i) ag,own 0 1 0 c3,c4],[(0,ax.mk true true 1 c3 fun i=>ak 3 (bF s i).fst.fst fun i_1=>rat ((bF s i).fst.snd i_1) ag)]))):=ah
theorem SN {s:PP×PP} {j:Nat}:cG T zB [] 60 f59 [part wT [1,1,1,1]] ⟨aC vY (zM s j),[(0,kK (j+1) s)],1⟩=
  some (leaf ret [ak 1 (j+1) fun i=>ak 3 (bF s (i+0)).fst.fst fun i_1=>rat ((bF s (i+0)).fst.snd i_1) ag]):=ah
theorem Nw:bI P zB:=fu (aI Ca (aI Fz (aI AB (aI aaG gD))))
theorem We {a:PP} (ha:a.1<2^30) (ta:Trim a) (hd:cB (a.1-1) (cM a.2)) (hz:uj a) (hd2:cB ((cw a).1-1) (cM (cw a).2)) (hs:ya (gu a)) (K:Nat):aO P 59 K [aK a] [] (aJ (yh (eM (gu a)+1) (gu a)) []):=by
 obtain⟨s,hss⟩:∃s,s=gu a:=⟨_,rfl⟩
 have t1:Trim s.1:=by rw[hss];exact sn
 have t2:Trim s.2:=by rw[hss];exact fH
 have hTr:=qc t1 t2
 obtain⟨g1,g2,g3⟩:=sM t1 t2
 have hfl:(cw a).1<=a.1:=by
  unfold cw;split
  ·exact Nat.zero_le _
  ·exact Nat.le_trans fk (Nat.sub_le _ _)
 have hdl:(bQ (cw a)).1<=(cw a).1-1:=fk
 have hB:=Cp (s:=s) (B:=2^30-1) (by rw[hss];show(cw a).1<=_;omega) (by rw[hss];show(bQ (cw a)).1<=_;omega) t1 t2
 have hg0:s.2.1=(bQ (cw a)).1:=by rw[hss];rfl
 have hg:eM s<2^30:=aa
 rw[<-hss]at hs ⊢
 refine iZ (r:=aJ (yh (eM s+1) s) []) hT Nw hm aa9 rfl aX rfl [1,1,1,0,1] (i:=0) (y:=part wT [1,1,1,0,1,0,0]) (z:=part wT [1,1,1,1]) ah ah ah (f1:=[]) (f2:=[16]) (f3:=[]) 60 vY 1
  (fun j:Nat=>zM s j) (fun j=>[(0,kK (j+1) s)]) (fun j=>j<=eM s) (fun j=>j=eM s) (fun j=>eM s-j) (fun _=>⟨⟨_,UL,?_⟩,fun j hj=>⟨_,M0 (x:=(bF s j).1) (y:=(bF s j).2),?_⟩,fun j hj=>⟨_,SN,?_⟩⟩) K []
 ·simp only[af.all,az]
  refine⟨⟨dg aP,ha,ta,hd,hz⟩,aa,⟨dg aP,Nat.lt_of_le_of_lt hfl aa,hd2⟩,0,Nat.zero_le _,[(0,20480)],rfl,by rw[hss];rfl,rfl,bg rfl rfl rfl (fun i hi=>?_) trivial⟩
  obtain rfl:i=0:=aa
  rw[hss];exact bH rfl rfl
 ·have h1:=hTr j
  have h3:=hB j hj
  have hb:bJ (Int.natAbs (-1))=1:=by decide
  have hW:=dw
  have hX:=A9
  simp only[af.all,az,bz,bB]
  refine⟨fun h=>?_,fun h=>?_⟩
  ·have hy:(bF s j).2.1≠0:=aa
   have hjl:j<eM s:=by
    rcases Nat.lt_or_ge j (eM s)with h|h
    ·exact h
    ·exact absurd (by rw[show j=eM s by omega];exact g2) hy
   have hr:(cQ (bF s j).1 (bF s j).2).1<(bF s j).2.1:=nv aa h1.2
   have ty:(bF s j).2.2 ((bF s j).2.1-1)≠0:=by rcases h1.2 with h|h;omega;exact h
   refine⟨⟨aa,aa⟩,⟨dg aP,dg aP,aa,aa,aa,h1.1,ty,(hs j hjl).1⟩,⟨aa,aa,dg aP,by rw[hb,Nat.max_self];omega,by show(cQ (bF s j).1 (bF s j).2).1<_;omega,(hs j hjl).2⟩,j+1,hjl,by dsimp only;omega,[(0,24577)],rfl,rfl,rfl,bg rfl rfl rfl (fun i hi=>?_) trivial⟩
   by_cases hi2:i<j+1
   ·rw[if_pos hi2];exact bH rfl rfl
   ·rw[if_neg hi2,show i-(j+1)+0=0 by omega,show i=j+1 by omega];exact bH rfl rfl
  ·have hjl:j=eM s:=by
    rcases Nat.lt_or_ge j (eM s)with h'|h'
    ·have:=g3 j h';omega
    ·omega
   exact⟨rfl,j,hjl,[(0,0)],rfl,rfl,rfl,bg rfl rfl rfl (fun i hi=>bH rfl rfl) trivial⟩
 ·subst hj
  exact .refl _
abbrev sK:Nat:=4096
abbrev ls (k:Nat->Rat) (n:Nat):AV:=aV k n sK
abbrev JN (n:Nat) (k:Nat->Rat) (i:Nat):List AV:=[ls k n,.ptr 0 0 3 0 [],.int .i64 i,.int .i64 0,.int .i64 0]
theorem ab5 {a b:Rat}:gj a b>=0↔b<=a:=by
 have:=@zN a b
 constructor
 ·intro h
  have:¬a<b:=fun h'=>by have:=zN.2 h';omega
  grind
 ·intro h
  have:¬gj a b<0:=fun h'=>by have:=zN.1 h';grind
  omega
def Zi (n:Nat) (k:Nat->Rat) (t:Rat):Prop:=t<k 0\/k (n-1)<t
instance {n:Nat} {k:Nat->Rat} {t:Rat}:Decidable (Zi n k t):=inferInstanceAs (Decidable (t<k 0\/k (n-1)<t))
def Kr (k:Nat->Rat) (i:Nat) (t:Rat) (d j:Nat):Rat:=if j=0 then 0 else fr (k (i-d+(j-1))) (k (i-d+(j-1)+(d+1))) t*vB k i t d (j-1)
theorem Qd:aZ 56 f56:=bf func56
theorem Xs:aZ 113 f113:=bf func113
def tY (k:Nat->Rat) (t:Rat):Nat->Nat
 |0=>0
 |i+1=>tY k t i+if k i=t then 1 else 0
def abE (k:Nat->Rat) (i:Nat):Prop:=i=0\/k i≠k (i-1)
instance {k:Nat->Rat} {i:Nat}:Decidable (abE k i):=inferInstanceAs (Decidable (i=0\/k i≠k (i-1)))
def SY (n:Nat) (k:Nat->Rat) (p:Nat) (t:Rat):Prop:=((t=k 0\/t=k (n-1))/\tY k t n≠p+1)\/(¬(t=k 0\/t=k (n-1))/\p<tY k t n)
instance {n:Nat} {k:Nat->Rat} {p:Nat} {t:Rat}:Decidable (SY n k p t):=inferInstanceAs (Decidable (((t=k 0\/t=k (n-1))/\tY k t n≠p+1)\/(¬(t=k 0\/t=k (n-1))/\p<tY k t n)))
def loadT (o:Oper):Nat:=match o.op with
 |.load t _=>t
 |_=>0
def abW (o:Oper):Nat:=match o.op with
 |.binOp _ t _ _ _=>t
 |_=>0
def Sa (o:Oper):Array TypeId:=match o.op with
 |.call c=>c.argTypes
 |_=>#[]
def unT (o:Oper):Nat:=match o.op with
 |.unOp _ t _=>t
 |_=>0
def HX:Code->Code×Code
 |.block _ (.rangeFunc _ _ x y)=>(x,y)
 |_=>(.skip,.skip)
def jC (a:PP) (t:Rat):Prop:=∀m,m<=a.1->Sz (eL a.1 a.2 t m) ag
abbrev FX:FuncId:=127
abbrev xB:FuncId:=163
abbrev rI:Code:=aG f163
def cO (v:AV):PP:=match qi v with
 |some (n,f)=>(n,fun i=>aT (f i))
 |none=>(0,fun _=>0)
abbrev fC (n:Nat) (c:Nat->PP):AV:=.ak 1 n fun i=>aK (c i)
def o5:Kind (Nat×(Nat->PP)):=⟨fun v=>match v with
 |.ak 1 n f=>some ((n,fun i=>cO (f i)),[∀i,i<n->bA (f i) (aK (cO (f i)))])
 |_=>none,fun a=>fC a.1 a.2,fun {v a q} h hq=>by
  split at h
  ·simp only[ay,Prod.mk.injEq]at h
   obtain⟨rfl,rfl⟩:=h
   exact gk hq
  ·simp at h⟩
def oV:Spec:=dU (kC (kL ag) (kC (fq ag) kN)) (fun a=>.rat (eA a.1 a.2.1) ag) fun a=>[a.1.1<2^40,jC a.1 a.2.1]
def cC (c:Nat->PP) (t:Rat) (i:Nat):Int:=dm (eA (c i) t)
def yt:bp:=zG::(66,oV)::gn
abbrev vg:Code:=aG f122
abbrev vr:List Nat:=[3,5,6,10,11,12]
abbrev yz (n:Nat) (c:Nat->PP) (l:Int) (m i:Nat):List AV:=[.ptr 0 0 3 0 [],.int .i64 l,.int .i64 m,fC n c,.int .i64 n,.int .i64 i]
def dc (n:Nat) (c:Nat->PP) (t:Rat):Prop:=∀i,i<n->(c i).1<2^40/\jC (c i) t
def Kz:Spec:=dU (kC o5 (kC (fq ag) kN)) (fun a=>.int .i64 ((bW (cC a.1.2 a.2.1) a.1.1).2:Nat)) fun a=>[a.1.1<2^40,dc a.1.1 a.1.2 a.2.1]
def Iw:bp:=nG::(122,Kz)::(66,oV)::gn
def gG (n:Nat) (c:Nat->PP) (a b:Rat):Int:=if a>=b then 0 else((bW (cC c a) n).2:Int)-((bW (cC c b) n).2:Int)-(if eA (c 0) b=0 then 1 else 0)
theorem Nh:aZ FX f127:=bf func127
theorem B5:aZ xB f163:=bf func163
theorem Io:aZ 66 f66:=bf func66
theorem aay:aZ 122 f122:=bf func122
theorem P0:aZ 60 f60:=bf func60
abbrev JG:Nat:=loadT (dY rI [0] 0)
abbrev EL:Nat:=loadT (dY rI [1,0,0,1,0,0,0] 5)
abbrev pbI:Nat:=abW (dY rI [0] 2)
theorem Nd:J0 rI JG EL pbI:=⟨ah,⟨ah,ah,ah⟩,⟨ah,ah,ah⟩,⟨ah,ah,ah⟩,⟨ah,ah,ah⟩,⟨ah,ah,ah⟩,⟨ah,ah,ah⟩,⟨ah,ah,ah⟩,⟨ah,ah,ah⟩,⟨ah,ah,ah⟩,⟨ah,ah,ah⟩,⟨ah,ah,ah⟩,⟨ah,ah,ah⟩,
 ⟨Sa (dY rI [1,0,0,1,0,0,0] 6),ah,ah,ah⟩,⟨unT (dY rI [1,0,0,1,0,0,0] 7),ah,ah,ah⟩,⟨ah,ah,ah⟩,⟨ah,ah,ah⟩,⟨ah,ah,ah⟩⟩
theorem YA {n s:Nat} {k:Nat->Rat} (hn:n<2^62):xk P xB [.bM (aV k n s)] n (fun i=>.int .i64 ((n:Int)-1-i)) (fun i=>.rat (k (n-1-i)) s):=
 acz hT (tiS:=(look JG T).getD ⟨.bool,0,0,.nil⟩) (tiE:=(look EL T).getD ⟨.bool,0,0,.nil⟩) ah ah ah ah B5.get B5.body ah ah Nd (f:=fun i=>.rat (k i) s) hn ah fun i hi=>⟨rfl,rfl⟩
def wB:bp:=nG::(FX,Cd T [sG] [] 20 f127)::gn
abbrev wO:List Nat:=[3,4,5,9]
abbrev Bv (a:PP):List AV:=[.ptr 0 0 3 0 [],.ptr 1 0 3 0 [],.ptr 2 0 3 0 [],.func xB [.bM (aK a)]]
abbrev tR (q:Rat) (s:Nat):ax:=⟨false,true,3,1,fun _=>.rat q s⟩
abbrev oW (t x:Rat):aD:=[(2,tR x ag),(1,tR 0 1),(0,tR t ag)]
abbrev AZ:List Nat:=[3,4,5,9,7]
abbrev Fa (a:PP):List AV:=[.ptr 0 0 3 0 [],.ptr 1 0 3 0 [],.ptr 2 0 3 0 [],.func xB [.bM (aK a)],.ptr 3 0 3 0 []]
abbrev qw:Code:=aG f66
abbrev Ky:Code:=(HX (part qw [1,1,0,1])).1
abbrev Lc:Code:=(HX (part qw [1,1,0,1])).2
theorem QK {a:PP} {t:Rat}:aF T wB [] 60 wO (before qw [1,1,0,1]) ⟨aQ 0 [aK a,.rat t ag],[],0⟩=
  let c1:ax:=fM fun x=>rat 0 1;some (leaf normal ([ptr 0 0 (dL (rat t ag)).size 0 [],ptr 4096 0 3 0 [],ptr 8192 0 3 0 [],func 163 [(ak 3 a.fst fun i=>rat (a.snd i) ag).bM]],[((8192:Nat),c1),((4096:Nat),c1),(0,ax.mk false true (dL (rat t ag)).size 1 fun x=>rat t ag)])):=ah
theorem Q1 {a:PP} {t x v:Rat} {u:Int}:aF T wB [] 60 AZ [Ky] ⟨aC (wO++[10,11]) (Bv a++[.int .i64 u,.rat v ag]),oW t x,3⟩=
  let c1:AV:=rat 0 1;some (aj [(0:Nat)<1] (leaf normal ([ptr 0 0 3 0 [],ptr 1 0 3 0 [],ptr 2 0 3 0 [],func 163 [(ak 3 a.fst fun i=>rat (a.snd i) ag).bM],ptr 3 0 3 0 []],[((3:Nat),fM fun j=>if(j==0)=true then dL (rat v ag)else c1),((2:Nat),fM fun x_1=>rat x ag),((1:Nat),fM fun x=>c1),((0:Nat),fM fun x=>rat t ag)]))):=ah
theorem Od {a:PP} {t x v:Rat}:aF T wB [] 60 wO [Lc] ⟨aC AZ (Fa a),(3,tR v ag)::oW t x,4⟩=
  let c2:Prop:=0<1;let c1:Nat:=2^42;some (aj [c2,c2,ag<c1,ag<c1,c2,ag+ag<c1,ag<c1,c2] (leaf normal ([ptr 0 0 3 0 [],ptr 1 0 3 0 [],ptr 2 0 3 0 [],func 163 [(ak 3 a.fst fun i=>rat (a.snd i) ag).bM]],[((2:Nat),fM fun j=>if(j==0)=true then dL (uv (x*t,ag+ag) (v,ag))else rat x ag),((1:Nat),fM fun x=>rat 0 1),((0:Nat),fM fun x=>rat t ag)]))):=ah
theorem aa1 {a:PP} {t x:Rat}:cG T wB [] 60 f66 [part qw [1,1,1]] ⟨aC wO (Bv a),oW t x,3⟩=
  let c1:Prop:=0<1;some (aj [c1,c1] (aj [c1] (leaf ret [rat x ag]))):=ah
theorem NW {n:Nat} {c:Nat->PP} {t:Rat}:aF T yt [] 60 vr (before vg [1,1,0,1]) ⟨aQ 0 [fC n c,.rat t ag],[],0⟩=
  let c1:AV:=int i64 0;some (leaf normal ([ptr 0 0 (dL (rat t ag)).size 0 [],c1,c1,ak 1 n fun i=>ak 3 (c i).fst fun i_1=>rat ((c i).snd i_1) ag,int i64 (↑n:Int),c1],[(0,ax.mk false true (dL (rat t ag)).size 1 fun x=>rat t ag)])):=ah
theorem Ru {n m i:Nat} {c:Nat->PP} {l:Int} {t:Rat}:aF T yt [13,23,27] 60 vr [part vg [1,1,0,1,0,0]] ⟨aC vr (yz n c l m i),[(0,tR t ag)],1⟩=
  let c14:Int:=(↑n:Int);let c11:AV:=int i64 (↑m:Int);let c9:Int:=(↑m:Int)+1;let c8:AV:=ak 1 n fun i=>ak 3 (c i).fst fun i_1=>rat ((c i).snd i_1) ag;let c7:Int:=(2:Int)^63;let c6:Int:=(↑i:Int);let c5:AV:=ptr 0 0 3 0 [];let c3:List (Nat×ax):=[((0:Nat),fM fun x=>rat t ag)];let c13:Int:=c6+1;let c12:PP:=c c6.toNat;let c10:Nat×(Nat->Rat):=(c12.fst,fun i=>aT (rat (c12.snd i) ag));let c4:List Prop:=[-c7<=c13/\c13<c7];let c2:List AV:=[c8,int i64 c14,int i64 c13];let c1:Int:=dm (eA c10 t);some (fork (decide (c6<c14)) (aj [(0:Int)<=c6/\c6.toNat<n] (aj [(0:Nat)<1,cV (fun i=>rat (c12.snd i) ag) c12.fst ag,ag<=ag,c12.fst<2^40,jC c10 t,ag<2^42] (aj [-c7<=c1*l/\c1*l<c7] (fork (decide (c1*l<0)) (aj [-c7<=c9/\c9<c7] (fork (c1 !=(0:Int)) (aj c4 (leaf normal (c5::int i64 c1::int i64 c9::c2,c3))) (aj c4 (leaf normal (c5::int i64 l::int i64 c9::c2,c3))))) (fork (c1 !=(0:Int)) (aj c4 (leaf normal (c5::int i64 c1::c11::c2,c3))) (aj c4 (leaf normal (c5::int i64 l::c11::c2,c3)))))))) (leaf (exit 0) ([c5,int i64 l,c11,c8,int i64 c14,int i64 c6],c3))):=ah
theorem Ze {n m i:Nat} {c:Nat->PP} {l:Int} {t:Rat}:cG T yt [] 60 f122 [part vg [1,1,1]] ⟨aC vr (yz n c l m i),[(0,tR t ag)],1⟩=
  some (leaf ret [int i64 (↑m:Int)]):=ah
theorem Vk {n:Nat} {c:Nat->PP} {x y:Rat}:bT T Iw [11,25] 60 f60 (aG f60) ⟨aQ 0 [fC n c,.rat x ag,.rat y ag],[],0⟩=
  let c6:Nat:=2^40;let c5:Prop:=ag<2^42;let c4:Int:=(2:Int)^63;let c3:Prop:=0<1;let c2:PP:=c (Int.toNat (0:Int));let c1:Int:=(↑(bW (cC (fun i=>cO (aK (c i))) x) n).snd:Int)-(↑(bW (cC (fun i=>cO (aK (c i))) y) n).snd:Int);let c8:Int:=c1-1;let c7:Nat×(Nat->Rat):=(c2.fst,fun i=>aT (rat (c2.snd i) ag));some (aj [c3,c3,c5,c5] (fork (decide (gj x y>=0)) (leaf ret [int i64 0]) (aj [c3,∀(i:Nat),i<n->bA (aK (c i)) (aK (cO (aK (c i)))),ag<=ag,n<c6,dc n (fun i=>cO (aK (c i))) x,c3,∀(i:Nat),i<n->bA (aK (c i)) (aK (cO (aK (c i)))),ag<=ag,n<c6,dc n (fun i=>cO (aK (c i))) y,-c4<=c1/\c1<c4] (aj [(0:Int)<=0/\Int.toNat (0:Int)<n,c3,cV (fun i=>rat (c2.snd i) ag) c2.fst ag,ag<=ag,c2.fst<c6,jC c7 y,c5] (fork (dm (eA c7 y)==0) (aj [-c4<=c8/\c8<c4] (leaf ret [int i64 c8])) (leaf ret [int i64 c1])))))):=ah
theorem FE:bI P wB:=jr (aI (HS hT (ze bY) hm Nh _ _) gD)
theorem Wz {a:PP} {t:Rat} (hn:a.1<2^40) (hz:jC a t) (K:Nat):aO P 66 K [aK a,.rat t ag] [] (aJ (.rat (eA a t) ag) []):=by
 have hW:=dw
 refine aaP (r:=aJ (.rat (eA a t) ag) []) hT Io rfl aX rfl (fun _ cx hro hk=>?_) K []
 refine au.Qr hT FE hm (x:=qw) (assign:=Ky) (body:=Lc) (g:=9) (p0:=10) (p1:=11) [1,1,0,1] (i:=0) ah ah Io.dst hro hk B5.enters (YA (s:=ag) (k:=a.2) (n:=a.1) aa) aX aX (by decide) (f1:=[]) (f2:=[]) (f3:=[])
  60 wO AZ (Bv a) (fun _=>rfl) rfl (fun i=>oW t (eL a.1 a.2 t i)) 3 4 (fun _=>Fa a) (fun i=>(3,tR (a.2 (a.1-1-i)) ag)::oW t (eL a.1 a.2 t i)) [0,1,2] ⟨_,QK,?_⟩ (fun i hi=>⟨_,Q1,?_⟩) (fun i hi=>⟨_,Od,?_⟩) ?_
 ·simp only[af.all,az]
  exact⟨trivial,[(0,0),(1,4096),(2,8192)],rfl,rfl,rfl,jt rfl rfl (.inr ⟨rfl,dj rfl aa⟩) (cZ (cZ trivial))⟩
 ·simp only[af.all,az]
  exact⟨aa,trivial,[(0,0),(1,1),(2,2),(3,3)],rfl,rfl,rfl,cZ (cZ (cZ (cZ trivial)))⟩
 ·simp only[af.all,az]
  exact⟨aa,trivial,[(0,0),(1,1),(2,2)],rfl,rfl,rfl,jt rfl rfl (.inr ⟨rfl,dF rfl (hz (i+1) hi)⟩) (cZ (cZ trivial))⟩
 ·rw[show behind qw [1,1,0,1]=[part qw [1,1,1]]from by kernel_rfl]
  exact(aE.fin hT FE hm 60 aa1 ah (by simp only[af.all,az];exact⟨aa,aa,.refl _⟩)).mono fun _ _ h=>.inl h
theorem zo:aY P oV 66:=dD fun⟨a,t,_⟩ K hn=>Wz hn.1 hn.2 K
theorem Gd (q:Rat):-1<=dm q/\dm q<=1:=by unfold dm;split<;>(try split)<;>omega
theorem qS {s:Nat->Int} (h:∀i,-1<=s i/\s i<=1):∀i,(-1<=(bW s i).1/\(bW s i).1<=1)/\(bW s i).2<=i
 |0=>⟨⟨show(-1:Int)<=0 by decide,show(0:Int)<=1 by decide⟩,aP⟩
 |i+1=>by
  have ih:=qS h i
  have hi:=h i
  refine⟨?_,?_⟩
  ·show-1<=(if s i=0 then(bW s i).1 else s i)/\(if s i=0 then(bW s i).1 else s i)<=1
   split
   ·exact ih.1
   ·exact hi
  ·show(if s i*(bW s i).1<0 then(bW s i).2+1 else(bW s i).2)<=i+1
   split<;>omega
theorem sY {c:Nat->PP} {t:Rat} (i:Nat):-1<=cC c t i/\cC c t i<=1:=Gd _
theorem MF {a b:Int} (ha:-1<=a/\a<=1) (hb:-1<=b/\b<=1):-1<=a*b/\a*b<=1:=by
 rcases(show a=-1\/a=0\/a=1 by omega)with rfl|rfl|rfl<;>omega
theorem Sx:bI P yt:=fu (aI zo gD)
theorem Vj {n:Nat} {c:Nat->PP} {t:Rat} (hn:n<2^40) (hz:dc n c t) (K:Nat):aO P 122 K [fC n c,.rat t ag] [] (aJ (.int .i64 ((bW (cC c t) n).2:Nat)) []):=by
 have hW:=dw
 refine iZ (r:=aJ (.int .i64 ((bW (cC c t) n).2:Nat)) []) hT Sx hm aay rfl aX rfl [1,1,0,1] (i:=0) (y:=part vg [1,1,0,1,0,0]) (z:=part vg [1,1,1]) ah ah ah (f1:=[]) (f2:=[13,23,27]) (f3:=[]) 60 vr 1
  (fun i:Nat=>yz n c (bW (cC c t) i).1 (bW (cC c t) i).2 i) (fun _=>[(0,tR t ag)]) (fun i=>i<=n) (fun i=>i=n) (fun i=>n-i) (fun _=>⟨⟨_,NW,?_⟩,fun i hi=>⟨_,Ru,?_⟩,fun i hi=>⟨_,Ze,?_⟩⟩) K []
 ·simp only[af.all,az]
  exact⟨0,Nat.zero_le _,[(0,0)],rfl,rfl,rfl,cZ trivial⟩
 ·obtain⟨h1,h2⟩:=qS (s:=cC c t) sY i
  have h3:=sY (c:=c) (t:=t) i
  have h4:=MF h3 h1
  have e1:dm (eA (c i) t)=cC c t i:=rfl
  have e2:(bW (cC c t) (i+1)).1=if cC c t i=0 then(bW (cC c t) i).1 else cC c t i:=rfl
  have e3:(bW (cC c t) (i+1)).2=if cC c t i*(bW (cC c t) i).1<0 then(bW (cC c t) i).2+1 else(bW (cC c t) i).2:=rfl
  simp only[af.all,az,bz,bB,bw,bne_iff_ne,ne_eq,bne_eq_false_iff_eq]
  show((i:Int)<n->_/\(_/\cV _ _ _/\_/\_/\jC (c i) t/\_)/\(-2^63<=cC c t i*_/\cC c t i*_<2^63)/\(cC c t i*_<0->_/\(¬cC c t i=0->_)/\(cC c t i=0->_))/\(¬cC c t i*_<0->(¬cC c t i=0->_)/\(cC c t i=0->_)))/\_
  have re:∀{l:Int} {m:Int},l=(bW (cC c t) (i+1)).1->m=((bW (cC c t) (i+1)).2:Nat)->dr [] ([.ptr 0 0 3 0 [],.int .i64 l,.int .i64 m,fC n c,.int .i64 n,.int .i64 ((i:Int)+1)],[((0:Nat),tR t ag)]) (yz n c (bW (cC c t) (i+1)).1 (bW (cC c t) (i+1)).2 (i+1)) [(0,tR t ag)] 1:=fun {l m} hl hm=>by
   subst hl hm
   exact⟨[(0,0)],rfl,by rw[show(i:Int)+1=((i+1:Nat):Int) by omega];rfl,rfl,cZ trivial⟩
  refine⟨fun h=>⟨aa,⟨aa,dg aP,aP,(hz i aa).1,(hz i aa).2,aa⟩,aa,fun h5=>⟨aa,fun h6=>⟨aa,i+1,aa,by dsimp only;omega,re (by rw[e2,if_neg h6];rfl) (by rw[e3,if_pos h5];omega)⟩,fun h6=>⟨aa,i+1,aa,by dsimp only;omega,re (by rw[e2,if_pos h6]) (by rw[e3,if_pos h5];omega)⟩⟩,
   fun h5=>⟨fun h6=>⟨aa,i+1,aa,by dsimp only;omega,re (by rw[e2,if_neg h6];rfl) (by rw[e3,if_neg h5])⟩,fun h6=>⟨aa,i+1,aa,by dsimp only;omega,re (by rw[e2,if_pos h6]) (by rw[e3,if_neg h5])⟩⟩⟩,fun h=>⟨rfl,i,aa,[(0,0)],rfl,rfl,rfl,cZ trivial⟩⟩
 ·subst hi;exact .refl _
theorem Tx:aY P Kz 122:=dD fun⟨⟨n,c⟩,t,_⟩ K hn=>Vj hn.1 hn.2 K
theorem Ny:bI P Iw:=jr (aI Tx (aI zo gD))
theorem Tk {n:Nat} {c:Nat->PP} {x y:Rat} (h0:0<n) (hn:n<2^40) (hx:dc n c x) (hy:dc n c y) (K:Nat):aO P 60 K [fC n c,.rat x ag,.rat y ag] [] (aJ (.int .i64 (gG n c x y)) []):=by
 have hW:=dw
 refine cj hT Ny hm P0 rfl aX rfl 60 Vk (fun _=>?_) K []
 have hbx:=(qS (s:=cC c x) sY n).2
 have hby:=(qS (s:=cC c y) sY n).2
 simp only[af.all,az,ab5,bz,bB,nc]
 show _/\(x>=y->_)/\(¬x>=y->(_/\(∀i,i<n->bA (aK (c i)) (aK (c i)))/\_/\_/\dc n c x/\_/\_/\_/\_/\dc n c y/\(-2^63<=((bW (cC c x) n).2:Int)-((bW (cC c y) n).2:Int)/\((bW (cC c x) n).2:Int)-((bW (cC c y) n).2:Int)<2^63))/\(_/\_/\_/\_/\_/\jC (c 0) y/\_)/\(eA (c 0) y=0->_)/\(¬eA (c 0) y=0->_))
 refine⟨aa,fun h=>?_,fun h=>⟨⟨aa,fun i _=>.refl _,aP,hn,hx,aa,fun i _=>.refl _,aP,hn,hy,aa⟩,⟨aa,aa,dg aP,aP,(hy 0 h0).1,(hy 0 h0).2,aa⟩,fun h2=>⟨?_,?_⟩,fun h2=>?_⟩⟩
 ·exact bN (if_pos h).symm
 ·show-2^63<=((bW (cC c x) n).2:Int)-((bW (cC c y) n).2:Int)-1/\((bW (cC c x) n).2:Int)-((bW (cC c y) n).2:Int)-1<2^63
  omega
 ·exact bN (by unfold gG;rw[if_neg h,if_pos h2];rfl)
 ·exact bN (by unfold gG;rw[if_neg h,if_neg h2,Int.sub_zero];rfl)
def zm:Spec:=dU (kC o5 (kC (fq ag) (kC (fq ag) kN))) (fun a=>.int .i64 (gG a.1.1 a.1.2 a.2.1 a.2.2.1)) fun a=>[0<a.1.1,a.1.1<2^40,dc a.1.1 a.1.2 a.2.1,dc a.1.1 a.1.2 a.2.2.1]
theorem CB:aY P zm 60:=dD fun⟨⟨n,c⟩,x,y,_⟩ K hn=>Tk hn.1 hn.2.1 hn.2.2.1 hn.2.2.2 K
def aS (p:PP):PP:=(bu (fy p.1 p.2) p.1,fy p.1 p.2)
def A3 (a:PP):PP:=(rZ a.1,xb a.1 a.2)
def mK (p:PP):Prop:=1<=p.1/\p.1<=41/\qj p.1 p.2
def Cg (a:PP):Prop:=a.1<=41/\iy a.1 a.2
abbrev aR (a:PP):Prop:=cV (fun i=>.rat (a.2 i) ag) a.1 ag
def tG:Spec:=dU (kC (kL ag) kN) (fun a=>aK (aS a.1)) fun a=>[mK a.1]
def Gc:Spec:=dU (kC (kL ag) kN) (fun a=>aK (A3 a.1)) fun a=>[Cg a.1]
def rK:Spec:=dU (kC (kL ag) (kC (kL ag) kN)) (fun a=>.tuple [aK (gA a.1 a.2.1),aK (cQ a.1 a.2.1)]) fun a=>[a.1.1<2^30,1<=a.2.1.1,a.2.1.1<2^30,Trim a.1,Trim a.2.1,lH a.1 a.2.1]
def Cs (a:PP):Prop:=a.1<2^30/\Trim a/\cB (a.1-1) (cM a.2)/\uj a
def oy (a:PP):Prop:=Cs a/\cB ((cw a).1-1) (cM (cw a).2)/\ya (gu a)
def EX:Spec:=dU (kC (kL ag) kN) (fun a=>aK (cw a.1)) fun a=>[Cs a.1]
def cR (a:PP) (i:Nat):PP:=(bF (gu a) i).1
def cP (a:PP):Nat:=eM (gu a)+1
def Dw:Spec:=dU (kC (kL ag) kN) (fun a=>fC (cP a.1) (cR a.1)) fun a=>[oy a.1]
def Lv:bp:=zG::(57,tG)::(88,rK)::(81,Gc)::(80,EX)::(72,xD)::(59,Dw)::(60,zm)::gn
def ir (p:PP) (a b:Rat):Int:=if(aS p).1=0 then 3 else if a>b then 7 else 0
def jY (p:PP) (a b:Rat):Int:=if ir p a b=0 then gG (cP (aS p)) (cR (aS p)) a b else 0
theorem ZU:aZ 16 f16:=bf func16
theorem SA {p:PP} {a b:Rat}:bT T Lv [11,15] 60 f16 (aG f16) ⟨aQ 0 [aK p,.rat a ag,.rat b ag],[],0⟩=
  some (aj [aR p,mK p] (fork (((aS p).1:Int)==0) (leaf ret [int i64 0,int i64 3]) (aj [(0:Nat)<1,(0:Nat)<1,ag<2^42,ag<2^42] (fork (decide (gj a b>0)) (leaf ret [int i64 0,int i64 7]) (aj [aR (aS p),oy (aS p),(0:Nat)<1,(0:Nat)<1,∀i,i<cP (aS p)->bA (aK (cR (aS p) i)) (aK (cR (aS p) i)),ag<=ag,ag<=ag,0<cP (aS p),cP (aS p)<2^40,dc (cP (aS p)) (cR (aS p)) a,dc (cP (aS p)) (cR (aS p)) b] (leaf ret [int i64 (gG (cP (aS p)) (cR (aS p)) a b),int i64 0])))))):=ah
theorem GL:aY P tG 57:=dD fun⟨a,_⟩ K hn=>ZE hn.1 hn.2.1 hn.2.2 K
theorem QL:aY P Gc 81:=dD fun⟨a,_⟩ K hn=>OP hn.1 hn.2 K
theorem Wv:aY P rK 88:=dD fun⟨⟨n,a⟩,⟨m,d⟩,_⟩ K hn=>by
 obtain⟨h1,h2,h3,h4,h5,h6⟩:=hn
 simp only at h1 h2 h3
 obtain⟨e,rfl⟩:∃e,m=e+1:=⟨m-1,aa⟩
 have hd:d e≠0:=h5.resolve_left (Nat.succ_ne_zero e)
 cases n with
 |zero=>exact HE aa K
 |succ n=>exact KE h1 aa (h4.resolve_left (Nat.succ_ne_zero n)) hd h6 K
theorem Sn:aY P EX 80:=dD fun⟨a,_⟩ K hn=>FV hn.1 hn.2.1 hn.2.2.1 hn.2.2.2 K
theorem HO:aY P Dw 59:=dD fun⟨a,_⟩ K hn=>We hn.1.1 hn.1.2.1 hn.1.2.2.1 hn.1.2.2.2 hn.2.1 hn.2.2 K
theorem OM:bI P Lv:=fu (aI GL (aI Wv (aI QL (aI Sn (aI CE (aI HO (aI CB gD)))))))
theorem gN {a:PP}:aR a:=dg aP
def wE (p:PP) (a b:Rat):Prop:=mK p/\((aS p).1≠0->oy (aS p)/\cP (aS p)<2^40/\dc (cP (aS p)) (cR (aS p)) a/\dc (cP (aS p)) (cR (aS p)) b)
theorem Uw {p:PP} {a b:Rat} (hz:wE p a b) (K:Nat):aO P 16 K [aK p,.rat a ag,.rat b ag] [] (aJ (.tuple [.int .i64 (jY p a b),.int .i64 (ir p a b)]) []):=by
 obtain⟨hp,hz⟩:=hz
 have hW:=dw
 refine cj hT OM hm ZU rfl aX rfl 60 SA (fun _=>?_) K []
 have hgt:∀{x y:Rat},gj x y>0↔x>y:=Ib
 simp only[af.all,az,beq_iff_eq,beq_eq_false_iff_ne,bz,bB,hgt]
 refine⟨⟨gN,hp⟩,fun h=>?_,fun h=>⟨aa,fun h2=>?_,fun h2=>?_⟩⟩
 ·have h0:(aS p).1=0:=aa
  have e1:ir p a b=3:=if_pos h0
  exact⟨bN (by unfold jY;rw[e1];rfl),bN e1.symm,trivial⟩
 ·have h0:¬(aS p).1=0:=aa
  have e1:ir p a b=7:=by unfold ir;rw[if_neg h0,if_pos h2]
  exact⟨bN (by unfold jY;rw[e1];rfl),bN e1.symm,trivial⟩
 ·have h0:¬(aS p).1=0:=aa
  have e1:ir p a b=0:=by unfold ir;rw[if_neg h0,if_neg h2]
  obtain⟨z1,z2,z3,z4⟩:=hz h0
  exact⟨⟨gN,z1,aa,aa,fun i _=>.refl _,aP,aP,Nat.succ_pos _,z2,z3,z4⟩,bN (by unfold jY;rw[if_pos e1]),bN e1.symm,trivial⟩
def j5:bp:=zG::ic
def xF:bp:=zG::(46,yd)::ic
abbrev uD:Code:=aG f91
abbrev vQ:List Nat:=[0,1,4,5,6]
abbrev DI (n k i:Nat):List AV:=[.int .i64 n,.int .i64 k,.ptr 0 0 3 0 [],.ptr 1 0 3 0 [],.int .i64 i]
abbrev CN (x:Rat):aD:=[(1,tR x 64),(0,tR 0 1)]
def xZ:Spec:=bR fun l=>match l with
 |[.int .i64 n,.int .i64 k]=>some (aJ (.rat ((bn n.toNat k.toNat:Int):Rat) 64) [0<=k,k<=n,n<=40])
 |_=>none
def pY:bp:=zG::(91,xZ)::ic
abbrev vW:Code:=aG f123
abbrev vu:Code:=part vW [1,1,1,1,0,1,0,0]
abbrev uR:Code:=part vu [1,0,0]
abbrev qf:List Nat:=[3,4,5,6]
abbrev zq (m k:Nat):List AV:=[.int .i64 m,.own 0 3 0 (m+1-k),.own 1 3 0 k,.int .i64 k]
abbrev tD:List Nat:=[3,4,5,6,7]
abbrev CW (m k i:Nat):List AV:=[.int .i64 m,.own 0 3 0 (m+1-k),.own 1 3 0 (k+1),.int .i64 k,.int .i64 i]
def xE:bp:=zG::(123,yc)::ic
abbrev wR:Code:=aG f61
abbrev kQ:Code:=aG f151
theorem Pf:aZ 91 f91:=bf func91
theorem IQ:aZ 123 f123:=bf func123
theorem abn:aZ 61 f61:=bf func61
theorem Cf:aZ 151 f151:=bf func151
theorem Xj {n k:Nat}:aF T xF [] 60 vQ (before uD [1,1,0,1]) ⟨aQ 0 [.int .i64 n,.int .i64 k],[],0⟩=
  let c1:AV:=rat 0 1;some (aj [-(2:Int)^63<=(1:Int),(1:Int)<2^63,(0:Nat)<1] (leaf normal ([int i64 (↑n:Int),int i64 (↑k:Int),ptr 0 0 3 0 [],ptr 8192 0 3 0 [],int i64 0],[((8192:Nat),fM fun j=>if(j==0)=true then dL (rat (↑(1:Int):Rat) (Max.max 1 (bJ (Int.natAbs (1:Int)))))else c1),((0:Nat),fM fun x=>c1)]))):=ah
theorem O7 {n k i:Nat} {x:Rat}:aF T xF [10] 60 vQ [part uD [1,1,0,1,0,0]] ⟨aC vQ (DI n k i),CN x,2⟩=
  let c9:Int:=(↑k:Int);let c8:Int:=(↑i:Int);let c7:Prop:=64<2^41;let c6:AV:=ptr 1 0 3 0 [];let c5:AV:=ptr 0 0 3 0 [];let c4:Nat×ax:=((0:Nat),fM fun x=>rat 0 1);let c1:Int:=(2:Int)^63;let c3:Int:=(↑n:Int)-c8;let c2:Int:=c8+1;some (fork (decide (c8<c9)) (aj [(0:Nat)<1,-c1<=c3/\c3<c1,-c1<=c2/\c2<c1,-c1<=c3,c3<c1,-c1<=c2,c2<c1,c7,c7,(0:Nat)<1] (aj [-c1<=c2/\c2<c1] (leaf normal ([int i64 (↑n:Int),int i64 c9,c5,c6,int i64 c2],[((1:Nat),fM fun j=>if(j==0)=true then dL (BA (x,(64:Nat)) ((↑c3:Rat)/(↑c2:Rat),(64:Nat)))else rat x 64),c4])))) (leaf (exit 0) ([int i64 (↑n:Int),int i64 c9,c5,c6,int i64 c8],[((1:Nat),fM fun x_1=>rat x 64),c4]))):=ah
theorem ack {n k i:Nat} {x:Rat}:cG T xF [] 60 f91 [part uD [1,1,1]] ⟨aC vQ (DI n k i),CN x,2⟩=
  let c1:Prop:=0<1;some (aj [c1,c1] (aj [c1] (leaf ret [rat x 64]))):=ah
theorem WZ {m:Nat} {p:Nat->Rat}:aF T pY [] 60 qf (before vW [1,1,1,1,0,1]) ⟨aQ 0 [aV p (m+1) ag],[],0⟩=
  let c2:Nat:=0+(m+1);let c1:Int:=(↑(m+1):Int)-1;some (aj [-(2:Int)^63<=c1/\c1<2^63] (aj [(0:Nat)*3<=2^24,c2*((56:Nat)+1)*2<=2^47] (leaf normal ([int i64 c1,own 28672 3 0 c2,nil,int i64 0],[(28672,ax.mk true true 3 c2 fun i=>rat (p (i-0)) ag)])))):=ah
theorem Rx {m k:Nat} {d x:Nat->Rat}:aF T pY [16] 60 qf (before vu [1,0]) ⟨aC qf (zq m k),jE m d x k,2⟩=
  let c1:List AV×aD:=([int i64 (↑m:Int),own 0 3 0 (m+1-k),own 1 3 0 k,int i64 (↑k:Int)],[(1,ax.mk true true 3 k fun i=>rat (x i) ag),(0,ax.mk true true 3 (m+1) fun i=>rat (d i) ag)]);some (fork (decide ((↑k:Int)<=(↑m:Int))) (leaf normal c1) (leaf (exit 0) c1)):=ah
theorem NS {m k:Nat} {d x:Nat->Rat}:aF T pY [] 60 tD (before uR [1,0,1]) ⟨aC qf (zq m k),jE m d x k,2⟩=
  let c4:Int:=(↑m:Int);let c3:Int:=(↑k:Int);let c2:Nat:=m+1;let c1:Nat:=Int.toNat (0:Int);some (aj [(0:Int)<=c3,c3<=c4,c4<=40,(0:Int)<=0/\c1<c2-k,c1+0<c2,(64:Nat)<2^41,ag<2^41,(1:Nat)*3<=2^24,(k+1)*((56:Nat)+1)*2<=2^47] (leaf normal ([int i64 c4,own 0 3 0 (c2-k),own 36866 3 0 (k+1),int i64 c3,int i64 0],[(36866,ax.mk true true 3 (k+1) fun i=>if i<k then rat (x i) ag else nth [rat ((↑(↑(bn c4.toNat c3.toNat):Int):Rat)*d (c1+0)) ((64:Nat)+ag)] (rat 0 1) (i-k+0)),(0,ax.mk true true 3 c2 fun i=>rat (d i) ag)]))):=ah
theorem X3 {m k i:Nat} {d x:Nat->Rat}:aF T pY [33] 60 tD [part uR [1,0,1,0,0]] ⟨aC tD (CW m k i),jE m d x (k+1),2⟩=
  let c10:Prop:=ag<2^41;let c9:Int:=(↑i:Int);let c6:AV:=own 1 3 0 (k+1);let c5:Nat×ax:=(1,ax.mk true true 3 (k+1) fun i=>rat (x i) ag);let c2:Nat:=m+1;let c8:AV:=own 0 3 0 (c2-k);let c7:Prop:=(0:Int)<=c9/\c9.toNat<c2-k;let c4:Nat:=c9.toNat+0;let c1:Int:=c9+1;let c3:Prop:=-(2:Int)^63<=c1/\c1<2^63;some (aj [c3] (fork (decide (c1<(↑(c2-k):Int))) (aj [c3,(0:Int)<=c1/\c1.toNat<c2-k,c1.toNat+0<c2,c7,c4<c2,c10,c10,c7,c4<c2] (aj [c3] (leaf normal ([int i64 (↑m:Int),c8,c6,int i64 (↑k:Int),int i64 c1],[c5,(0,ax.mk true true 3 c2 fun j=>rat (bif j==c4 then d (c1.toNat+0)-d c4 else d j) (bif j==c4 then ag+ag+1 else ag))])))) (leaf (exit 2) ([int i64 (↑m:Int),c8,c6,int i64 (↑k:Int),int i64 c9],[c5,(0,ax.mk true true 3 c2 fun i=>rat (d i) ag)])))):=ah
theorem Rl {m k i:Nat} {d x:Nat->Rat}:aF T pY [] 60 qf (behind uR [1,0,1]++[part vu [1,1]]) ⟨aC tD (CW m k i),jE m d x (k+1),2⟩=
  let c4:Int:=(↑(m+1-k):Int);let c3:Int:=(↑k:Int)+1;let c2:Int:=(2:Int)^63;let c1:Int:=c4-1;some (aj [-c2<=c1/\c1<c2,(0:Int)<=0/\(0:Int)<=c1/\c1<=c1/\c1<=c4] (aj [-c2<=c3/\c3<c2] (leaf normal ([int i64 (↑m:Int),own 0 3 0 (c1.toNat-Int.toNat (0:Int)),own 1 3 0 (k+1),int i64 c3],[(1,ax.mk true true 3 (k+1) fun i=>rat (x i) ag),(0,ax.mk true true 3 (m+1) fun i=>rat (d i) ag)])))):=ah
theorem QS {m k:Nat} {d x:Nat->Rat}:cG T pY [] 60 f123 [part vW [1,1,1,1,1]] ⟨aC qf (zq m k),jE m d x k,2⟩=
  some (leaf ret [ak 3 k fun i=>rat (x (i+0)) ag]):=ah
theorem Vm {n:Nat} {p:Nat->Rat}:aF T xE [] 60 [3] (before wR [1,1,0]) ⟨aQ 0 [aV p n ag],[],0⟩=
  some (aj [cV (fun i=>rat (p i) ag) n ag,(1:Nat)<=n,n<=41,qj n fun i=>aT (rat (p i) ag)] (leaf normal ([ak 3 n fun i=>rat (fy n (fun i=>aT (rat (p i) ag)) i) ag],[]))):=ah
theorem XP {n:Nat} {k:Nat->Rat}:aF T xE [9,18] 60 [3] [part wR [1,1,0,0,0]] ⟨aC [3] [aV k n ag],[],0⟩=
  let c6:Int:=(↑n:Int);let c4:Int:=(2:Int)^63;let c3:af (List AV×aD):=leaf (exit 0) ([ak 3 n fun i=>rat (k i) ag],[]);let c5:Bool:=decide (c6>0);let c2:Int:=c6-1;let c1:af (List AV×aD):=aj [-c4<=c2/\c2<c4,(0:Int)<=0/\(0:Int)<=c2/\c2<=c2/\c2<=c6] (leaf normal ([ak 3 (c2.toNat-Int.toNat (0:Int)) fun i=>rat (k (i+Int.toNat (0:Int))) ag],[]));some (fork c5 (aj [c5=true,-c4<=c2/\c2<c4,(0:Int)<=c2/\c2.toNat<n,ag<2^41] (fork (bif true then dm (k c2.toNat)==0 else false) c1 c3)) (aj [c5=false] (fork false c1 c3))):=ah
theorem Su {n:Nat} {k:Nat->Rat}:cG T xE [] 60 f61 [part wR [1,1,1]] ⟨aC [3] [aV k n ag],[],0⟩=
  some (leaf ret [ak 3 n fun i=>rat (k i) ag]):=ah
theorem Th {n:Nat} {k:Nat->Rat}:aF T j5 [] 60 [0] (before kQ [1,0]) ⟨aQ 0 [aV k n ag],[],0⟩=
  some (leaf normal ([ak 3 n fun i=>rat (k i) ag],[])):=ah
theorem NY {n:Nat} {k:Nat->Rat}:aF T j5 [6,15] 60 [0] [part kQ [1,0,0,0]] ⟨aC [0] [aV k n ag],[],0⟩=
  let c6:Int:=(↑n:Int);let c4:Int:=(2:Int)^63;let c3:af (List AV×aD):=leaf (exit 0) ([ak 3 n fun i=>rat (k i) ag],[]);let c5:Bool:=decide (c6>0);let c2:Int:=c6-1;let c1:af (List AV×aD):=aj [-c4<=c2/\c2<c4,(0:Int)<=0/\(0:Int)<=c2/\c2<=c2/\c2<=c6] (leaf normal ([ak 3 (c2.toNat-Int.toNat (0:Int)) fun i=>rat (k (i+Int.toNat (0:Int))) ag],[]));some (fork c5 (aj [c5=true,-c4<=c2/\c2<c4,(0:Int)<=c2/\c2.toNat<n,ag<2^41] (fork (bif true then dm (k c2.toNat)==0 else false) c1 c3)) (aj [c5=false] (fork false c1 c3))):=ah
theorem SP {n:Nat} {k:Nat->Rat}:cG T j5 [] 60 f151 [part kQ [1,1]] ⟨aC [0] [aV k n ag],[],0⟩=
  some (leaf ret [ak 3 n fun i=>rat (k i) ag]):=ah
theorem tO:bI P j5:=fu iE
theorem V6:bI P xF:=fu (aI yV iE)
theorem aaD {n i:Nat} (h:i<n):((bn n i:Int):Rat)*((((n:Int)-(i:Int):Int):Rat)/(((i:Int)+1:Int):Rat))=((bn n (i+1):Int):Rat):=by
 have h1:=w8 n i
 have h2:(((i:Int)+1:Int):Rat)≠0:=by
  intro h0
  have:((i:Int)+1:Int)=0:=by exact_mod_cast h0
  omega
 have h3:((bn n (i+1):Int):Rat)*(((i:Int)+1:Int):Rat)=((bn n i:Int):Rat)*(((n:Int)-(i:Int):Int):Rat):=by
  rw[<-Rat.intCast_mul,<-Rat.intCast_mul]
  congr 1
  have:((bn n (i+1)*(i+1):Nat):Int)=((bn n i*(n-i):Nat):Int):=by rw[Nat.mul_comm,h1,Nat.mul_comm]
  rw[Int.natCast_mul,Int.natCast_mul,Int.natCast_sub aa]at this
  exact this
 rw[Rat.div_def,<-Rat.mul_assoc,<-h3,Rat.mul_assoc,Rat.mul_inv_cancel _ h2,Rat.mul_one]
theorem Uy {n k:Nat} (hk0:k<=n) (hn:n<=40) (K:Nat):aO P 91 K [.int .i64 n,.int .i64 k] [] (aJ (.rat ((bn n k:Int):Rat) 64) []):=by
 refine iZ (r:=aJ (.rat ((bn n k:Int):Rat) 64) []) hT V6 hm Pf rfl aX rfl [1,1,0,1] (i:=0) (y:=part uD [1,1,0,1,0,0]) (z:=part uD [1,1,1]) ah ah ah (f1:=[]) (f2:=[10]) (f3:=[]) 60 vQ 2
  (fun i:Nat=>DI n k i) (fun i=>CN ((bn n i:Int):Rat)) (fun i=>i<=k) (fun i=>i=k) (fun i=>k-i) (fun _=>⟨⟨_,Xj,?_⟩,fun i hi=>⟨_,O7,?_⟩,fun i hi=>⟨_,ack,?_⟩⟩) K []
 ·simp only[af.all,az]
  exact⟨⟨aa,aa,aa⟩,0,Nat.zero_le _,[(0,0),(1,8192)],rfl,rfl,rfl,jt rfl rfl (.inr ⟨rfl,dj (by rw[od];rfl) (by decide)⟩) (cZ trivial)⟩
 ·have h1:=xj (n:=n) (k:=i+1) hn
  simp only[af.all,az,bz,bB]
  refine⟨fun h=>⟨⟨aa,aa,aa,aa,aa,aa,aa,aa,aa,aa⟩,aa,i+1,aa,by dsimp only;omega,[(0,0),(1,1)],rfl,by rw[show(i:Int)+1=((i+1:Nat):Int) by omega];rfl,rfl,jt rfl rfl (.inr ⟨rfl,dF (aaD aa) (zI (y:=0) aa aa)⟩) (cZ trivial)⟩,fun h=>⟨rfl,i,aa,[(0,0),(1,1)],rfl,rfl,rfl,cZ (cZ trivial)⟩⟩
 ·subst hi
  simp only[af.all,az]
  exact⟨⟨aa,aa⟩,aa,.refl _⟩
theorem Ba:aY P xZ 91:=by
 refine cD fun K args r hk hs _=>?_
 split at hs
 ·rename_i n k
  simp only[ay]at hs
  subst hs
  intro hn
  have h1:0<=k:=hn.1
  have h2:k<=n:=hn.2.1
  have h3:n<=40:=hn.2.2
  have:=Uy (n:=n.toNat) (k:=k.toNat) aa aa K
  rw[Int.toNat_of_nonneg h1,Int.toNat_of_nonneg aa]at this
  exact this trivial
 ·simp at hs
theorem IJ:bI P pY:=fu (aI Ba iE)
theorem U3 {m:Nat} {p:Nat->Rat} (hm1:m<=40) (hz:qj (m+1) p) (K:Nat):aO P 123 K [aV p (m+1) ag] [] (aJ (aV (fy (m+1) p) (m+1) ag) []):=by
 refine gB (r:=aJ (aV (fy (m+1) p) (m+1) ag) []) hT IQ rfl aX rfl (fun _ cx h0=>?_) K []
 have hk:=j9 h0
 have hW:=dw
 have hd:∀k i,k+i<=m->Sz (eW p k i) ag:=fun k i h=>hz.1 k i aa
 refine au.ov hT IJ hm (x:=vW) [1,1,1,1,0,1] (i:=0) (y:=vu) (z:=part vW [1,1,1,1,1]) ah ah ah IQ.dst [1,0] (j:=1) (x1:=uR) (zb:=part vu [1,1]) ah ah ah [1,0,1] (i2:=2) (y2:=part uR [1,0,1,0,0]) ah ah rfl hk
  (f1:=[]) (f2:=[16]) (f3:=[]) (f4:=[33]) (f5:=[]) 60 qf tD 2 2 (fun k:Nat=>zq m k) (fun k=>jE m (jq m p k) (fy (m+1) p) k) (fun k=>k<=m+1) (fun k=>k=m+1) (fun k=>m+1-k) (fun k=>k<m+1) (fun _=>False) (fun _=>False)
  (fun k (i:Nat)=>CW m k i) (fun k i=>jE m (gL m p k i) (fy (m+1) p) (k+1)) (fun k i=>i<=m-k) (fun k i=>i=m-k) (fun k i=>m-k-i)
  ⟨_,WZ,?_⟩ (fun k hk=>⟨_,Rx,?_⟩) (fun k hk hG=>⟨_,NS,?_⟩) (fun k hk hG i hi=>⟨_,X3,?_⟩) (fun k hk hG i hi=>⟨_,Rl,?_⟩) (fun k hk=>?_) (fun _ _ h=>h.elim) (fun _ _ h=>h.elim)
 ·simp only[af.all,az]
  refine⟨aa,aa,0,aa,[(0,28672)],rfl,?_,rfl,kP rfl aa aa (bg rfl rfl aa (fun i hi=>bH rfl ?_) trivial)⟩
  ·rw[show((m+1:Nat):Int)-1=(m:Nat) by omega,show 0+(m+1)=m+1-0 by omega];rfl
  ·show AV.rat (p i) ag=AV.rat (jq m p 0 i) ag
   unfold jq;rw[Nat.zero_min];rfl
 ·simp only[af.all,az,bz,bB]
  exact⟨fun h=>⟨aa,[(0,0),(1,1)],rfl,rfl,rfl,bg rfl rfl rfl (fun i hi=>bH rfl rfl) (bg rfl rfl rfl (fun i hi=>bH rfl rfl) trivial)⟩,fun h=>⟨rfl,k,aa,[(0,0),(1,1)],rfl,rfl,rfl,bg rfl rfl rfl (fun i hi=>bH rfl rfl) (bg rfl rfl rfl (fun i hi=>bH rfl rfl) trivial)⟩⟩
 ·simp only[af.all,az,bw]
  have e0:(0:Int).toNat=0:=rfl
  refine⟨aa,0,aa,[(0,0),(1,36866)],rfl,rfl,rfl,bg rfl rfl rfl (fun i hi=>?_) (bg rfl rfl rfl (fun i hi=>bH rfl ?_) trivial)⟩
  ·refine .inr ⟨?_,?_⟩
   ·split
    ·rfl
    ·rw[show i-k+0=0 by omega];rfl
   ·split
    ·exact .refl _
    ·rw[show i-k+0=0 by omega,show i=k by omega]
     exact dF (by rw[Ah aa];rfl) (hz.2 k hG)
  ·show AV.rat (jq m p k i) ag=AV.rat (gL m p k 0 i) ag
   unfold gL;rw[if_neg (Nat.not_lt_zero i)]
 ·simp only[af.all,az,bz,bB,bw,Nat.add_zero]
  have e1:((i:Int)+1).toNat=i+1:=aa
  rw[e1]
  refine⟨aa,fun h=>⟨aa,aa,i+1,aa,by dsimp only;omega,[(0,0),(1,1)],rfl,rfl,rfl,bg rfl rfl rfl (fun j hj=>bH rfl rfl) (bg rfl rfl rfl (fun j hj=>?_) trivial)⟩,fun h=>⟨rfl,i,aa,[(0,0),(1,1)],rfl,rfl,rfl,bg rfl rfl rfl (fun j hj=>bH rfl rfl) (bg rfl rfl rfl (fun j hj=>bH rfl rfl) trivial)⟩⟩
  have h3:=fun j=>E2 (m:=m) (k:=k) (i:=i) (j:=j) (p:=p) aa
  exact kM (x:=gL m p k i) (y:=gL m p k (i+1)) (dF ((if_pos rfl).symm.trans (h3 i)) (by unfold gL;rw[if_pos (Nat.lt_succ_self i)];exact hd _ _ aa)) fun hj=>dj ((if_neg hj).symm.trans (h3 j)) aP
 ·subst hi
  simp only[af.all,az]
  refine⟨aa,aa,k+1,aa,by dsimp only;omega,[(0,0),(1,1)],rfl,?_,rfl,bg rfl rfl rfl (fun j hj=>bH rfl rfl) (bg rfl rfl rfl (fun j hj=>bH rfl ?_) trivial)⟩
  ·rw[show(((m+1-k:Nat):Int)-1).toNat-(0:Int).toNat=m+1-(k+1) by omega];rfl
  ·show AV.rat (gL m p k (m-k) j) ag=AV.rat (jq m p (k+1) j) ag
   rw[EY]
 ·subst hk
  exact au.kG ((aE.fin hT IJ hm 60 QS ah (gk fun _ _=>.refl _)).mono fun _ _ h=>.inl h)
theorem TE:aY P yc 123:=dD fun⟨⟨n,p⟩,_⟩ K hn=>by
 obtain⟨h1,h2,h3⟩:=hn
 simp only at h1 h2 h3
 obtain⟨m,rfl⟩:∃m,n=m+1:=⟨n-1,aa⟩
 exact U3 aa h3 K
theorem R6:bI P xE:=fu (aI TE iE)
theorem aaT {n:Nat} {k:Nat->Rat} (hn:n<2^40) (K:Nat):aO P 151 K [aV k n ag] [] (aJ (aV k (bu k n) ag) []):=by
 have hW:=dw
 refine iZ (r:=aJ (aV k (bu k n) ag) []) hT tO hm Cf rfl aX rfl [1,0] (i:=0) (y:=part kQ [1,0,0,0]) (z:=part kQ [1,1]) ah ah ah (f1:=[]) (f2:=[6,15]) (f3:=[]) 60 [0] 0
  (fun j:Nat=>[aV k j ag]) (fun _=>[]) (fun j=>j<=n/\bu k j=bu k n) (fun j=>j=bu k n) (fun j=>j) (fun _=>⟨⟨_,Th,?_⟩,fun j hj=>⟨_,NY,?_⟩,fun j hj=>⟨_,SP,?_⟩⟩) K []
 ·simp only[af.all,az]
  exact⟨n,⟨aP,rfl⟩,dr.vals rfl⟩
 ·obtain⟨h1,h2⟩:=hj
  simp only[af.all,az,cond_true,nc,bz,bB]
  refine⟨fun h=>⟨⟨aa,aa,aa,aa⟩,fun h3=>⟨aa,j-1,⟨aa,?_⟩,by dsimp only;omega,?_⟩,fun h3=>⟨rfl,j,?_,dr.vals rfl⟩⟩,fun h=>⟨aa,fun h3=>absurd h3 (by decide),fun _=>⟨rfl,j,?_,dr.vals rfl⟩⟩⟩
  ·rw[<-h2]
   obtain⟨m,rfl⟩:∃m,j=m+1:=⟨j-1,aa⟩
   rw[show(((m+1:Nat):Int)-1).toNat=m by omega]at h3
   show bu k m=_
   rw[bu,if_pos h3]
  ·rw[show((j:Int)-1).toNat-(0:Int).toNat=j-1 by omega]
   exact dr.vals rfl
  ·rw[<-h2]
   obtain⟨m,rfl⟩:∃m,j=m+1:=⟨j-1,aa⟩
   rw[show(((m+1:Nat):Int)-1).toNat=m by omega]at h3
   exact(nC (.inr h3)).symm
  ·rw[<-h2,show j=0 by omega];rfl
 ·rw[hj];exact .refl _
theorem B6:aY P qO 151:=dD fun⟨⟨n,k⟩,_⟩ K hn=>aaT hn K
theorem acq {p:PP} (hp:mK p) (K:Nat):aO P 61 K [aK p] [] (aJ (aK (aS p)) []):=by
 have hW:=dw
 obtain⟨n,hn⟩:∃n,n=p.1:=⟨_,rfl⟩
 obtain⟨k,hk⟩:∃k,k=fy p.1 p.2:=⟨_,rfl⟩
 have e0:aS p=(bu k n,k):=by rw[hk,hn];rfl
 have h2:=hp.2.1
 rw[e0]
 refine iZ (r:=aJ (aK (bu k n,k)) []) hT R6 hm abn rfl aX rfl [1,1,0] (i:=0) (y:=part wR [1,1,0,0,0]) (z:=part wR [1,1,1]) ah ah ah (f1:=[]) (f2:=[9,18]) (f3:=[]) 60 [3] 0
  (fun j:Nat=>[aV k j ag]) (fun _=>[]) (fun j=>j<=n/\bu k j=bu k n) (fun j=>j=bu k n) (fun j=>j) (fun _=>⟨⟨_,Vm,?_⟩,fun j hj=>⟨_,XP,?_⟩,fun j hj=>⟨_,Su,?_⟩⟩) K []
 ·simp only[af.all,az]
  exact⟨⟨dg aP,hp.1,hp.2.1,hp.2.2⟩,n,⟨aP,rfl⟩,by rw[hk,hn];exact dr.vals rfl⟩
 ·obtain⟨h1,h2⟩:=hj
  simp only[af.all,az,cond_true,nc,bz,bB]
  refine⟨fun h=>⟨⟨aa,aa,aa,aa⟩,fun h3=>⟨aa,j-1,⟨aa,?_⟩,by dsimp only;omega,?_⟩,fun h3=>⟨rfl,j,?_,dr.vals rfl⟩⟩,fun h=>⟨aa,fun h3=>absurd h3 (by decide),fun _=>⟨rfl,j,?_,dr.vals rfl⟩⟩⟩
  ·rw[<-h2]
   obtain⟨m,rfl⟩:∃m,j=m+1:=⟨j-1,aa⟩
   rw[show(((m+1:Nat):Int)-1).toNat=m by omega]at h3
   show bu k m=_
   rw[bu,if_pos h3]
  ·rw[show((j:Int)-1).toNat-(0:Int).toNat=j-1 by omega]
   exact dr.vals rfl
  ·rw[<-h2]
   obtain⟨m,rfl⟩:∃m,j=m+1:=⟨j-1,aa⟩
   rw[show(((m+1:Nat):Int)-1).toNat=m by omega]at h3
   exact(nC (.inr h3)).symm
  ·rw[<-h2,show j=0 by omega];rfl
 ·rw[hj];exact .refl _
theorem YT:aY P tG 61:=dD fun⟨a,_⟩ K hn=>acq hn K
def pV:bp:=zG::(91,xZ)::(93,g8 kR kR uz mc)::ic
abbrev vF:Code:=aG f96
abbrev uJ:Code:=part vF [1,1,1,1,0,1,0,0]
abbrev um:Code:=part uJ [1,0,0]
abbrev qJ:List Nat:=[0,4,5,6]
abbrev zW (m:Nat) (c:Nat->Rat) (i:Nat):List AV:=[aV c (m+1) ag,.int .i64 m,.own 0 3 0 i,.int .i64 i]
abbrev uh:List Nat:=[0,4,5,6,7,8]
abbrev Bq (m:Nat) (c:Nat->Rat) (i k:Nat):List AV:=[aV c (m+1) ag,.int .i64 m,.own 0 3 0 i,.int .i64 i,.ptr 1 0 3 0 [],.int .i64 k]
def Ct:Spec:=dU (kC (kL ag) kN) (fun a=>.tuple [aV (eR a.1.1 a.1.2) a.1.1 ag,.int .i64 0]) fun a=>[1<=a.1.1,a.1.1<=41,iy a.1.1 a.1.2]
def Fm:bp:=zG::(151,qO)::(96,Ct)::ic
theorem Fs:aZ 96 f96:=bf func96
theorem Zh:aZ 98 f98:=bf func98
theorem PY {m:Nat} {c:Nat->Rat}:aF T pV [200014,200017] 60 qJ (before vF [1,1,1,1,0,1]) ⟨aQ 0 [aV c (m+1) ag],[],0⟩=
  let c1:Int:=(↑(m+1):Int)-1;some (aj [-(2:Int)^63<=c1/\c1<2^63] (aj [decide (c1<0)=false] (aj [(bif false then true else decide (c1>40))=false] (leaf normal ([ak 3 (m+1) fun i=>rat (c i) ag,int i64 c1,nil,int i64 0],[]))))):=ah
theorem abb {m i:Nat} {c x:Nat->Rat}:aF T pV [20] 60 qJ (before uJ [1,0]) ⟨aC qJ (zW m c i),[(0,bS i x ag)],1⟩=
  let c1:List AV×aD:=([ak 3 (m+1) fun i=>rat (c i) ag,int i64 (↑m:Int),own 0 3 0 i,int i64 (↑i:Int)],[(0,ax.mk true true 3 i fun i=>rat (x i) ag)]);some (fork (decide ((↑i:Int)<=(↑m:Int))) (leaf normal c1) (leaf (exit 0) c1)):=ah
theorem S2 {m i:Nat} {c x:Nat->Rat}:aF T pV [] 60 uh (before um [1,0,1]) ⟨aC qJ (zW m c i),[(0,bS i x ag)],1⟩=
  some (leaf normal ([ak 3 (m+1) fun i=>rat (c i) ag,int i64 (↑m:Int),own 0 3 0 i,int i64 (↑i:Int),ptr 1 0 3 0 [],int i64 0],[((1:Nat),fM fun x=>rat 0 1),(0,ax.mk true true 3 i fun i=>rat (x i) ag)])):=ah
theorem aaM {m i k:Nat} {c x:Nat->Rat} {q:Rat}:aF T pV [25] 60 uh [part um [1,0,1,0,0]] ⟨aC uh (Bq m c i k),[(1,tR q ag),(0,bS i x ag)],2⟩=
  let c9:Int:=(↑m:Int);let c8:AV:=own 0 3 0 i;let c7:Nat:=64+64;let c6:Int:=(↑i:Int);let c5:AV:=ptr 1 0 3 0 [];let c4:AV:=ak 3 (m+1) fun i=>rat (c i) ag;let c3:Nat×ax:=(0,ax.mk true true 3 i fun i=>rat (x i) ag);let c2:Nat:=2^41;let c1:Int:=(↑k:Int);let c11:Prop:=(0:Int)<=c1;let c10:Int:=c1+1;some (fork (decide (c1<=c6)) (aj [(0:Nat)<1,c11,c1<=c6,c6<=40,c11,c1<=c9,c9<=40,(64:Nat)<c2,(64:Nat)<c2,c11/\c1.toNat<m+1,c7<c2,ag<c2,ag<c2,c7+ag<c2,(0:Nat)<1] (aj [-(2:Int)^63<=c10/\c10<2^63] (leaf normal ([c4,int i64 c9,c8,int i64 c6,c5,int i64 c10],[((1:Nat),fM fun j=>if(j==0)=true then dL (uv (q,ag) ((↑(↑(bn c6.toNat c1.toNat):Int):Rat)/(↑(↑(bn c9.toNat c1.toNat):Int):Rat)*c c1.toNat,c7+ag))else rat q ag),c3])))) (leaf (exit 2) ([c4,int i64 c9,c8,int i64 c6,c5,int i64 c1],[((1:Nat),fM fun x=>rat q ag),c3]))):=ah
theorem adt {m i k:Nat} {c x:Nat->Rat} {q:Rat}:aF T pV [] 60 qJ (behind um [1,0,1]++[part uJ [1,1]]) ⟨aC uh (Bq m c i k),[(1,tR q ag),(0,bS i x ag)],2⟩=
  let c1:Int:=(↑i:Int)+1;some (aj [(0:Nat)<1,(1:Nat)*3<=2^24,(i+1)*((56:Nat)+1)*2<=2^47] (aj [-(2:Int)^63<=c1/\c1<2^63] (leaf normal ([ak 3 (m+1) fun i=>rat (c i) ag,int i64 (↑m:Int),own 12290 3 0 (i+1),int i64 c1],[(12290,ax.mk true true 3 (i+1) fun i_1=>if i_1<i then rat (x i_1) ag else nth [rat q ag] (rat 0 1) (i_1-i+0))])))):=ah
theorem ZA {m i:Nat} {c x:Nat->Rat}:cG T pV [] 60 f96 [part vF [1,1,1,1,1]] ⟨aC qJ (zW m c i),[(0,bS i x ag)],1⟩=
  some (leaf ret [ak 3 i fun i=>rat (x (i+0)) ag,int i64 0]):=ah
theorem TT {a:PP}:bT T Fm [9] 60 f98 (aG f98) ⟨aQ 0 [aK a],[],0⟩=
  some (aj [aR a,a.1<2^40] (fork (((bu a.2 a.1:Nat):Int)==0) (aj [(1:Nat)*3<=2^24] (leaf ret [ak 3 1 fun i=>nth [agg [AV.bool (decide ((0:Rat)<0)),mag (0:Int).natAbs,mag (if 1=1 then 0 else 1)]] (rat 0 1) (i+0)])) (aj [aR (bu a.2 a.1,a.2),1<=bu a.2 a.1,bu a.2 a.1<=41,iy (bu a.2 a.1) a.2] (leaf ret [aV (eR (bu a.2 a.1) a.2) (bu a.2 a.1) ag])))):=ah
theorem FR:bI P pV:=fu (aI Ba (aI (iG fun _ _ K hn=>xK hn.1 hn.2 K) iE))
theorem SL {m:Nat} {c:Nat->Rat} (hm1:m<=40) (hz:iy (m+1) c) (K:Nat):aO P 96 K [aV c (m+1) ag] [] (aJ (.tuple [aV (eR (m+1) c) (m+1) ag,.int .i64 0]) []):=by
 refine gB (r:=aJ (.tuple [aV (eR (m+1) c) (m+1) ag,.int .i64 0]) []) hT Fs rfl aX rfl (fun _ cx h0=>?_) K []
 have hk:=j9 h0
 have hW:=dw
 refine au.ov hT FR hm (x:=vF) [1,1,1,1,0,1] (i:=0) (y:=uJ) (z:=part vF [1,1,1,1,1]) ah ah ah Fs.dst [1,0] (j:=1) (x1:=um) (zb:=part uJ [1,1]) ah ah ah [1,0,1] (i2:=2) (y2:=part um [1,0,1,0,0]) ah ah rfl hk
  (f1:=[200014,200017]) (f2:=[20]) (f3:=[]) (f4:=[25]) (f5:=[]) 60 qJ uh 1 2 (fun i:Nat=>zW m c i) (fun i=>[(0,bS i (eR (m+1) c) ag)]) (fun i=>i<=m+1) (fun i=>i=m+1) (fun i=>m+1-i) (fun i=>i<m+1) (fun _=>False) (fun _=>False)
  (fun i (k:Nat)=>Bq m c i k) (fun i k=>[(1,tR (jm (m+1) c i k) ag),(0,bS i (eR (m+1) c) ag)]) (fun i k=>k<=i+1) (fun i k=>k=i+1) (fun i k=>i+1-k)
  ⟨_,PY,?_⟩ (fun i hi=>⟨_,abb,?_⟩) (fun i hi hG=>⟨_,S2,?_⟩) (fun i hi hG k hk=>⟨_,aaM,?_⟩) (fun i hi hG k hk=>⟨_,adt,?_⟩) (fun i hi=>?_) (fun _ _ h=>h.elim) (fun _ _ h=>h.elim)
 ·simp only[af.all,az,cond_false,bB]
  exact⟨aa,aa,aa,0,aa,[],rfl,by rw[show((m+1:Nat):Int)-1=(m:Nat) by omega];rfl,rfl,kP rfl aa aa trivial⟩
 ·simp only[af.all,az,bz,bB]
  exact⟨fun h=>⟨aa,[(0,0)],rfl,rfl,rfl,bg rfl rfl rfl (fun i hi=>bH rfl rfl) trivial⟩,fun h=>⟨rfl,i,aa,[(0,0)],rfl,rfl,rfl,bg rfl rfl rfl (fun i hi=>bH rfl rfl) trivial⟩⟩
 ·simp only[af.all,az]
  exact⟨0,aa,[(0,0),(1,1)],rfl,rfl,rfl,jt rfl rfl (.inr ⟨rfl,dj rfl aa⟩) (bg rfl rfl rfl (fun i hi=>bH rfl rfl) trivial)⟩
 ·simp only[af.all,az,bz,bB,bw]
  exact⟨fun h=>⟨aa,aa,k+1,aa,by dsimp only;omega,[(0,0),(1,1)],rfl,rfl,rfl,jt rfl rfl (.inr ⟨rfl,dF rfl (hz i (k+1) hG aa)⟩) (bg rfl rfl rfl (fun i hi=>bH rfl rfl) trivial)⟩,fun h=>⟨rfl,k,aa,[(0,0),(1,1)],rfl,rfl,rfl,cZ (bg rfl rfl rfl (fun i hi=>bH rfl rfl) trivial)⟩⟩
 ·subst hk
  simp only[af.all,az]
  refine⟨aa,aa,i+1,aa,by dsimp only;omega,[(0,12290)],rfl,rfl,rfl,bg rfl rfl rfl (fun j hj=>?_) trivial⟩
  by_cases h:j<i
  ·rw[if_pos h];exact bH rfl rfl
  ·rw[if_neg h,show j-i+0=0 by omega,show j=i by omega];exact bH rfl rfl
 ·subst hi
  refine au.kG ((aE.fin hT FR hm 60 ZA ah ?_).mono fun _ _ h=>.inl h)
  exact⟨.refl _,.refl _,trivial⟩
theorem JD:aY P Ct 96:=dD fun⟨⟨n,p⟩,_⟩ K hn=>by
 obtain⟨h1,h2,h3⟩:=hn
 simp only at h1 h2 h3
 obtain⟨m,rfl⟩:∃m,n=m+1:=⟨n-1,aa⟩
 exact SL aa h3 K
theorem Uj:bI P Fm:=fu (aI B6 (aI JD iE))
theorem Oh {a:PP} (ta:Trim a) (hz:Cg a) (K:Nat):aO P 98 K [aK a] [] (aJ (aK (A3 a)) []):=by
 have e0:bu a.2 a.1=a.1:=nC ta
 have hl:=hz.1
 refine cj hT Uj hm Zh rfl aX rfl 60 TT (fun _=>?_) K []
 rw[e0]
 simp only[af.all,az,beq_iff_eq,beq_eq_false_iff_ne]
 refine⟨⟨gN,aa⟩,fun h=>⟨aa,?_⟩,fun h=>⟨⟨gN,aa,hz.1,hz.2⟩,?_⟩⟩
 ·have h0:a.1=0:=aa
  show bA _ (aV (xb a.1 a.2) (rZ a.1) ag)
  rw[h0]
  refine gk (n:=1) fun i hi=>?_
  obtain rfl:i=0:=aa
  exact mb
 ·have e1:rZ a.1=a.1:=if_neg aa
  show bA _ (aV (xb a.1 a.2) (rZ a.1) ag)
  rw[e1]
  exact gk fun i hi=>dj (if_neg (show¬a.1=0 by omega)).symm aP
def Gh:Spec:=dU (kC (kL ag) kN) (fun a=>aK (A3 a.1)) fun a=>[Trim a.1,Cg a.1]
theorem Wo:aY P Gh 98:=dD fun⟨a,_⟩ K hn=>Oh hn.1 hn.2 K
def qU:bp:=zG::(151,qO)::(93,g8 kR kR uz mc)::ic
abbrev wv:Code:=aG f152
abbrev u5:List Nat:=[0,3,4]
abbrev El (n:Nat) (c:Nat->Rat) (i:Nat):List AV:=[aV c n ag,.own 0 3 0 i,.int .i64 i]
abbrev wI:Code:=aG f125
theorem V5:aZ 152 f152:=bf func152
theorem Nk:aZ 125 f125:=bf func125
theorem UG {n:Nat} {c:Nat->Rat}:aF T qU [] 60 u5 (before wv [1,1,1,0,1]) ⟨aQ 0 [aV c n ag],[],0⟩=
  some (aj [cV (fun i=>rat (c i) ag) n ag,n<2^40] (leaf normal ([ak 3 (bu (fun i=>aT (rat (c i) ag)) n) fun i=>rat (aT (rat (c i) ag)) ag,nil,int i64 0],[]))):=ah
theorem S7 {n i:Nat} {c x:Nat->Rat}:aF T qU [10] 60 u5 [part wv [1,1,1,0,1,0,0]] ⟨aC u5 (El n c i),[(0,bS i x ag)],1⟩=
  let c5:Prop:=ag<2^41;let c4:AV:=ak 3 n fun i=>rat (c i) ag;let c3:Int:=(↑i:Int);let c2:Int:=(2:Int)^63;let c1:Int:=(↑n:Int)-1;let c6:Int:=c3+1;some (fork (decide (c3<(↑n:Int))) (aj [(0:Int)<=c3/\c3.toNat<n,-c2<=c1/\c1<c2,(0:Int)<=c1/\c1.toNat<n,c5,c5,(1:Nat)*3<=2^24,(i+1)*((56:Nat)+1)*2<=2^47] (aj [-c2<=c6/\c6<c2] (leaf normal ([c4,own 69633 3 0 (i+1),int i64 c6],[(69633,ax.mk true true 3 (i+1) fun i_1=>if i_1<i then rat (x i_1) ag else nth [rat (c c3.toNat/c c1.toNat) (ag+ag)] (rat 0 1) (i_1-i+0))])))) (leaf (exit 0) ([c4,own 0 3 0 i,int i64 c3],[(0,ax.mk true true 3 i fun i=>rat (x i) ag)]))):=ah
theorem aaw {n i:Nat} {c x:Nat->Rat}:cG T qU [] 60 f152 [part wv [1,1,1,1]] ⟨aC u5 (El n c i),[(0,bS i x ag)],1⟩=
  some (leaf ret [ak 3 i fun i=>rat (x (i+0)) ag]):=ah
theorem P7 {n:Nat} {c:Nat->Rat}:aF T qU [] 60 mq (before wI [1,1,0,1]) ⟨aQ 0 [aV c n ag],[],0⟩=
  some (leaf normal ([ak 3 n fun i=>rat (c i) ag,nil,int i64 1],[])):=ah
theorem YH {n i:Nat} {c x:Nat->Rat}:aF T qU [8] 60 mq [part wI [1,1,0,1,0,0]] ⟨aC mq (s9 n c i),[(0,bS i x ag)],1⟩=
  let c5:Nat:=i+1;let c3:AV:=ak 3 n fun i=>rat (c i) ag;let c2:Int:=(2:Int)^63;let c1:Int:=(↑c5:Int);let c6:Int:=c1+1;let c4:Nat:=Max.max 1 (bJ c1.natAbs);some (fork (decide (c1<(↑n:Int))) (aj [-c2<=c1,c1<c2,(0:Int)<=c1/\c1.toNat<n,c4<2^41,ag<2^41,(1:Nat)*3<=2^24,c5*((56:Nat)+1)*2<=2^47] (aj [-c2<=c6/\c6<c2] (leaf normal ([c3,own 53249 3 0 c5,int i64 c6],[(53249,ax.mk true true 3 c5 fun i_1=>if i_1<i then rat (x i_1) ag else nth [rat ((↑c1:Rat)*c c1.toNat) (c4+ag)] (rat 0 1) (i_1-i+0))])))) (leaf (exit 0) ([c3,own 0 3 0 i,int i64 c1],[(0,ax.mk true true 3 i fun i=>rat (x i) ag)]))):=ah
theorem Sm {n i:Nat} {c x:Nat->Rat}:cG T qU [] 60 f125 [part wI [1,1,1]] ⟨aC mq (s9 n c i),[(0,bS i x ag)],1⟩=
  some (aj [cV (fun i=>rat (x (i+0)) ag) i ag,i<2^40] (leaf ret [ak 3 (bu (fun i=>aT (rat (x (i+0)) ag)) i) fun i=>rat (aT (rat (x (i+0)) ag)) ag])):=ah
theorem adp {n m:Nat} {x:Nat->Rat}:aF T j5 [] 60 [0] (before kQ [1,0]) ⟨aQ 0 [.own 0 3 0 n],[(0,bS m x ag)],1⟩=
  some (leaf normal ([own 0 3 0 n],[(0,ax.mk true true 3 m fun i=>rat (x i) ag)])):=ah
theorem TG {n m:Nat} {x:Nat->Rat}:aF T j5 [6,15] 60 [0] [part kQ [1,0,0,0]] ⟨aC [0] [.own 0 3 0 n],[(0,bS m x ag)],1⟩=
  let c7:Int:=(↑n:Int);let c4:Int:=(2:Int)^63;let c3:Nat×ax:=(0,ax.mk true true 3 m fun i=>rat (x i) ag);let c6:af (List AV×aD):=leaf (exit 0) ([own 0 3 0 n],[c3]);let c5:Bool:=decide (c7>0);let c2:Int:=c7-1;let c1:af (List AV×aD):=aj [-c4<=c2/\c2<c4,(0:Int)<=0/\(0:Int)<=c2/\c2<=c2/\c2<=c7] (leaf normal ([own 0 3 0 (c2.toNat-Int.toNat (0:Int))],[c3]));some (fork c5 (aj [c5=true,-c4<=c2/\c2<c4,(0:Int)<=c2/\c2.toNat<n,c2.toNat+0<m,ag<2^41] (fork (bif true then dm (x (c2.toNat+0))==0 else false) c1 c6)) (aj [c5=false] (fork false c1 c6))):=ah
theorem Yu {n m:Nat} {x:Nat->Rat}:aF T j5 [] 60 [2] [part kQ [1,1]] ⟨aC [0] [.own 0 3 0 n],[(0,bS m x ag)],1⟩=
  some (leaf ret ([own 0 3 0 n],[(0,ax.mk true true 3 m fun i=>rat (x i) ag)])):=ah
theorem Mg:bI P qU:=fu (aI B6 (aI (iG fun _ _ K hn=>xK hn.1 hn.2 K) iE))
theorem SR {a:PP} (hn:a.1<2^40) (ta:Trim a) (hz:cB a.1 (cE a.1 a.2)) (K:Nat):aO P 152 K [aK a] [] (aJ (aK (dM a)) []):=by
 have hW:=dw
 have e0:bu a.2 a.1=a.1:=nC ta
 refine iZ (r:=aJ (aK (dM a)) []) hT Mg hm V5 rfl aX rfl [1,1,1,0,1] (i:=0) (y:=part wv [1,1,1,0,1,0,0]) (z:=part wv [1,1,1,1]) ah ah ah (f1:=[]) (f2:=[10]) (f3:=[]) 60 u5 1
  (fun i:Nat=>El a.1 a.2 i) (fun i=>[(0,bS i (cE a.1 a.2) ag)]) (fun i=>i<=a.1) (fun i=>i=a.1) (fun i=>a.1-i) (fun _=>⟨⟨_,UG,?_⟩,fun i hi=>⟨_,S7,?_⟩,fun i hi=>⟨_,aaw,?_⟩⟩) K []
 ·simp only[af.all,az]
  exact⟨⟨dg aP,hn⟩,0,Nat.zero_le _,[],rfl,by have e1:bu (fun i=>aT (.rat (a.2 i) ag)) a.1=a.1:=e0;rw[e1];rfl,rfl,kP rfl aa aa trivial⟩
 ·simp only[af.all,az,bz,bB,bw]
  refine⟨fun h=>⟨aa,aa,i+1,aa,by dsimp only;omega,[(0,69633)],rfl,?_,rfl,bg rfl rfl rfl (fun j hj=>?_) trivial⟩,fun h=>⟨rfl,i,aa,[(0,0)],rfl,rfl,rfl,bg rfl rfl rfl (fun j hj=>bH rfl rfl) trivial⟩⟩
  ·rw[show(i:Int)+1=((i+1:Nat):Int) by omega];rfl
  ·by_cases h2:j<i
   ·rw[if_pos h2];exact bH rfl rfl
   ·rw[if_neg h2,show j-i+0=0 by omega,show j=i by omega,show((a.1:Int)-1).toNat=a.1-1 by omega]
    exact .inr ⟨rfl,dF rfl (hz i aa)⟩
 ·subst hi;exact .refl _
def DV:Spec:=dU (kC (kL ag) kN) (fun a=>aK (dM a.1)) fun a=>[a.1.1<2^40,Trim a.1,cB a.1.1 (cE a.1.1 a.1.2)]
theorem LH:aY P DV 152:=dD fun⟨a,_⟩ K hn=>SR hn.1 hn.2.1 hn.2.2 K
theorem aai {n:Nat} {c:Nat->Rat} (hn:n<2^40) (hz:cB (n-1) (cM c)) (K:Nat):aO P 125 K [aV c n ag] [] (aJ (aV (cM c) (bu (cM c) (n-1)) ag) []):=by
 have hW:=dw
 refine iZ (r:=aJ (aV (cM c) (bu (cM c) (n-1)) ag) []) hT Mg hm Nk rfl aX rfl [1,1,0,1] (i:=0) (y:=part wI [1,1,0,1,0,0]) (z:=part wI [1,1,1]) ah ah ah (f1:=[]) (f2:=[8]) (f3:=[]) 60 mq 1
  (fun i:Nat=>s9 n c i) (fun i=>[(0,bS i (cM c) ag)]) (fun i=>i<=n-1) (fun i=>i=n-1) (fun i=>n-1-i) (fun _=>⟨⟨_,P7,?_⟩,fun i hi=>⟨_,YH,?_⟩,fun i hi=>⟨_,Sm,?_⟩⟩) K []
 ·simp only[af.all,az]
  exact⟨0,aa,[],rfl,rfl,rfl,kP rfl aa aa trivial⟩
 ·have hb:(max 1 (bJ ((i+1:Nat):Int).natAbs))<=64:=by
   rw[Int.natAbs_natCast]
   have:=jh (x:=i+1) (k:=64)|>.2 aa
   omega
  simp only[af.all,az,bz,bB,bw]
  refine⟨fun h2=>⟨aa,aa,i+1,aa,by dsimp only;omega,[(0,53249)],rfl,?_,rfl,bg rfl rfl rfl (fun j hj=>?_) trivial⟩,fun h2=>⟨rfl,i,aa,[(0,0)],rfl,rfl,rfl,bg rfl rfl rfl (fun j hj=>bH rfl rfl) trivial⟩⟩
  ·rw[show((i+1:Nat):Int)+1=((i+1+1:Nat):Int) by omega];rfl
  ·refine .inr ⟨?_,?_⟩
   ·split
    ·rfl
    ·rw[show j-i+0=0 by omega];rfl
   ·split
    ·exact .refl _
    ·rw[show j-i+0=0 by omega,show j=i by omega]
     exact dF rfl (hz i aa)
 ·subst hi
  simp only[af.all,az]
  exact⟨⟨dg aP,aa⟩,.refl _⟩
theorem K6:aY P pX 125:=dD fun⟨⟨n,c⟩,_⟩ K hn=>aai hn.1 hn.2 K
theorem Mr {kk n m:Nat} {x:Nat->Rat} (hn:n<2^40) (hnm:n<=m) (c:Ctx) (hk:Kept [0] c):au P c f151.ntmps kQ ⟨aQ 0 [.own 0 3 0 n],[(0,bS m x ag)],1⟩ (Bc f151 kk [.own kk 3 0 (bu x n)] (bS m x ag)):=by
 have hW:=dw
 have re:∀j,dr [0] ([.own 0 3 0 j],[((0:Nat),bS m x ag)]) [.own 0 3 0 j] [(0,bS m x ag)] 1:=fun j=>⟨[(0,0)],rfl,rfl,rfl,k8 trivial⟩
 refine au.nP hT tO hm [1,0] (i:=0) (y:=part kQ [1,0,0,0]) (z:=part kQ [1,1]) ah ah ah Cf.dst hk (f1:=[]) (f2:=[6,15]) 60 [0] 1
  (fun j:Nat=>[.own 0 3 0 j]) (fun _=>[(0,bS m x ag)]) (fun j=>j<=n/\bu x j=bu x n) (fun j=>j=bu x n) (fun j=>j) (fun _=>False) ⟨_,adp,?_⟩ (fun j hj=>⟨_,TG,?_⟩) (fun j hj=>?_) (fun _ _ h=>h.elim)
 ·simp only[af.all,az]
  exact⟨n,⟨aP,rfl⟩,re n⟩
 ·obtain⟨h1,h2⟩:=hj
  simp only[af.all,az,cond_true,nc,bz,bB,Nat.add_zero]
  refine⟨fun h=>⟨⟨aa,aa,aa,aa,aa⟩,fun h3=>⟨aa,j-1,⟨aa,?_⟩,by dsimp only;omega,?_⟩,fun h3=>⟨rfl,j,?_,re j⟩⟩,fun h=>⟨aa,fun h3=>absurd h3 (by decide),fun _=>⟨rfl,j,?_,re j⟩⟩⟩
  ·rw[<-h2]
   obtain⟨m,rfl⟩:∃m,j=m+1:=⟨j-1,aa⟩
   rw[show(((m+1:Nat):Int)-1).toNat=m by omega]at h3
   show bu x m=_
   rw[bu,if_pos h3]
  ·rw[show((j:Int)-1).toNat-(0:Int).toNat=j-1 by omega]
   exact re (j-1)
  ·rw[<-h2]
   obtain⟨m,rfl⟩:∃m,j=m+1:=⟨j-1,aa⟩
   rw[show(((m+1:Nat):Int)-1).toNat=m by omega]at h3
   exact(nC (.inr h3)).symm
  ·rw[<-h2,show j=0 by omega];rfl
 ·subst hj
  exact au.bD hT tO hm 60 [2] Yu ah fun s' hs'=>⟨.inr rfl,[2],_,[.own 0 3 0 (bu x n)],_,_,hs',ah,⟨⟨rfl,dB (by simp[aW,look]) rfl rfl⟩,trivial⟩,rfl,fZ rfl fun i hi=>gh rfl⟩
theorem XF:aY P tN 151:=by
 intro K args pre r h
 unfold tN at h
 split at h
 ·rename_i k n k' m f
  split at h
  ·rename_i hc
   have hc:=eq_of_beq hc
   subst hc
   simp only[ay]at h
   subst h
   intro need
   have h0:=need
   obtain⟨n1,n2,n3⟩:=need
   exact Eu hT Cf (rest:=[]) (ws:=[.own k' 3 0 _]) (o2:=⟨true,true,3,m,f⟩) (o:=bS m (fun i=>aT (f i)) ag) rfl rfl aX (fun ρ=>fZ rfl fun i hi=>gT (n3 i hi).1 (n3 i hi).2) (fun _ c hk=>Mr n2 n1 c hk) K h0
  ·simp at h
 ·simp at h
theorem Po:aY P rj 151:=by
 intro K args pre r h
 unfold rj at h
 split at h
 ·rename_i h1
  exact XF K args pre r (h1.trans h)
 ·exact B6 K args pre r h
def mV:bp:=zG::(151,rj)::(93,g8 kR kR uz mc)::ic
abbrev nV:Code:=aG f97
abbrev vO:Code:=part nV [1,1,1,1,0,1,0,0]
abbrev r9:Code:=part vO [1,0,0]
abbrev lV:List Nat:=[1,6,7,8]
abbrev sk (n e:Nat) (d:Nat->Rat) (j:Nat):List AV:=[aV d (e+1) ag,.own 0 3 0 n,.own 1 3 0 (n-e),.int .i64 ((n:Int)-((e:Int)+1)-(j:Int))]
abbrev oM (n e:Nat) (x q:Nat->Rat):aD:=[(0,bS n x ag),(1,bS (n-e) q ag)]
abbrev tf:List Nat:=[1,6,7,8,9,10]
abbrev Cu (n e:Nat) (d:Nat->Rat) (k i:Nat):List AV:=[aV d (e+1) ag,.own 0 3 0 n,.own 1 3 0 (n-e),.int .i64 k,.ptr 2 0 3 0 [],.int .i64 i]
abbrev BP (n e:Nat) (x q:Nat->Rat) (f:Rat):aD:=[(2,tR f ag),(0,bS n x ag),(1,bS (n-e) q ag)]
theorem Bw:aZ 97 f97:=bf func97
theorem TH {n e:Nat} {a d:Nat->Rat}:aF T mV [18] 60 lV (before nV [1,1,1,1,0,1]) ⟨aQ 0 [aV a n ag,aV d (e+1) ag],[],0⟩=
  let c7:Int:=(↑(e+1):Int);let c6:AV:=own 16384 3 0 ((0:Nat)+n);let c5:AV:=ak 3 (e+1) fun i=>rat (d i) ag;let c3:Nat×ax:=(16384,ax.mk true true 3 ((0:Nat)+n) fun i=>rat (a (i-0)) ag);let c2:Int:=(2:Int)^63;let c1:Int:=(↑n:Int)-c7;let c8:Prop:=-c2<=c1/\c1<c2;let c4:Int:=c1+1;some (aj [(0:Nat)*3<=2^24,((0:Nat)+n)*((56:Nat)+1)*2<=2^47] (fork (decide ((↑n:Int)>=c7)) (aj [c8,-c2<=c4/\c4<c2,(0:Int)<=c4/\c4<=c4/\c4<=2^47/\c4*(↑(56:Nat):Int)<=2^47] (aj [c8] (leaf normal ([c5,c6,own 73728 3 0 c4.toNat,int i64 c1],[(73728,ax.mk true true 3 c4.toNat fun x=>rat 0 1),c3])))) (aj [c8] (leaf normal ([c5,c6,nil,int i64 c1],[c3]))))):=ah
theorem St {n e j:Nat} {d x q:Nat->Rat}:aF T mV [32] 60 lV (before vO [1,0]) ⟨aC lV (sk n e d j),oM n e x q,2⟩=
  let c2:Int:=(↑n:Int)-((↑e:Int)+1)-(↑j:Int);let c1:List AV×aD:=([ak 3 (e+1) fun i=>rat (d i) ag,own 0 3 0 n,own 1 3 0 (n-e),int i64 c2],[(1,ax.mk true true 3 (n-e) fun i=>rat (q i) ag),(0,ax.mk true true 3 n fun i=>rat (x i) ag)]);some (fork (decide (c2>=0)) (leaf normal c1) (leaf (exit 0) c1)):=ah
theorem Va {n e k:Nat} {d x q:Nat->Rat}:aF T mV [] 60 tf (before r9 [1,1,1]) ⟨aC lV [aV d (e+1) ag,.own 0 3 0 n,.own 1 3 0 (n-e),.int .i64 k],oM n e x q,2⟩=
  let c8:Prop:=ag<2^41;let c4:Int:=(↑k:Int);let c3:Int:=(2:Int)^63;let c1:Int:=(↑(e+1):Int);let c6:Nat:=c4.toNat+0;let c5:Int:=c1-1;let c2:Int:=c4+c1-1;let c7:Nat:=c2.toNat+0;some (aj [-c3<=c4+c1/\c4+c1<c3,-c3<=c2/\c2<c3,(0:Int)<=c2/\c2.toNat<n,c7<n,-c3<=c5/\c5<c3,(0:Int)<=c5/\c5.toNat<e+1,c8,c8,(0:Nat)<1] (aj [(0:Nat)<1,(0:Int)<=c4/\c4.toNat<n-e,c6<n-e] (leaf normal ([ak 3 (e+1) fun i=>rat (d i) ag,own 0 3 0 n,own 1 3 0 (n-e),int i64 c4,ptr 61442 0 3 0 [],int i64 0],[((61442:Nat),fM fun j=>if(j==0)=true then dL (uz (x c7,ag) (d c5.toNat,ag))else rat 0 1),(1,ax.mk true true 3 (n-e) fun j=>rat (bif j==c6 then x c7/d c5.toNat else q j) (bif j==c6 then ag+ag else ag)),(0,ax.mk true true 3 n fun i=>rat (x i) ag)])))):=ah
theorem Qn {n e k i:Nat} {d x q:Nat->Rat} {f:Rat}:aF T mV [57] 60 tf [part r9 [1,1,1,0,0]] ⟨aC tf (Cu n e d k i),BP n e x q f,3⟩=
  let c12:Nat:=e+1;let c11:AV:=own 0 3 0 n;let c10:AV:=own 1 3 0 (n-e);let c9:AV:=ptr 2 0 3 0 [];let c8:Nat:=2^41;let c7:Int:=(↑i:Int);let c4:Nat×ax:=((2:Nat),fM fun x=>rat f ag);let c3:Nat×ax:=(1,ax.mk true true 3 (n-e) fun i=>rat (q i) ag);let c2:Int:=(2:Int)^63;let c14:Int:=c7+1;let c6:AV:=ak 3 c12 fun i=>rat (d i) ag;let c1:Int:=(↑k:Int)+c7;let c13:Prop:=(0:Int)<=c1/\c1.toNat<n;let c5:Nat:=c1.toNat+0;some (fork (decide (c7<(↑c12:Int))) (aj [-c2<=c1/\c1<c2,-c2<=c1/\c1<c2,c13,c5<n,(0:Nat)<1,(0:Int)<=c7/\c7.toNat<c12,ag<c8,ag<c8,ag<c8,ag+ag<c8,c13,c5<n] (aj [-c2<=c14/\c14<c2] (leaf normal ([c6,c11,c10,int i64 (↑k:Int),c9,int i64 c14],[c4,c3,(0,ax.mk true true 3 n fun j=>rat (bif j==c5 then x c5-f*d c7.toNat else x j) (bif j==c5 then ag+(ag+ag)+1 else ag))])))) (leaf (exit 2) ([c6,c11,c10,int i64 (↑k:Int),c9,int i64 c7],[c4,c3,(0,ax.mk true true 3 n fun i=>rat (x i) ag)]))):=ah
theorem YW {n e k i:Nat} {d x q:Nat->Rat} {f:Rat}:aF T mV [] 60 lV (behind r9 [1,1,1]++[part vO [1,1]]) ⟨aC tf (Cu n e d k i),BP n e x q f,3⟩=
  let c1:Int:=(↑k:Int)-1;some (aj [-(2:Int)^63<=c1/\c1<2^63] (leaf normal ([ak 3 (e+1) fun i=>rat (d i) ag,own 0 3 0 n,own 1 3 0 (n-e),int i64 c1],[(1,ax.mk true true 3 (n-e) fun i=>rat (q i) ag),(0,ax.mk true true 3 n fun i=>rat (x i) ag)]))):=ah
theorem O8 {n e j:Nat} {d x q:Nat->Rat}:cG T mV [] 60 f97 [part nV [1,1,1,1,1]] ⟨aC lV (sk n e d j),oM n e x q,2⟩=
  some (aj [n-e<=n-e,n-e<2^40,pP (fun i=>rat (q i) ag) (n-e) ag,n<=n,n<2^40,pP (fun i=>rat (x i) ag) n ag] (leaf ret [ak 3 (bu (fun i=>aT (rat (q i) ag)) (n-e)) fun i=>rat (aT (rat (q (i+0)) ag)) ag,ak 3 (bu (fun i=>aT (rat (x i) ag)) n) fun i=>rat (aT (rat (x (i+0)) ag)) ag])):=ah
theorem acH {n e j:Nat} {d x q:Nat->Rat}:aF T mV [] 60 [4,5] [part nV [1,1,1,1,1]] ⟨aC lV (sk n e d j),oM n e x q,2⟩=
  some (aj [n-e<=n-e,n-e<2^40,pP (fun i=>rat (q i) ag) (n-e) ag,n<=n,n<2^40,pP (fun i=>rat (x i) ag) n ag] (leaf ret ([own 1 3 0 (bu (fun i=>aT (rat (q i) ag)) (n-e)),own 0 3 0 (bu (fun i=>aT (rat (x i) ag)) n)],[(0,ax.mk true true 3 n fun i=>rat (aT (rat (x i) ag)) ag),(1,ax.mk true true 3 (n-e) fun i=>rat (aT (rat (q i) ag)) ag)]))):=ah
theorem Cr:bI P mV:=fu (aI Po (aI (iG fun _ _ K hn=>xK hn.1 hn.2 K) iE))
def kF (e:Nat) (d a:Nat->Rat) (R j k:Nat):Rat:=if k+j<R then 0 else cS e d a R k
theorem Uh {e k:Nat} {d x:Nat->Rat}:ej e d x k (x (k+e)/d e) (e+1)=fI e d k x:=by
 funext j
 unfold ej fI
 by_cases h:k<=j/\j<k+e+1
 ·rw[if_pos aa,if_pos h]
 ·rw[if_neg aa,if_neg h]
theorem E8 {e k i j:Nat} {d x:Nat->Rat} {f:Rat} (hj:j≠k+i):ej e d x k f i j=ej e d x k f (i+1) j:=by
 unfold ej
 by_cases h2:k<=j/\j<k+i
 ·rw[if_pos h2,if_pos aa]
 ·rw[if_neg h2,if_neg aa]
theorem adb {e k i:Nat} {d x:Nat->Rat} {f:Rat}:ej e d x k f i (k+i)-f*d i=ej e d x k f (i+1) (k+i):=by
 unfold ej
 rw[if_neg aa,if_pos aa,show k+i-k=i by omega]
theorem QU {ρ:Nat->Option Nat} {k es s n:Nat}:gi ρ (.own k es s n) .void:=by
 refine⟨rfl,fun M w β cs hc=>?_⟩
 cases hc with
 |own h1 h2 h3 h4 h5 h6=>cases h6;exact .void rfl .nil
 |own0 h5 h6=>cases h6;exact .void rfl .nil
theorem Hu {n e:Nat} {a d:Nat->Rat} (hn:n<2^30) (he:e<2^30) (hz:kX n e d a) {cx:Ctx} (hk:Kept [] cx) {Q:aq->aH->Prop}
  (hQ:au P cx f97.ntmps (part nV [1,1,1,1,1]) ⟨aC lV (sk n e d (n-e)),oM n e (bP e d a (n-e) (n-e)) (cS e d a (n-e)),2⟩ Q):
  au P cx f97.ntmps nV ⟨aQ 0 [aV a n ag,aV d (e+1) ag],[],0⟩ Q:=by
 have hW:=dw
 obtain⟨R,hR⟩:∃R,R=n-e:=⟨_,rfl⟩
 unfold kX at hz
 rw[<-hR]at hz
 obtain⟨hzR,hzQ⟩:=hz
 have hz0:cB n a:=hzR 0 (Nat.zero_le _)
 refine au.ov hT Cr hm (x:=nV) [1,1,1,1,0,1] (i:=0) (y:=vO) (z:=part nV [1,1,1,1,1]) ah ah ah Bw.dst [1,0] (j:=1) (x1:=r9) (zb:=part vO [1,1]) ah ah ah [1,1,1] (i2:=2) (y2:=part r9 [1,1,1,0,0]) ah ah rfl hk
  (f1:=[18]) (f2:=[32]) (f3:=[]) (f4:=[57]) (f5:=[]) 60 lV tf 2 3 (fun j:Nat=>sk n e d j) (fun j=>oM n e (bP e d a R j) (kF e d a R j)) (fun j=>j<=R) (fun j=>j=R) (fun j=>R-j) (fun j=>j<R) (fun _=>False) (fun _=>False)
  (fun j (i:Nat)=>Cu n e d (R-1-j) i) (fun j i=>BP n e (ej e d (bP e d a R j) (R-1-j) (cS e d a R (R-1-j)) i) (kF e d a R (j+1)) (cS e d a R (R-1-j))) (fun j i=>i<=e+1/\cB n (ej e d (bP e d a R j) (R-1-j) (cS e d a R (R-1-j)) i)) (fun j i=>i=e+1) (fun _ i=>e+1-i)
  ⟨_,TH,?_⟩ (fun j hj=>⟨_,St,?_⟩) (fun j hj hG=>?_) (fun j hj hG i ⟨hi,hxi⟩=>⟨_,Qn,?_⟩) (fun j hj hG i hi=>⟨_,YW,?_⟩) (fun j hj=>?_) (fun _ _ h=>h.elim) (fun _ _ h=>h.elim)
 ·simp only[af.all,az,bz,bB]
  have hq0:∀k,k<R->kF e d a R 0 k=0:=fun k hk=>by unfold kF;rw[if_pos aa]
  refine⟨aa,fun h=>⟨aa,aa,0,Nat.zero_le _,[(0,16384),(1,73728)],rfl,?_,rfl,bg rfl rfl aa (fun j hj=>bH rfl rfl) (bg rfl rfl aa (fun j hj=>.inr ⟨rfl,dj (hq0 j aa).symm aa⟩) trivial)⟩,fun h=>?_⟩
  ·rw[show((n:Int)-((e+1:Nat):Int)+1).toNat=n-e by omega,Nat.zero_add,show(n:Int)-((e+1:Nat):Int)=(n:Int)-((e:Int)+1)-((0:Nat):Int) by omega];rfl
  ·have h0:n-e=0:=aa
   refine⟨aa,0,Nat.zero_le _,[(0,16384)],rfl,?_,?_,?_⟩
   ·show _=([_,_,AV.own 1 3 0 (n-e),_]:List AV).map _
    rw[h0,Nat.zero_add,show(n:Int)-((e+1:Nat):Int)=(n:Int)-((e:Int)+1)-((0:Nat):Int) by omega];rfl
   ·show([_,_,AV.own 1 3 0 (n-e),_]:List AV).all _=true
    rw[h0];rfl
   ·refine bg rfl rfl aa (fun j hj=>bH rfl rfl) ?_
    show iN _ _ _ [(1,bS (n-e) _ _)]
    rw[h0]
    exact kP rfl aa aa trivial
 ·simp only[af.all,az,bz,bB]
  have re:∀{x q:Nat->Rat},dr [] ([ak 3 (e+1) fun i=>rat (d i) ag,own 0 3 0 n,own 1 3 0 (n-e),int i64 ((↑n:Int)-((↑e:Int)+1)-(↑j:Int))],[(1,ax.mk true true 3 (n-e) fun i=>rat (q i) ag),(0,ax.mk true true 3 n fun i=>rat (x i) ag)]) (sk n e d j) (oM n e x q) 2:=⟨[(0,0),(1,1)],rfl,rfl,rfl,bg rfl rfl rfl (fun j hj=>bH rfl rfl) (bg rfl rfl rfl (fun j hj=>bH rfl rfl) trivial)⟩
  exact⟨fun h=>⟨aa,re⟩,fun h=>⟨rfl,j,aa,re⟩⟩
 ·show∃t,aF T mV [] 60 tf (before r9 [1,1,1]) ⟨aC lV [_,_,_,.int .i64 ((n:Int)-((e:Int)+1)-(j:Int))],_,_⟩=some t/\_
  rw[show(n:Int)-((e:Int)+1)-(j:Int)=(R-1-j:Nat) by omega]
  refine⟨_,Va,?_⟩
  simp only[af.all,az,Nat.add_zero,bw]
  rw[show((R-1-j:Nat):Int)+((e+1:Nat):Int)-1=(R-1-j+e:Nat) by omega,show(((e+1:Nat):Int)-1).toNat=e by omega,bw]
  have hf:bP e d a R j (R-1-j+e)/d e=cS e d a R (R-1-j):=by unfold cS;rw[show R-1-(R-1-j)=j by omega]
  have hu0:ej e d (bP e d a R j) (R-1-j) (cS e d a R (R-1-j)) 0=bP e d a R j:=by funext i;unfold ej;rw[if_neg aa]
  rw[hf]
  refine⟨aa,aa,0,⟨Nat.zero_le _,by rw[hu0];exact hzR j aa⟩,[(0,0),(1,1),(2,61442)],rfl,rfl,rfl,jt rfl rfl (.inr ⟨rfl,dF hf (hzQ _ aa)⟩) (bg rfl rfl rfl (fun i hi=>.inr ⟨rfl,dj (by rw[hu0]) aP⟩) (bg rfl rfl rfl (fun i hi=>?_) trivial))⟩
  refine kM (x:=kF e d a R j) (y:=kF e d a R (j+1)) (dF ?_ ?_) fun hi=>dj ?_ aP
  ·unfold kF;rw[if_neg aa]
  ·unfold kF;rw[if_neg aa];exact hzQ _ aa
  ·unfold kF
   by_cases h:i+j<R
   ·rw[if_pos h,if_pos aa]
   ·rw[if_neg h,if_neg aa]
 ·simp only[af.all,az,bz,bB,Nat.add_zero]
  rw[show((R-1-j:Nat):Int)+(i:Int)=(R-1-j+i:Nat) by omega,bw,bw]
  refine⟨fun h=>?_,fun h=>⟨rfl,i,aa,[(0,0),(1,1),(2,2)],rfl,rfl,rfl,cZ (bg rfl rfl rfl (fun j hj=>bH rfl rfl) (bg rfl rfl rfl (fun j hj=>bH rfl rfl) trivial))⟩⟩
  have hs:Sz (ej e d (bP e d a R j) (R-1-j) (cS e d a R (R-1-j)) (i+1) (R-1-j+i)) ag:=by
   have:=hzR (j+1) aa (R-1-j+i) aa
   have e1:bP e d a R (j+1) (R-1-j+i)=ej e d (bP e d a R j) (R-1-j) (cS e d a R (R-1-j)) (i+1) (R-1-j+i):=by
    show fI e d (R-1-j) (bP e d a R j) _=_
    unfold fI ej
    rw[if_pos aa,if_pos aa]
    unfold cS
    rw[show R-1-(R-1-j)=j by omega]
   rwa [e1]at this
  refine⟨aa,aa,i+1,⟨aa,fun l hl=>?_⟩,by dsimp only;omega,[(0,0),(1,1),(2,2)],rfl,by rw[show(i:Int)+1=((i+1:Nat):Int) by omega];rfl,rfl,cZ (bg rfl rfl rfl (fun l hl=>?_) (bg rfl rfl rfl (fun j hj=>bH rfl rfl) trivial))⟩
  ·by_cases h3:l=R-1-j+i
   ·rw[h3];exact hs
   ·rw[<-E8 h3];exact hxi l hl
  ·exact kM (x:=ej e d (bP e d a R j) (R-1-j) (cS e d a R (R-1-j)) i) (y:=ej e d (bP e d a R j) (R-1-j) (cS e d a R (R-1-j)) (i+1)) (dF adb hs) fun hj=>dj (E8 hj) aP
 ·subst hi
  simp only[af.all,az]
  have hf:bP e d a R j (R-1-j+e)/d e=cS e d a R (R-1-j):=by unfold cS;rw[show R-1-(R-1-j)=j by omega]
  refine⟨aa,j+1,hG,by dsimp only;omega,[(0,0),(1,1)],rfl,?_,rfl,bg rfl rfl rfl (fun l hl=>.inr ⟨rfl,dj ?_ aP⟩) (bg rfl rfl rfl (fun j hj=>bH rfl rfl) trivial)⟩
  ·rw[show((R-1-j:Nat):Int)-1=(n:Int)-((e:Int)+1)-((j+1:Nat):Int) by omega];rfl
  ·rw[<-hf,Uh];rfl
 ·subst hj
  rw[<-hR]at hQ
  have e1:kF e d a j j=cS e d a j:=by funext k;unfold kF;rw[if_neg aa]
  show au P cx _ _ ⟨_,oM n e _ (kF e d a j j),2⟩ Q
  rw[e1]
  exact hQ
theorem RJ {n e:Nat} {a d:Nat->Rat} (hn:n<2^30) (he:e<2^30) (hz:kX n e d a) (K:Nat):aO P 97 K [aV a n ag,aV d (e+1) ag] [] (aJ (qY n e d a) []):=by
 refine gB (r:=aJ (qY n e d a) []) hT Bw rfl aX rfl (fun _ cx h0=>?_) K []
 refine Hu hn he hz (j9 h0) (au.kG ((aE.fin hT Cr hm 60 O8 ah ?_).mono fun _ _ h=>.inl h))
 simp only[af.all,az,Nat.add_zero]
 exact⟨⟨aP,aa,fun j hj=>⟨rfl,.refl _⟩,aP,aa,fun j hj=>⟨rfl,.refl _⟩⟩,.refl _,.refl _,trivial⟩
theorem Cz:aY P rK 97:=dD fun⟨⟨n,a⟩,⟨m,d⟩,_⟩ K hn=>by
 obtain⟨h1,h2,h3,h4,h5,h6⟩:=hn
 simp only at h1 h2 h3
 obtain⟨e,rfl⟩:∃e,m=e+1:=⟨m-1,aa⟩
 have h3:e+1<2^30:=h3
 exact RJ (e:=e) h1 aa h6 K
theorem ab8 {args:List AV} {n e:Nat} {a d:Nat->Rat} {l:List Prop} (ha:az l->fU (aW []) args [aV a n ag,aV d (e+1) ag]) (hl:az l->n<2^30/\e<2^30/\kX n e d a) (K:Nat):
  aO P 97 K args [] ⟨l9 [.void,.own K 3 0 (bu (bP e d a (n-e) (n-e)) n)],[(K,bS n (bP e d a (n-e) (n-e)) ag)],l⟩:=by
 refine AO hT Bw ha aX fun need c hk=>?_
 obtain⟨hn,he,hz⟩:=hl need
 refine Hu hn he hz hk (au.bD hT Cr hm 60 [4,5] acH ah ?_)
 simp only[af.all,az]
 exact⟨⟨aP,aa,fun j hj=>⟨rfl,.refl _⟩,aP,aa,fun j hj=>⟨rfl,.refl _⟩⟩,fun s' hs'=>⟨.inr trivial,[4,5],_,[.own 1 3 0 (bu (cS e d a (n-e)) (n-e)),.own 0 3 0 (bu (bP e d a (n-e) (n-e)) n)],_,0,_,hs',ah,⟨⟨rfl,QU⟩,⟨rfl,dB (by simp[aW,look]) rfl rfl⟩,trivial⟩,rfl,fZ rfl fun i hi=>gh rfl⟩⟩
end Go.Am.B
namespace Go.Am
def fS (a b:PP):Prop:=a.1=b.1/\∀i,i<a.1->a.2 i=b.2 i
theorem fS.refl (a:PP):fS a a:=⟨rfl,fun _ _=>rfl⟩
theorem fS.symm {a b:PP} (h:fS a b):fS b a:=⟨h.1.symm,fun i hi=>(h.2 i (by rw[h.1];exact hi)).symm⟩
theorem fS.trans {a b c:PP} (h:fS a b) (h':fS b c):fS a c:=⟨h.1.trans h'.1,fun i hi=>(h.2 i hi).trans (h'.2 i (by rw[<-h.1];exact hi))⟩
theorem IS {n e R:Nat} {d d' a a':Nat->Rat} (hR:R=n-e) (ha:∀i,i<n->a i=a' i) (hd:∀i,i<=e->d i=d' i):∀j,j<=R->∀i,i<n->bP e d a R j i=bP e d' a' R j i
 |0,_,i,hi=>ha i hi
 |j+1,hj,i,hi=>by
  have ih:=IS hR ha hd j (by omega)
  show fI e d (R-1-j) (bP e d a R j) i=fI e d' (R-1-j) (bP e d' a' R j) i
  unfold fI
  by_cases h:R-1-j<=i/\i<R-1-j+e+1
  ·rw[if_pos h,if_pos h,ih i hi,ih (R-1-j+e) (by omega),hd e (Nat.le_refl _),hd (i-(R-1-j)) (by omega)]
  ·rw[if_neg h,if_neg h,ih i hi]
theorem KY {n e R:Nat} {d a:Nat->Rat} {l m:Rat} (hm:m≠0):∀j i,bP e (fun i=>m*d i) (fun i=>l*a i) R j i=l*bP e d a R j i
 |0,i=>rfl
 |j+1,i=>by
  have ih:=KY (n:=n) (e:=e) (R:=R) (d:=d) (a:=a) (l:=l) hm j
  show fI e (fun i=>m*d i) (R-1-j) (bP e (fun i=>m*d i) (fun i=>l*a i) R j) i=l*fI e d (R-1-j) (bP e d a R j) i
  unfold fI
  by_cases h:R-1-j<=i/\i<R-1-j+e+1
  ·rw[if_pos h,if_pos h,ih,ih]
   show _-_/(m*d e)*(m*d (i-(R-1-j)))=_
   generalize bP e d a R j i=x
   generalize bP e d a R j (R-1-j+e)=y
   generalize d (i-(R-1-j))=z
   by_cases h0:d e=0
   ·rw[h0];simp only[Rat.mul_zero,Rat.div_def,Rat.inv_zero,Rat.zero_mul];grind
   ·have e1:l*y/(m*d e)*(m*z)=l*(y/d e*z):=by
     rw[Rat.div_def,Rat.div_def,Rat.inv_mul_rev]
     have:m⁻¹*m=1:=Rat.inv_mul_cancel _ hm
     generalize (d e)⁻¹=w
     calc l*y*(w*m⁻¹)*(m*z)=l*y*w*(m⁻¹*m)*z:=by grind
      _=l*(y*w*z):=by rw[this];grind
    rw[e1];grind
  ·rw[if_neg h,if_neg h,ih]
theorem LL {k:Nat->Rat} {l:Rat} (hl:l≠0):∀n,bu (fun i=>l*k i) n=bu k n
 |0=>rfl
 |n+1=>by
  unfold bu
  by_cases h:k n=0
  ·rw[if_pos h,if_pos (by rw[h,Rat.mul_zero]),LL hl n]
  ·rw[if_neg h,if_neg fun h0=>(Rat.mul_eq_zero.1 h0).elim hl h]
def lG (a b:PP):Prop:=∃l:Rat,l≠0/\a.1=b.1/\∀i,i<a.1->a.2 i=l*b.2 i
theorem Di {a:PP} (h:Trim a):lG (dM a) a:=by
 rcases h with h|h
 ·exact⟨1,by decide,rfl,fun i hi=>absurd hi (by show¬i<a.1;omega)⟩
 ·refine⟨(a.2 (a.1-1))⁻¹,fun h0=>h (by rw[<-Rat.inv_inv (a.2 (a.1-1)),h0,Rat.inv_zero]),rfl,fun i _=>?_⟩
  show cE a.1 a.2 i=_
  unfold cE
  rw[Rat.div_def,Rat.mul_comm]
theorem lG.cE {a b:PP} (h:lG a b):fS (dM a) (dM b):=by
 obtain⟨l,hl,h1,h2⟩:=h
 refine⟨h1,fun i hi=>?_⟩
 have hi:i<a.1:=hi
 show Go.Am.cE a.1 a.2 i=Go.Am.cE b.1 b.2 i
 unfold Go.Am.cE
 rw[h2 i hi,h2 (a.1-1) (by omega),h1,Rat.div_def,Rat.div_def,Rat.inv_mul_rev]
 have:l*l⁻¹=1:=Rat.mul_inv_cancel _ hl
 generalize (b.2 (b.1-1))⁻¹=w
 calc l*b.2 i*(w*l⁻¹)=(l*l⁻¹)*(b.2 i*w):=by grind
  _=_:=by rw[this,Rat.one_mul]
theorem lG.rem {a b d f:PP} (h:lG a b) (h':lG d f) (hd:0<d.1):lG (cQ a d) (cQ b f):=by
 obtain⟨l,hl,h1,h2⟩:=h
 obtain⟨m,hm,g1,g2⟩:=h'
 have key:∀i,i<a.1->bP (d.1-1) d.2 a.2 (a.1-(d.1-1)) (a.1-(d.1-1)) i=l*bP (d.1-1) f.2 b.2 (a.1-(d.1-1)) (a.1-(d.1-1)) i:=fun i hi=>by
  rw[IS (a':=fun i=>l*b.2 i) (d':=fun i=>m*f.2 i) rfl h2 (fun i hi=>g2 i (by omega)) _ (Nat.le_refl _) i hi,KY (n:=a.1) hm]
 have e1:(cQ a d).1=(cQ b f).1:=by
  show bu _ _=bu _ _
  rw[<-g1,<-h1,Aa key,LL hl]
 refine⟨l,hl,e1,fun i hi=>?_⟩
 have hi:i<(cQ a d).1:=hi
 show bP _ _ _ _ _ i=l*bP _ _ _ _ _ i
 rw[<-g1,<-h1]
 exact key i (Nat.lt_of_lt_of_le hi fk)
theorem fS.CZ {a b:PP} (h:fS a b):lG a b:=⟨1,by decide,h.1,fun i hi=>by rw[h.2 i hi,Rat.one_mul]⟩
theorem SF {a:PP} (h:Trim a):fS (dM (dM a)) (dM a):=(Di h).cE
theorem Lz {s t:PP×PP} (h1:Trim t.1) (h2:Trim t.2) (g1:fS s.1 (dM t.1)) (g2:fS s.2 (dM t.2)):∀j,fS (bK s j).1 (dM (bK t j).1)/\fS (bK s j).2 (dM (bK t j).2)
 |0=>⟨g1,g2⟩
 |j+1=>by
  obtain⟨i1,i2⟩:=Lz h1 h2 g1 g2 j
  obtain⟨t1,t2⟩:=l8 h1 h2 j
  show fS (e9 _).1 (dM (e9 _).1)/\fS (e9 _).2 (dM (e9 _).2)
  have hl:(bK s j).2.1=(bK t j).2.1:=i2.1
  unfold e9
  by_cases h0:(bK t j).2.1=0
  ·rw[if_pos h0,if_pos (hl.trans h0)];exact⟨i1,i2⟩
  ·rw[if_neg h0,if_neg (by rw[hl];exact h0)]
   refine⟨i2,?_⟩
   have hs1:lG (bK s j).1 (bK t j).1:=by
    obtain⟨l,a1,a2,a3⟩:=Di t1
    exact⟨l,a1,i1.1,fun i hi=>by rw[i1.2 i hi,a3 i (by rw[<-i1.1];exact hi)]⟩
   have hs2:lG (bK s j).2 (bK t j).2:=by
    obtain⟨l,a1,a2,a3⟩:=Di t2
    exact⟨l,a1,i2.1,fun i hi=>by rw[i2.2 i hi,a3 i (by rw[<-i2.1];exact hi)]⟩
   have:=(lG.rem hs1 hs2 (by omega)).cE
   exact this.trans (SF qV).symm
def Vf (a b:PP):PP:=(bK (dM a,dM b) b.1).1
theorem ach {a b:PP} (h1:Trim a) (h2:Trim b):fS (Vf a b) (cm a b):=(Lz (s:=(dM a,dM b)) (t:=(a,b)) h1 h2 (fS.refl _) (fS.refl _) b.1).1
end Go.Am
namespace Go.Am.B
open Go Go.Am.N AV af aq IntKind Proofs.Tryz
def Ae:bp:=zG::(97,rK)::(152,DV)::ic
abbrev tM:Code:=aG f100
def yu (a b:PP):Prop:=cB a.1 (cE a.1 a.2)/\cB b.1 (cE b.1 b.2)/\m8 (dM a,dM b)
def En:Spec:=dU (kC (kL ag) (kC (kL ag) kN)) (fun a=>aK (cm a.1 a.2.1)) fun a=>[a.1.1<2^30,a.2.1.1<2^30,Trim a.1,Trim a.2.1,yu a.1 a.2.1]
def Y9 (a:PP):Prop:=a.1≠0->yu a (bQ a)/\lH a (cm a (bQ a))/\cB (cw a).1 (cw a).2
def uf (a:PP):Prop:=a.1≠0/\a.1<2^30/\Trim a/\cB (a.1-1) (cM a.2)/\Y9 a
def Cy:Spec:=dU (kC (kL ag) kN) (fun a=>aK (cw a.1)) fun a=>[uf a.1]
def Jz:bp:=zG::(97,rK)::(152,DV)::(125,pX)::(100,En)::ic
theorem Yh:aZ 100 f100:=bf func100
theorem Ox:aZ 99 f99:=bf func99
theorem Pv {a b:PP}:aF T Ae [] 60 lM (before tM [1,1,0]) ⟨aQ 0 [aK a,aK b],[],0⟩=
  some (aj [aR a,a.1<2^40,Trim a,cB a.1 (cE a.1 a.2),aR b,b.1<2^40,Trim b,cB b.1 (cE b.1 b.2)] (leaf normal ([aK (dM a),aK (dM b)],[]))):=ah
theorem aaN {a b:PP}:aF T Ae [13] 60 lM [part tM [1,1,0,0,0]] ⟨aC lM [aK a,aK b],[],0⟩=
  some (fork (decide ((b.1:Int)>0)) (aj [aR a,aR b,a.1<2^30,1<=b.1,b.1<2^30,Trim a,Trim b,lH a b] (aj [aR (cQ a b),(cQ a b).1<2^40,Trim (cQ a b),cB (cQ a b).1 (cE (cQ a b).1 (cQ a b).2)] (leaf normal ([aK b,aK (dM (cQ a b))],[])))) (leaf (exit 0) ([aK a,aK b],[]))):=ah
theorem QJ {a b:PP}:cG T Ae [] 60 f100 [part tM [1,1,1]] ⟨aC lM [aK a,aK b],[],0⟩=some (leaf ret [aK a]):=ah
theorem WB {a:PP}:bT T Jz [] 60 f99 (aG f99) ⟨aQ 0 [aK a],[],0⟩=
  some (aj [aR a,a.1<2^40,cB (a.1-1) (cM a.2),aR a,aR (bQ a),a.1<2^30,(bQ a).1<2^30,Trim a,Trim (bQ a),yu a (bQ a),aR a,aR (cm a (bQ a)),a.1<2^30,1<=(cm a (bQ a)).1,(cm a (bQ a)).1<2^30,Trim a,Trim (cm a (bQ a)),lH a (cm a (bQ a))] (aj [aR (gA a (cm a (bQ a))),(gA a (cm a (bQ a))).1<2^40,Trim (gA a (cm a (bQ a))),cB (gA a (cm a (bQ a))).1 (cE (gA a (cm a (bQ a))).1 (gA a (cm a (bQ a))).2)] (leaf ret [aK (dM (gA a (cm a (bQ a))))]))):=ah
theorem Qq:bI P Ae:=fu (aI Cz (aI LH iE))
theorem acr {a b:PP} (ha:a.1<2^30) (hb:b.1<2^30) (ta:Trim a) (tb:Trim b) (hz:yu a b) (K:Nat):aO P 100 K [aK a,aK b] [] (aJ (aK (cm a b)) []):=by
 obtain⟨za,zb,hz⟩:=hz
 obtain⟨s,hs⟩:∃s,s=(dM a,dM b):=⟨_,rfl⟩
 have t1:Trim s.1:=by rw[hs];exact qe ta
 have t2:Trim s.2:=by rw[hs];exact qe tb
 have hT1:=l8 t1 t2
 have hL:=wD t1 t2
 have hB:=tu (s:=s) (B:=2^30-1) (by rw[hs];show a.1<=_;omega) (by rw[hs];show b.1<=_;omega) t1 t2
 have hb2:s.2.1=b.1:=by rw[hs];rfl
 rw[<-hs]at hz
 refine iZ (r:=aJ (aK (cm a b)) []) hT Qq hm Yh rfl aX rfl [1,1,0] (i:=0) (y:=part tM [1,1,0,0,0]) (z:=part tM [1,1,1]) ah ah ah (f1:=[]) (f2:=[13]) (f3:=[]) 60 lM 0
  (fun j:Nat=>rM (bK s j)) (fun _=>[]) (fun j=>j<=b.1) (fun j=>j<=b.1/\(bK s j).2.1=0) (fun j=>(bK s j).2.1) (fun _=>⟨⟨_,Pv (a:=a) (b:=b),?_⟩,fun j hj=>⟨_,aaN,?_⟩,fun j hj=>⟨_,QJ,?_⟩⟩) K []
 ·simp only[af.all,az]
  exact⟨⟨gN,aa,ta,za,gN,aa,tb,zb⟩,0,Nat.zero_le _,by rw[hs];exact dr.vals rfl⟩
 ·have h1:=hT1 j
  have h2:=hL j
  have h3:=hB j
  have h4:=hB (j+1)
  have h5:=hz.1 j
  have e1:(bK s j).2.1≠0->bK s (j+1)=((bK s j).2,dM (cQ (bK s j).1 (bK s j).2)):=fun h=>if_neg h
  have e2:=hL (j+1)
  obtain⟨x,y,hx⟩:∃x y,bK s j=(x,y):=⟨_,_,rfl⟩
  rw[hx]at h1 h2 h3 h5 e1
  dsimp only at h1 h2 h3 h5 e1
  simp only[af.all,az,bz,bB,hx]
  refine⟨fun h=>?_,fun h=>⟨rfl,j,⟨hj,by rw[hx];dsimp only;omega⟩,by show dr _ _ (rM (bK s j)) _ _;rw[hx];exact dr.vals rfl⟩⟩
  have hy:y.1≠0:=aa
  have e1:=e1 hy
  rw[e1]at h4 e2
  have hr:(cQ x y).1<y.1:=nv aa h1.2
  refine⟨⟨gN,gN,aa,aa,aa,h1.1,h1.2,(h5 hy).1⟩,⟨gN,aa,qV,(h5 hy).2⟩,j+1,aa,?_,?_⟩
  ·show(bK s (j+1)).2.1<(bK s j).2.1
   rw[e1,hx];exact hr
  ·show dr _ _ (rM (bK s (j+1))) _ _
   rw[e1];exact dr.vals rfl
 ·obtain⟨hj,h0⟩:=hj
  have hst:=BF h0 (b.1-j)
  rw[show j+(b.1-j)=b.1 by omega]at hst
  have hg:fS (bK s j).1 (cm a b):=by rw[<-hst,hs];exact ach ta tb
  simp only[af.all]
  obtain⟨g1,g2⟩:=hg
  show bA (aV _ _ _) (aV _ _ _)
  rw[<-g1]
  exact gk fun i hi=>dj (g2 i hi) aP
theorem HJ:aY P En 100:=dD fun⟨a,b,_⟩ K hn=>acr hn.1 hn.2.1 hn.2.2.1 hn.2.2.2.1 hn.2.2.2.2 K
theorem ZC:bI P Jz:=fu (aI Cz (aI LH (aI K6 (aI HJ iE))))
theorem Yq {a:PP} (hz:uf a) (K:Nat):aO P 99 K [aK a] [] (aJ (aK (cw a)) []):=by
 obtain⟨h0,ha,ta,hd,hz⟩:=hz
 refine cj hT ZC hm Ox rfl aX rfl 60 WB (fun _=>?_) K []
 simp only[af.all,az]
 obtain⟨z1,z2,z3⟩:=hz h0
 have e0:cw a=dM (gA a (cm a (bQ a))):=if_neg h0
 rw[e0]at z3 ⊢
 have hd1:(bQ a).1<=a.1-1:=fk
 have hg:=tu (s:=(a,bQ a)) (B:=a.1) aP (by dsimp only;omega) ta fH (bQ a).1
 have hgl:(cm a (bQ a)).1<=a.1:=hg
 have hgp:0<(cm a (bQ a)).1:=yC aa
 have tg:Trim (cm a (bQ a)):=nj ta fH
 have hq:(gA a (cm a (bQ a))).1<=a.1:=Nat.le_trans fk (Nat.sub_le _ _)
 exact⟨⟨gN,aa,hd,gN,gN,ha,aa,ta,fH,z1,gN,gN,ha,hgp,aa,ta,tg,z2⟩,⟨gN,aa,DZ,z3⟩,.refl _⟩
theorem Ht:aY P Cy 99:=dD fun⟨a,_⟩ K hn=>Yq hn K
def La:Spec:=qh fun K l=>match l with
 |[u,v]=>match(kL ag).read u,(kL ag).read v with
  |some (a,q1),some (d,q2)=>some ⟨.tuple [.void,.own K 3 0 (cQ a d).1],[(K,bS a.1 (cQ a d).2 ag)],q1++(q2++[a.1<2^30,1<=d.1,d.1<2^30,lH a d])⟩
  |_,_=>none
 |_=>none
def qL:bp:=zG::(97,La)::(125,pX)::(99,Cy)::(52,v5)::ic
abbrev qZ:Code:=aG f63
abbrev Ej:Code:=part qZ [1,1,1,1,0,0,0]
abbrev pz:Code:=part Ej [1,0]
abbrev nM:List Nat:=[3,4,5]
abbrev q9:List Nat:=[4,5,7,8]
abbrev zD (y:PP) (j n i:Nat):List AV:=[.own 0 1 0 (j+1+1),aK y,.own 1 3 0 n,.int .i64 i]
abbrev xw (s:PP×PP) (j m:Nat) (r:Nat->Rat):aD:=[(0,kK (j+1+1) s),(1,bS m r ag)]
theorem LF:aZ 63 f63:=bf func63
theorem Pq {a:PP}:aF T qL [] 60 nM (before qZ [1,1,1,1,0]) ⟨aQ 0 [aK a],[],0⟩=
  some (aj [aR a,uf a] (aj [(1:Nat)*1<=2^24] (aj [aR (cw a),(cw a).1<2^40,cB ((cw a).1-1) (cM (cw a).2)] (leaf normal ([aK (cw a),own 20480 1 0 1,aK (bQ (cw a))],[(20480,ax.mk true true 1 1 fun i=>nth [aK (cw a)] nil i)]))))):=ah
theorem OS {x y:PP} {s:PP×PP} {j:Nat}:aF T qL [17] 60 nM (before Ej [1]) ⟨aC nM [aK x,.own 0 1 0 (j+1),aK y],[(0,kK (j+1) s)],1⟩=
  some (fork (decide ((y.1:Int)>0)) (leaf normal ([aK x,own 0 1 0 (j+1),aK y],[((0:Nat),kK (j+1) s)])) (leaf (exit 0) ([aK x,own 0 1 0 (j+1),aK y],[((0:Nat),kK (j+1) s)]))):=ah
theorem P5 {x y:PP} {s:PP×PP} {j:Nat}:aF T qL [] 60 q9 (before pz [1,1,0,1]) ⟨aC nM [aK x,.own 0 1 0 (j+1),aK y],[(0,kK (j+1) s)],1⟩=
  let c3:Nat:=y.fst-1;let c2:Nat:=j+1;let c4:Nat:=c2+1;let c1:Nat:=x.fst-c3;some (aj [(1:Nat)*1<=2^24,c4*((24:Nat)+1)*2<=2^47] (aj [cV (fun i=>rat (x.snd i) ag) x.fst ag,cV (fun i=>rat (y.snd i) ag) y.fst ag,x.fst<2^30,(1:Nat)<=y.fst,y.fst<2^30,lH (x.fst,fun i=>aT (rat (x.snd i) ag)) (y.fst,fun i=>aT (rat (y.snd i) ag))] (leaf normal ([own 12289 1 0 c4,ak 3 y.fst fun i=>rat (y.snd i) ag,own 28673 3 0 (bu (bP c3 (fun i=>aT (rat (y.snd i) ag)) (fun i=>aT (rat (x.snd i) ag)) c1 c1) x.fst),int i64 0],[(28673,ax.mk true true 3 x.fst fun i=>rat (bP c3 (fun i=>aT (rat (y.snd i) ag)) (fun i=>aT (rat (x.snd i) ag)) c1 c1 i) ag),(12289,ax.mk true true 1 c4 fun i=>if i<c2 then aK (bF s i).fst else nth [ak 3 y.fst fun i=>rat (y.snd i) ag] nil (i-c2+0))])))):=ah
theorem adh {y:PP} {s:PP×PP} {j m n i:Nat} {r:Nat->Rat}:aF T qL [31] 60 q9 [part pz [1,1,0,1,0,0]] ⟨aC q9 (zD y j n i),xw s j m r,2⟩=
  let c8:Nat:=j+1+1;let c6:AV:=own 1 3 0 n;let c4:AV:=ak 3 y.fst fun i=>rat (y.snd i) ag;let c3:Int:=(↑i:Int);let c9:Int:=c3+1;let c7:Prop:=(0:Int)<=c3/\c3.toNat<n;let c5:AV:=own 0 1 0 c8;let c2:Nat:=c3.toNat+0;let c1:Nat×ax:=(0,ax.mk true true 1 c8 fun i=>ak 3 (bF s i).fst.fst fun i_1=>rat ((bF s i).fst.snd i_1) ag);some (fork (decide (c3<(↑n:Int))) (aj [c7,c2<m,c7,c2<m] (aj [-(2:Int)^63<=c9/\c9<2^63] (leaf normal ([c5,c4,c6,int i64 c9],[(1,ax.mk true true 3 m fun j=>rat (bif j==c2 then-r c2 else r j) (bif j==c2 then ag else ag)),c1])))) (leaf (exit 2) ([c5,c4,c6,int i64 c3],[(1,ax.mk true true 3 m fun i=>rat (r i) ag),c1]))):=ah
theorem Tg {y z:PP} {s:PP×PP} {j i m:Nat} {r:Nat->AV}:aF T qL [] 60 nM [part pz [1,1,1]] ⟨nU (some 7) (.ak 3 z.1 r) (aC q9 (zD y j z.1 i)),put 1 ⟨true,false,3,m,r⟩ (xw s j m z.2),2⟩=
  let c1:Nat:=j+1+1;some (leaf normal ([ak 3 y.fst fun i=>rat (y.snd i) ag,own 0 1 0 c1,ak 3 z.fst fun a=>r a],[(0,ax.mk true true 1 c1 fun i=>ak 3 (bF s i).fst.fst fun i_1=>rat ((bF s i).fst.snd i_1) ag)])):=ah
theorem Xy {x y:PP} {s:PP×PP} {j:Nat}:cG T qL [] 60 f63 [part qZ [1,1,1,1,1]] ⟨aC nM [aK x,.own 0 1 0 (j+1),aK y],[(0,kK (j+1) s)],1⟩=
  some (leaf ret [ak 1 (j+1) fun i=>ak 3 (bF s (i+0)).fst.fst fun i_1=>rat ((bF s (i+0)).fst.snd i_1) ag]):=ah
theorem aao:aY P La 97:=by
 refine tU fun K args r hk hs=>?_
 split at hs
 ·rename_i u v
  split at hs
  ·rename_i a q1 d q2 hu hv
   simp only[ay]at hs
   subst hs
   intro need
   obtain⟨n1,n2⟩:=fD.1 need
   obtain⟨n2,h1,h2,h3,h4⟩:=fD.1 n2
   have e1:aV d.2 (d.1-1+1) ag=aK d:=by rw[show d.1-1+1=d.1 by omega]
   refine(ab8 (e:=d.1-1) (a:=a.2) (d:=d.2) (n:=a.1) (l:=q1++(q2++[a.1<2^30,1<=d.1,d.1<2^30,lH a d])) (fun _=>?_) (fun _=>⟨h1,aa,h4⟩) K) need
   rw[e1]
   exact Be hk (by cases u<;>first|(exfalso;simp[kL,qi]at hu;done)|(cases v<;>first|rfl|(exfalso;simp[kL,qi]at hv;done))) ⟨(kL ag).ok hu n1,(kL ag).ok hv n2,trivial⟩
  ·simp at hs
 ·simp at hs
theorem Ei:bI P qL:=fu (aI aao (aI K6 (aI Ht (aI x8 iE))))
def uQ (a:PP):Prop:=uf a/\cB ((cw a).1-1) (cM (cw a).2)/\ya (gu a)
def mD (x:Nat->Rat) (i j:Nat):Rat:=if j<i then-x j else x j
theorem S5 (q:Rat):((-1:Int):Rat)*q=-q:=by
 rw[show((-1:Int):Rat)=-1 by rfl,Rat.neg_mul,Rat.one_mul]
theorem acJ {a:PP} (hz:uQ a) (K:Nat):aO P 63 K [aK a] [] (aJ (fC (cP a) (cR a)) []):=by
 obtain⟨hz0,hd2,hs⟩:=hz
 have ha:=hz0.2.1
 obtain⟨s,hss⟩:∃s,s=gu a:=⟨_,rfl⟩
 have t1:Trim s.1:=by rw[hss];exact sn
 have t2:Trim s.2:=by rw[hss];exact fH
 have hTr:=qc t1 t2
 obtain⟨g1,g2,g3⟩:=sM t1 t2
 have hfl:(cw a).1<=a.1:=by
  unfold cw;split
  ·exact Nat.zero_le _
  ·exact Nat.le_trans fk (Nat.sub_le _ _)
 have hdl:(bQ (cw a)).1<=(cw a).1-1:=fk
 have hB:=Cp (s:=s) (B:=2^30-1) (by rw[hss];show(cw a).1<=_;omega) (by rw[hss];show(bQ (cw a)).1<=_;omega) t1 t2
 have hg0:s.2.1=(bQ (cw a)).1:=by rw[hss];rfl
 have hg:eM s<2^30:=aa
 have hW:=dw
 show aO P 63 K [aK a] [] (aJ (yh (eM (gu a)+1) (gu a)) [])
 rw[<-hss]at hs ⊢
 refine gB (r:=aJ (yh (eM s+1) s) []) hT LF rfl aX rfl (fun _ cx h0=>?_) K []
 have hk:=j9 h0
 have hj0:∀{j},j<=eM s->(bF s j).2.1≠0->j<eM s:=fun {j} hj h=>by
  rcases Nat.lt_or_ge j (eM s)with h'|h'
  ·exact h'
  ·exact absurd (by rw[show j=eM s by omega];exact g2) h
 refine au.Vu hT Ei hm (x:=qZ) [1,1,1,1,0] (i:=0) (y:=Ej) ah ah LF.dst [1] (j:=1) (x1:=pz) ah ah ah [1,1,0,1] (i2:=2) (y2:=part pz [1,1,0,1,0,0]) ah ah rfl ah hk
  (f1:=[]) (f2:=[17]) (f3:=[]) (f4:=[31]) 60 nM q9 1 2 (fun j:Nat=>zM s j) (fun j=>[(0,kK (j+1) s)]) (fun j=>j<=eM s) (fun j=>j=eM s) (fun j=>eM s-j) (fun j=>j<eM s) (fun _=>False) (fun _=>False)
  (fun j (i:Nat)=>zD (bF s j).2 j (cQ (bF s j).1 (bF s j).2).1 i) (fun j i=>xw s j (bF s j).1.1 (mD (cQ (bF s j).1 (bF s j).2).2 i)) (fun j i=>i<=(cQ (bF s j).1 (bF s j).2).1) (fun j i=>i=(cQ (bF s j).1 (bF s j).2).1) (fun j i=>(cQ (bF s j).1 (bF s j).2).1-i)
  ⟨_,Pq,?_⟩ (fun j hj=>⟨_,OS,?_⟩) (fun j hj hG=>⟨_,P5,?_⟩) (fun j hj hG i hi=>⟨_,adh,?_⟩) (fun j hj hG i hi=>?_) (fun j s' hj hs'=>?_) (fun _ _ h=>h.elim) (fun _ _ h=>h.elim)
 ·simp only[af.all,az]
  refine⟨⟨gN,hz0⟩,aa,⟨gN,Nat.lt_of_le_of_lt hfl aa,hd2⟩,0,Nat.zero_le _,[(0,20480)],rfl,by rw[hss];rfl,rfl,bg rfl rfl rfl (fun i hi=>?_) trivial⟩
  obtain rfl:i=0:=aa
  rw[hss];exact bH rfl rfl
 ·simp only[af.all,bz,bB]
  have re:dr [] ([aK (bF s j).1,own 0 1 0 (j+1),aK (bF s j).2],[((0:Nat),kK (j+1) s)]) (zM s j) [(0,kK (j+1) s)] 1:=⟨[(0,0)],rfl,rfl,rfl,bg rfl rfl rfl (fun i hi=>bH rfl rfl) trivial⟩
  refine⟨fun h=>⟨hj0 hj aa,re⟩,fun h=>⟨rfl,j,?_,re⟩⟩
  rcases Nat.lt_or_ge j (eM s)with h'|h'
  ·have:=g3 j h';omega
  ·omega
 ·have h1:=hTr j
  have h3:=hB j hj
  have hy:=g3 j hG
  simp only[af.all,az]
  refine⟨⟨aa,aa⟩,⟨gN,gN,aa,aa,aa,(hs j hG).1⟩,0,Nat.zero_le _,[(0,12289),(1,28673)],rfl,rfl,rfl,bg rfl rfl rfl (fun i hi=>?_) (bg rfl rfl rfl (fun i hi=>bH rfl ?_) trivial)⟩
  ·by_cases hi2:i<j+1
   ·rw[if_pos hi2];exact bH rfl rfl
   ·rw[if_neg hi2,show i-(j+1)+0=0 by omega,show i=j+1 by omega];exact bH rfl rfl
  ·show AV.rat ((cQ (bF s j).1 (bF s j).2).2 i) ag=AV.rat (mD _ 0 i) ag
   unfold mD;rw[if_neg (Nat.not_lt_zero i)]
 ·have h3:=hB j hj
  have hrl:(cQ (bF s j).1 (bF s j).2).1<=(bF s j).1.1:=fk
  simp only[af.all,az,bz,bB,bw,Nat.add_zero]
  refine⟨fun h=>⟨aa,aa,i+1,aa,by dsimp only;omega,[(0,0),(1,1)],rfl,by rw[show(i:Int)+1=((i+1:Nat):Int) by omega];rfl,rfl,bg rfl rfl rfl (fun l hl=>bH rfl rfl) (bg rfl rfl rfl (fun l hl=>?_) trivial)⟩,fun h=>⟨rfl,i,aa,[(0,0),(1,1)],rfl,rfl,rfl,bg rfl rfl rfl (fun l hl=>bH rfl rfl) (bg rfl rfl rfl (fun l hl=>bH rfl rfl) trivial)⟩⟩
  refine kM (x:=mD _ i) (y:=mD _ (i+1)) (dj ?_ aP) fun hl=>dj (DH hl).symm aP
  unfold mD;rw[if_neg (Nat.lt_irrefl i),if_pos (Nat.lt_succ_self i)]
 ·subst hi
  obtain⟨z,hzz⟩:∃z:PP,z=((cQ (bF s j).1 (bF s j).2).1,mD (cQ (bF s j).1 (bF s j).2).2 (cQ (bF s j).1 (bF s j).2).1):=⟨_,rfl⟩
  have e1:behind pz [1,1,0,1]=[part pz [1,1,1]]:=ah
  rw[e1]
  show aE P cx _ _ ⟨aC q9 (zD (bF s j).2 j _ _),xw s j _ _,2⟩ _
  rw[show(cQ (bF s j).1 (bF s j).2).1=z.1 by rw[hzz],show mD (cQ (bF s j).1 (bF s j).2).2 z.1=z.2 by rw[hzz]]
  refine aE.one (au.cK (t:=7) (k:=1) (es:=3) (s0:=0) (n:=z.1) (o:=bS (bF s j).1.1 z.2 ag) rfl rfl rfl rfl (au.bD hT Ei hm 60 nM Tg ah ?_))
  simp only[af.all,az]
  refine fun s' hs'=>⟨j+1,hG,by dsimp only;omega,zh [(0,0)] hs' (fun k x h=>absurd (hk k x h) List.not_mem_nil) rfl ⟨aN,⟨rfl,dB (by simp[aW,look]) rfl rfl⟩,⟨rfl,gT rfl ?_⟩,trivial⟩ (sC (bg rfl rfl rfl (fun i hi=>bH rfl rfl) trivial))⟩
  show bA (aV (fun i=>z.2 (i+0)) z.1 ag) (aK (bF s (j+1)).2)
  rw[hzz]
  refine gk fun i hi=>dj ?_ aP
  show mD _ _ i=((-1:Int):Rat)*_
  unfold mD
  rw[if_pos hi,S5]
 ·subst hj
  rw[show behind qZ [1,1,1,1,0]=[part qZ [1,1,1,1,1]]from by kernel_rfl]
  exact aE.weak rfl hs' (aE.mono (fun _ _ h=>.inl h) (aE.fin hT Ei hm 60 Xy ah (.refl _)))
end Go.Am.B
