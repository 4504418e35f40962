/- roots.gcd, free. -/
import Derived.Test.YtolopdkjjlfgjaaGreatY37
import Derived.Test.YtolopdkjjlfgjaaGreatZ2
set_option linter.unusedVariables false
noncomputable section
namespace Go.Am.B
open Go Go.Am.N AV af aq IntKind Proofs.Tryz
abbrev aG (a:PP):AV:=bp a.2 a.1 ag
def B3:bz:=zG::(88,BF)::(135,E7)::iC
abbrev xj:Code:=aI f72
abbrev nX:List Nat:=[0,1]
abbrev uA (s:PP×PP):List AV:=[aG s.1,aG s.2]
def mw (a d:PP):Prop:=nH a.1 (d.1-1) d.2 a.2
def p7 (s:PP×PP):Prop:=(∀j,(bQ s j).2.1≠0->mw (bQ s j).1 (bQ s j).2/\cN (dj (bQ s j).1 (bQ s j).2).1 (cM (dj (bQ s j).1 (bQ s j).2).1 (dj (bQ s j).1 (bQ s j).2).2))/\cN (bR s.1 s.2).1 (bR s.1 s.2).2
def AG:Spec:=en (kC (kL ag) (kC (kL ag) kN)) (fun a=>aG (bR a.1 a.2.1)) fun a=>[a.1.1<2^30,a.2.1.1<2^30,Trim a.1,Trim a.2.1,p7 (a.1,a.2.1)]
def xT (a:PP):Prop:=a.1≠0->p7 (a,aW a)/\mw a (bR a (aW a))/\cN (bh a).1 (bh a).2
def P4:bz:=zG::(88,BF)::(135,E7)::(73,qq)::(72,AG)::iC
theorem Sd:br 72 f72:=bu func72
theorem afI:br 80 f80:=bu func80
theorem Tb {s:PP×PP}:aH T B3 [] 60 nX (before xj [1,0]) ⟨aU 0 [aG s.1,aG s.2],[],0⟩=
  some (leaf normal ([ak 3 s.fst.fst fun i=>rat (s.fst.snd i) ag,ak 3 s.snd.fst fun i=>rat (s.snd.snd i) ag],[])):=ah
theorem aaB {a b:PP}:aH T B3 [9] 60 nX [part xj [1,0,0,0]] ⟨aB nX [aG a,aG b],[],0⟩=
  let c3:AV:=ak 3 b.fst fun i=>rat (b.snd i) ag;let c2:Nat:=b.fst-1;let c4:Nat:=a.fst-c2;let c1:Nat:=bH (ck c2 (fun i=>aQ (rat (b.snd i) ag)) (fun i=>aQ (rat (a.snd i) ag)) c4 c4) a.fst;some (fork (decide ((↑b.fst:Int)>0)) (aj [cZ (fun i=>rat (a.snd i) ag) a.fst ag,cZ (fun i=>rat (b.snd i) ag) b.fst ag,a.fst<2^30,(1:Nat)<=b.fst,b.fst<2^30,a.fst=0\/aQ (rat (a.snd (a.fst-1)) ag)≠0,aQ (rat (b.snd c2) ag)≠0,nH a.fst c2 (fun i=>aQ (rat (b.snd i) ag)) fun i=>aQ (rat (a.snd i) ag)] (aj [cZ (fun i=>rat (ck c2 (fun i=>aQ (rat (b.snd i) ag)) (fun i=>aQ (rat (a.snd i) ag)) c4 c4 i) ag) c1 ag,c1<2^40,cN c1 (cM c1 fun i=>aQ (rat (ck c2 (fun i=>aQ (rat (b.snd i) ag)) (fun i=>aQ (rat (a.snd i) ag)) c4 c4 i) ag))] (leaf normal ([c3,ak 3 c1 fun i=>rat (cM c1 (fun i=>aQ (rat (ck c2 (fun i=>aQ (rat (b.snd i) ag)) (fun i=>aQ (rat (a.snd i) ag)) c4 c4 i) ag)) i) ag],[])))) (leaf (exit 0) ([ak 3 a.fst fun i=>rat (a.snd i) ag,c3],[]))):=ah
theorem ahO {a b:PP}:cR T B3 [] 60 f72 [part xj [1,1]] ⟨aB nX [aG a,aG b],[],0⟩=
  some (aj [cZ (fun i=>rat (a.snd i) ag) a.fst ag,a.fst<2^40,cN a.fst (cM a.fst fun i=>aQ (rat (a.snd i) ag))] (leaf ret [ak 3 a.fst fun i=>rat (cM a.fst (fun i=>aQ (rat (a.snd i) ag)) i) ag])):=ah
theorem aeu {a:PP}:cB T P4 [7] 60 f80 (aI f80) ⟨aU 0 [aG a],[],0⟩=
  let c9:Nat:=a.fst;let c8:Nat:=2^30;let c11:Nat:=c9-1;let c7:Nat×(Nat->Rat):=(c9,fun i=>aQ (rat (a.snd i) ag));let c6:Prop:=cZ (fun i=>rat (a.snd i) ag) c9 ag;let c3:Nat:=bH (cO fun i=>aQ (rat (a.snd i) ag)) c11;let c5:Nat×(Nat->Rat):=(c3,fun i=>aQ (rat (cO (fun i=>aQ (rat (a.snd i) ag)) i) ag));let c1:PP:=(bQ (c7,c5) c3).fst;let c10:Nat:=c1.fst;let c4:Nat:=c10-1;let c2:Nat:=bH (dG c4 (fun i=>aQ (rat (cM c10 c1.snd i) ag)) (fun i=>aQ (rat (a.snd i) ag)) (c9-c4)) (c9-c4);some (fork ((↑c9:Int)==0) (leaf ret [nil]) (aj [c6,c9<2^40,cN c11 (cO fun i=>aQ (rat (a.snd i) ag)),c6,cZ (fun i=>rat (cO (fun i=>aQ (rat (a.snd i) ag)) i) ag) c3 ag,c9<c8,c3<c8,Trim c7,Trim c5,p7 (c7,c5),c6,cZ (fun i=>rat (cM c10 c1.snd i) ag) c10 ag,c9<c8,(1:Nat)<=c10,c10<c8,c9=0\/aQ (rat (a.snd c11) ag)≠0,aQ (rat (cM c10 c1.snd c4) ag)≠0,nH c9 c4 (fun i=>aQ (rat (cM c10 c1.snd i) ag)) fun i=>aQ (rat (a.snd i) ag)] (aj [cZ (fun i=>rat (dG c4 (fun i=>aQ (rat (cM c10 c1.snd i) ag)) (fun i=>aQ (rat (a.snd i) ag)) (c9-c4) i) ag) c2 ag,c2<2^40,cN c2 (cM c2 fun i=>aQ (rat (dG c4 (fun i=>aQ (rat (cM c10 c1.snd i) ag)) (fun i=>aQ (rat (a.snd i) ag)) (c9-c4) i) ag))] (leaf ret [ak 3 c2 fun i=>rat (cM c2 (fun i=>aQ (rat (dG c4 (fun i=>aQ (rat (cM c10 c1.snd i) ag)) (fun i=>aQ (rat (a.snd i) ag)) (c9-c4) i) ag)) i) ag])))):=ah
theorem Tg:bU P B3:=gH (aL DD (aL Mm iF))
theorem Sw {a b:PP} (ha:a.1<2^30) (hb:b.1<2^30) (ta:Trim a) (tb:Trim b) (hz:p7 (a,b)) (K:Nat):aS P 72 K [aG a,aG b] [] (aM (aG (bR a b)) []):=by
 obtain⟨s,hs⟩:∃s,s=(a,b):=⟨_,rfl⟩
 have hT1:=lW (s:=s) (by rw[hs];exact ta) (by rw[hs];exact tb)
 have hL:=y9 (s:=s) (by rw[hs];exact ta) (by rw[hs];exact tb)
 have hB:=v5 (s:=s) (B:=2^30-1) (by rw[hs];dsimp only;omega) (by rw[hs];dsimp only;omega) (by rw[hs];exact ta) (by rw[hs];exact tb)
 have hb2:s.2.1=b.1:=by rw[hs]
 rw[<-hs]at hz
 refine iW (r:=aM (aG (bR a b)) []) hT Tg hm Sd rfl aZ rfl [1,0] (i:=0) (y:=part xj [1,0,0,0]) (z:=part xj [1,1]) ah ah ah (f1:=[]) (f2:=[9]) (f3:=[]) 60 nX 0
  (fun j:Nat=>uA (bQ s j)) (fun _=>[]) (fun j=>j<=b.1) (fun j=>j<=b.1/\(bQ s j).2.1=0) (fun j=>(bQ s j).2.1) (fun _=>⟨⟨_,Tb (s:=(a,b)),?_⟩,fun j hj=>⟨_,aaB,?_⟩,fun j hj=>⟨_,ahO,?_⟩⟩) K []
 ·simp only[af.all,az]
  exact⟨0,Nat.zero_le _,by rw[hs];exact dP.vals rfl⟩
 ·have h1:=hT1 j
  have h2:=hL j
  have h3:=hB j
  have h4:=hB (j+1)
  have h5:=hz.1 j
  have e1:(bQ s j).2.1≠0->bQ s (j+1)=((bQ s j).2,dy (dj (bQ s j).1 (bQ s j).2)):=fun h=>if_neg h
  have e2:=hL (j+1)
  obtain⟨x,y,hx⟩:∃x y,bQ s j=(x,y):=⟨_,_,rfl⟩
  rw[hx]at h1 h2 h3 h5 e1
  dsimp only at h1 h2 h3 h5 e1
  simp only[af.all,az,bD,bI,hx]
  refine⟨fun h=>?_,fun h=>⟨rfl,j,⟨hj,by rw[hx];dsimp only;omega⟩,by show dP _ _ (uA (bQ s j)) _ _;rw[hx];exact dP.vals rfl⟩⟩
  have hy:y.1≠0:=aa
  have e1:=e1 hy
  rw[e1]at h4 e2
  have hr:(dj x y).1<y.1:=nY aa h1.2
  have ty:y.2 (y.1-1)≠0:=by rcases h1.2 with h|h;omega;exact h
  refine⟨⟨dU aT,dU aT,aa,aa,aa,h1.1,ty,(h5 hy).1⟩,⟨dU aT,by show(dj x y).1<_;omega,(h5 hy).2⟩,j+1,aa,?_,?_⟩
  ·show(bQ s (j+1)).2.1<(bQ s j).2.1
   rw[e1,hx];exact hr
  ·show dP _ _ (uA (bQ s (j+1))) _ _
   rw[e1];exact dP.vals rfl
 ·obtain⟨hj,h0⟩:=hj
  have hg:dy (bQ s j).1=bR a b:=by rw[hs]at h0 ⊢;exact S0 ta tb hj h0
  have h3:=hB j
  have hz2:=hz.2
  rw[show s.1=a by rw[hs],show s.2=b by rw[hs],<-hg]at hz2
  rw[<-hg]
  simp only[af.all,az]
  exact⟨⟨dU aT,aa,hz2⟩,.refl _⟩
theorem ER:bf P AG 72:=dO fun⟨a,b,_⟩ K hn=>Sw hn.1 hn.2.1 hn.2.2.1 hn.2.2.2.1 hn.2.2.2.2 K
theorem Ut:bU P P4:=gH (aL DD (aL Mm (aL Dz (aL ER iF))))
theorem MF {a:PP} (ha:a.1<2^30) (ta:Trim a) (hd:cN (a.1-1) (cO a.2)) (hz:xT a) (K:Nat):aS P 80 K [aG a] [] (aM (aG (bh a)) []):=by
 refine cF hT Ut hm afI rfl aZ rfl 60 aeu (fun _=>?_) K []
 simp only[af.all,az,beq_iff_eq,beq_eq_false_iff_ne]
 refine⟨fun h=>?_,fun h=>?_⟩
 ·have h0:a.1=0:=aa
  unfold bh
  rw[if_pos h0];exact lS aa
 ·have h0:a.1≠0:=aa
  obtain⟨z1,z2,z3⟩:=hz h0
  have e0:bh a=dy (fA a (bR a (aW a))):=if_neg h0
  rw[e0]at z3 ⊢
  have hd1:(aW a).1<=a.1-1:=fE
  have hg:=v5 (s:=(a,aW a)) (B:=a.1) aT (by dsimp only;omega) ta dI (aW a).1
  have hgp:0<(bR a (aW a)).1:=mM aa
  have tg:Trim (bR a (aW a)):=j8 ta dI
  have tg':(bR a (aW a)).2 ((bR a (aW a)).1-1)≠0:=by rcases tg with h|h;omega;exact h
  have hq:(fA a (bR a (aW a))).1<=a.1:=Nat.le_trans fE (Nat.sub_le _ _)
  exact⟨⟨dU aT,aa,hd,dU aT,dU aT,ha,Nat.lt_of_le_of_lt hd1 aa,ta,dI,z1,dU aT,dU aT,ha,hgp,Nat.lt_of_le_of_lt hg ha,ta,tg',z2⟩,⟨dU aT,Nat.lt_of_le_of_lt hq aa,z3⟩,.refl _⟩
def Oc:Spec:=en (kC (kL ag) kN) (fun a=>aG (bh a.1)) fun a=>[a.1.1<2^30,Trim a.1,cN (a.1.1-1) (cO a.1.2),xT a.1]
theorem aeS:bf P Oc 80:=dO fun⟨a,_⟩ K hn=>MF hn.1 hn.2.1 hn.2.2.1 hn.2.2.2 K
abbrev CE (n:Nat) (s:PP×PP):AV:=.ak 1 n fun i=>aG (bJ s i).1
abbrev mK (n:Nat) (s:PP×PP):ax:=⟨true,true,1,n,fun i=>aG (bJ s i).1⟩
def Bu:bz:=zG::(88,BF)::(121,F6)::(73,qq)::(80,Oc)::iC
abbrev xu:Code:=aI f59
abbrev wH:List Nat:=[3,4,5]
abbrev Bx (s:PP×PP) (j:Nat):List AV:=[aG (bJ s j).1,.own 0 1 0 (j+1),aG (bJ s j).2]
def wT (s:PP×PP):Prop:=∀j,j<eV s->mw (bJ s j).1 (bJ s j).2/\cN (bJ s (j+1)).2.1 (bJ s (j+1)).2.2
theorem afT:br 59 f59:=bu func59
theorem Yg {a:PP}:aH T Bu [] 60 wH (before xu [1,1,1,0,1]) ⟨aU 0 [aG a],[],0⟩=
  let c2:Nat×(Nat->Rat):=(a.fst,fun i=>aQ (rat (a.snd i) ag));let c1:PP:=bh c2;some (aj [cZ (fun i=>rat (a.snd i) ag) a.fst ag,a.fst<2^30,Trim c2,cN (a.fst-1) (cO fun i=>aQ (rat (a.snd i) ag)),xT c2] (aj [(1:Nat)*1<=2^24] (aj [cZ (fun i=>rat (c1.snd i) ag) c1.fst ag,c1.fst<2^40,cN (c1.fst-1) (cO fun i=>aQ (rat (c1.snd i) ag))] (leaf normal ([ak 3 c1.fst fun i=>rat (c1.snd i) ag,own 20480 1 0 1,ak 3 (bH (cO fun i=>aQ (rat (c1.snd i) ag)) (c1.fst-1)) fun i=>rat (cO (fun i=>aQ (rat (c1.snd i) ag)) i) ag],[(20480,ax.mk true true 1 1 fun i=>nth [ak 3 c1.fst fun i=>rat (c1.snd i) ag] nil i)]))))):=ah
theorem ZD {x y:PP} {s:PP×PP} {j:Nat}:aH T Bu [16] 60 wH [part xu [1,1,1,0,1,0,0]] ⟨aB wH [aG x,.own 0 1 0 (j+1),aG y],[(0,mK (j+1) s)],1⟩=
  let c6:Int:=(-1:Int);let c4:AV:=ak 3 y.fst fun i=>rat (y.snd i) ag;let c3:Nat:=j+1;let c2:Nat:=y.fst-1;let c7:Nat:=c3+1;let c5:Nat:=x.fst-c2;let c1:Nat:=bH (ck c2 (fun i=>aQ (rat (y.snd i) ag)) (fun i=>aQ (rat (x.snd i) ag)) c5 c5) x.fst;some (fork (decide ((↑y.fst:Int)>0)) (aj [(1:Nat)*1<=2^24,c7*((24:Nat)+1)*2<=2^47] (aj [cZ (fun i=>rat (x.snd i) ag) x.fst ag,cZ (fun i=>rat (y.snd i) ag) y.fst ag,x.fst<2^30,(1:Nat)<=y.fst,y.fst<2^30,x.fst=0\/aQ (rat (x.snd (x.fst-1)) ag)≠0,aQ (rat (y.snd c2) ag)≠0,nH x.fst c2 (fun i=>aQ (rat (y.snd i) ag)) fun i=>aQ (rat (x.snd i) ag)] (aj [-(2:Int)^63<=c6,c6<2^63,cZ (fun i=>rat (ck c2 (fun i=>aQ (rat (y.snd i) ag)) (fun i=>aQ (rat (x.snd i) ag)) c5 c5 i) ag) c1 ag,Max.max 1 (bX c6.natAbs)<=ek,c1<2^40,cN c1 fun i=>(↑c6:Rat)*aQ (rat (ck c2 (fun i=>aQ (rat (y.snd i) ag)) (fun i=>aQ (rat (x.snd i) ag)) c5 c5 i) ag)] (leaf normal ([c4,own 24577 1 0 c7,ak 3 c1 fun i=>rat ((↑c6:Rat)*aQ (rat (ck c2 (fun i=>aQ (rat (y.snd i) ag)) (fun i=>aQ (rat (x.snd i) ag)) c5 c5 i) ag)) ag],[(24577,ax.mk true true 1 c7 fun i=>if i<c3 then aG (bJ s i).fst else nth [ak 3 y.fst fun i=>rat (y.snd i) ag] nil (i-c3+0))]))))) (leaf (exit 0) ([ak 3 x.fst fun i=>rat (x.snd i) ag,own 0 1 0 c3,c4],[(0,ax.mk true true 1 c3 fun i=>ak 3 (bJ s i).fst.fst fun i_1=>rat ((bJ s i).fst.snd i_1) ag)]))):=ah
theorem Y4 {s:PP×PP} {j:Nat}:cR T Bu [] 60 f59 [part xu [1,1,1,1]] ⟨aB wH (Bx s j),[(0,mK (j+1) s)],1⟩=
  some (leaf ret [ak 1 (j+1) fun i=>ak 3 (bJ s (i+0)).fst.fst fun i_1=>rat ((bJ s (i+0)).fst.snd i_1) ag]):=ah
theorem TH:bU P Bu:=gH (aL DD (aL P2 (aL Dz (aL aeS iF))))
theorem afP {a:PP} (ha:a.1<2^30) (ta:Trim a) (hd:cN (a.1-1) (cO a.2)) (hz:xT a) (hd2:cN ((bh a).1-1) (cO (bh a).2)) (hs:wT (dQ a)) (K:Nat):aS P 59 K [aG a] [] (aM (CE (eV (dQ a)+1) (dQ a)) []):=by
 obtain⟨s,hss⟩:∃s,s=dQ a:=⟨_,rfl⟩
 have t1:Trim s.1:=by rw[hss];exact kn
 have t2:Trim s.2:=by rw[hss];exact dI
 have hTr:=ot t1 t2
 obtain⟨g1,g2,g3⟩:=mY t1 t2
 have hfl:(bh a).1<=a.1:=by
  unfold bh;split
  ·exact Nat.zero_le _
  ·exact Nat.le_trans fE (Nat.sub_le _ _)
 have hdl:(aW (bh a)).1<=(bh a).1-1:=fE
 have hB:=GB (s:=s) (B:=2^30-1) (by rw[hss];show(bh a).1<=_;omega) (by rw[hss];show(aW (bh a)).1<=_;omega) t1 t2
 have hg0:s.2.1=(aW (bh a)).1:=by rw[hss];rfl
 have hg:eV s<2^30:=aa
 rw[<-hss]at hs ⊢
 refine iW (r:=aM (CE (eV s+1) s) []) hT TH hm afT rfl aZ rfl [1,1,1,0,1] (i:=0) (y:=part xu [1,1,1,0,1,0,0]) (z:=part xu [1,1,1,1]) ah ah ah (f1:=[]) (f2:=[16]) (f3:=[]) 60 wH 1
  (fun j:Nat=>Bx s j) (fun j=>[(0,mK (j+1) s)]) (fun j=>j<=eV s) (fun j=>j=eV s) (fun j=>eV s-j) (fun _=>⟨⟨_,Yg,?_⟩,fun j hj=>⟨_,ZD (x:=(bJ s j).1) (y:=(bJ s j).2),?_⟩,fun j hj=>⟨_,Y4,?_⟩⟩) K []
 ·simp only[af.all,az]
  refine⟨⟨dU aT,ha,ta,hd,hz⟩,aa,⟨dU aT,Nat.lt_of_le_of_lt hfl aa,hd2⟩,0,Nat.zero_le _,[(0,20480)],rfl,by rw[hss];rfl,rfl,bk rfl rfl rfl (fun i hi=>?_) trivial⟩
  obtain rfl:i=0:=aa
  rw[hss];exact bK rfl rfl
 ·have h1:=hTr j
  have h3:=hB j hj
  have hb:bX (Int.natAbs (-1))=1:=by decide
  have hW:=cY
  have hX:=uX
  simp only[af.all,az,bD,bI]
  refine⟨fun h=>?_,fun h=>?_⟩
  ·have hy:(bJ s j).2.1≠0:=aa
   have hjl:j<eV s:=by
    rcases Nat.lt_or_ge j (eV s)with h|h
    ·exact h
    ·exact absurd (by rw[show j=eV s by omega];exact g2) hy
   have hr:(dj (bJ s j).1 (bJ s j).2).1<(bJ s j).2.1:=nY aa h1.2
   have ty:(bJ s j).2.2 ((bJ s j).2.1-1)≠0:=by rcases h1.2 with h|h;omega;exact h
   refine⟨⟨aa,aa⟩,⟨dU aT,dU aT,aa,aa,aa,h1.1,ty,(hs j hjl).1⟩,⟨aa,aa,dU aT,by rw[hb,Nat.max_self];omega,by show(dj (bJ s j).1 (bJ s j).2).1<_;omega,(hs j hjl).2⟩,j+1,hjl,by dsimp only;omega,[(0,24577)],rfl,rfl,rfl,bk rfl rfl rfl (fun i hi=>?_) trivial⟩
   by_cases hi2:i<j+1
   ·rw[if_pos hi2];exact bK rfl rfl
   ·rw[if_neg hi2,show i-(j+1)+0=0 by omega,show i=j+1 by omega];exact bK rfl rfl
  ·have hjl:j=eV s:=by
    rcases Nat.lt_or_ge j (eV s)with h'|h'
    ·have:=g3 j h';omega
    ·omega
   exact⟨rfl,j,hjl,[(0,0)],rfl,rfl,rfl,bk rfl rfl rfl (fun i hi=>bK rfl rfl) trivial⟩
 ·subst hj
  exact .refl _
abbrev sK:Nat:=4096
abbrev ls (k:Nat->Rat) (n:Nat):AV:=bp k n sK
abbrev Pk (n:Nat) (k:Nat->Rat) (i:Nat):List AV:=[ls k n,.ptr 0 0 3 0 [],.int .i64 i,.int .i64 0,.int .i64 0]
theorem Yr {a b:Rat}:js a b>=0↔b<=a:=by
 have:=@AB a b
 constructor
 ·intro h
  have:¬a<b:=fun h'=>by have:=AB.2 h';omega
  grind
 ·intro h
  have:¬js a b<0:=fun h'=>by have:=AB.1 h';grind
  omega
def Rd (n:Nat) (k:Nat->Rat) (t:Rat):Prop:=t<k 0\/k (n-1)<t
instance {n:Nat} {k:Nat->Rat} {t:Rat}:Decidable (Rd n k t):=inferInstanceAs (Decidable (t<k 0\/k (n-1)<t))
def PC (k:Nat->Rat) (i:Nat) (t:Rat) (d j:Nat):Rat:=if j=0 then 0 else fr (k (i-d+(j-1))) (k (i-d+(j-1)+(d+1))) t*vB k i t d (j-1)
theorem Wg:br 56 f56:=bu func56
theorem aeX:br 113 f113:=bu func113
def yb (k:Nat->Rat) (t:Rat):Nat->Nat
 |0=>0
 |i+1=>yb k t i+if k i=t then 1 else 0
def SC (k:Nat->Rat) (i:Nat):Prop:=i=0\/k i≠k (i-1)
instance {k:Nat->Rat} {i:Nat}:Decidable (SC k i):=inferInstanceAs (Decidable (i=0\/k i≠k (i-1)))
def afD (n:Nat) (k:Nat->Rat) (p:Nat) (t:Rat):Prop:=((t=k 0\/t=k (n-1))/\yb k t n≠p+1)\/(¬(t=k 0\/t=k (n-1))/\p<yb k t n)
instance {n:Nat} {k:Nat->Rat} {p:Nat} {t:Rat}:Decidable (afD n k p t):=inferInstanceAs (Decidable (((t=k 0\/t=k (n-1))/\yb k t n≠p+1)\/(¬(t=k 0\/t=k (n-1))/\p<yb k t n)))
def loadT (o:Oper):Nat:=match o.op with
 |.load t _=>t
 |_=>0
def YL (o:Oper):Nat:=match o.op with
 |.binOp _ t _ _ _=>t
 |_=>0
def Yp (o:Oper):Array TypeId:=match o.op with
 |.call c=>c.argTypes
 |_=>#[]
def unT (o:Oper):Nat:=match o.op with
 |.unOp _ t _=>t
 |_=>0
def Ow:Code->Code×Code
 |.block _ (.rangeFunc _ _ x y)=>(x,y)
 |_=>(.skip,.skip)
def g9 (a:PP) (t:Rat):Prop:=∀m,m<=a.1->Sz (fH a.1 a.2 t m) ag
abbrev OE:FuncId:=127
abbrev Cl:FuncId:=163
abbrev vp:Code:=aI f163
def bV (v:AV):PP:=match rW v with
 |some (n,f)=>(n,fun i=>aQ (f i))
 |none=>(0,fun _=>0)
abbrev fK (n:Nat) (c:Nat->PP):AV:=.ak 1 n fun i=>aG (c i)
def mW:Kind (Nat×(Nat->PP)):=⟨fun v=>match v with
 |.ak 1 n f=>some ((n,fun i=>bV (f i)),[∀i,i<n->bg (f i) (aG (bV (f i)))])
 |_=>none,fun a=>fK a.1 a.2,fun {v a q} h hq=>by
  split at h
  ·simp only[ay,Prod.mk.injEq]at h
   obtain⟨rfl,rfl⟩:=h
   exact ir hq
  ·simp at h⟩
def nN:Spec:=en (kC (kL ag) (kC (eZ ag) kN)) (fun a=>.rat (cE a.1 a.2.1) ag) fun a=>[a.1.1<2^40,g9 a.1 a.2.1]
def cT (c:Nat->PP) (t:Rat) (i:Nat):Int:=bN (cE (c i) t)
def Bk:bz:=zG::(66,nN)::iC
abbrev xU:Code:=aI f122
abbrev zQ:List Nat:=[3,5,6,10,11,12]
abbrev Bq (n:Nat) (c:Nat->PP) (l:Int) (m i:Nat):List AV:=[.ptr 0 0 3 0 [],.int .i64 l,.int .i64 m,fK n c,.int .i64 n,.int .i64 i]
def cL (n:Nat) (c:Nat->PP) (t:Rat):Prop:=∀i,i<n->(c i).1<2^40/\g9 (c i) t
def KB:Spec:=en (kC mW (kC (eZ ag) kN)) (fun a=>.int .i64 ((bW (cT a.1.2 a.2.1) a.1.1).2:Nat)) fun a=>[a.1.1<2^40,cL a.1.1 a.1.2 a.2.1]
def JU:bz:=nG::(122,KB)::(66,nN)::iC
def eW (n:Nat) (c:Nat->PP) (a b:Rat):Int:=if a>=b then 0 else((bW (cT c a) n).2:Int)-((bW (cT c b) n).2:Int)-(if cE (c 0) b=0 then 1 else 0)
theorem agA:br OE f127:=bu func127
theorem Fw:br Cl f163:=bu func163
theorem NW:br 66 f66:=bu func66
theorem V5:br 122 f122:=bu func122
theorem SI:br 60 f60:=bu func60
abbrev La:Nat:=loadT (eR vp [0] 0)
abbrev Oe:Nat:=loadT (eR vp [1,0,0,1,0,0,0] 5)
abbrev T5:Nat:=YL (eR vp [0] 2)
theorem XD:M3 vp La Oe T5:=⟨ah,⟨ah,ah,ah⟩,⟨ah,ah,ah⟩,⟨ah,ah,ah⟩,⟨ah,ah,ah⟩,⟨ah,ah,ah⟩,⟨ah,ah,ah⟩,⟨ah,ah,ah⟩,⟨ah,ah,ah⟩,⟨ah,ah,ah⟩,⟨ah,ah,ah⟩,⟨ah,ah,ah⟩,⟨ah,ah,ah⟩,
 ⟨Yp (eR vp [1,0,0,1,0,0,0] 6),ah,ah,ah⟩,⟨unT (eR vp [1,0,0,1,0,0,0] 7),ah,ah,ah⟩,⟨ah,ah,ah⟩,⟨ah,ah,ah⟩,⟨ah,ah,ah⟩⟩
theorem afx {n s:Nat} {k:Nat->Rat} (hn:n<2^62):A3 P Cl [.b9 (bp k n s)] n (fun i=>.int .i64 ((n:Int)-1-i)) (fun i=>.rat (k (n-1-i)) s):=
 Th hT (tiS:=(look La T).getD ⟨.bool,0,0,.nil⟩) (tiE:=(look Oe T).getD ⟨.bool,0,0,.nil⟩) ah ah ah ah Fw.get Fw.body ah ah XD (f:=fun i=>.rat (k i) s) hn ah fun i hi=>⟨rfl,rfl⟩
def zF:bz:=nG::(OE,ET T [sG] [] 20 f127)::iC
abbrev zg:List Nat:=[3,4,5,9]
abbrev Fc (a:PP):List AV:=[.ptr 0 0 3 0 [],.ptr 1 0 3 0 [],.ptr 2 0 3 0 [],.func Cl [.b9 (aG a)]]
abbrev tR (q:Rat) (s:Nat):ax:=⟨false,true,3,1,fun _=>.rat q s⟩
abbrev ry (t x:Rat):aE:=[(2,tR x ag),(1,tR 0 1),(0,tR t ag)]
abbrev GH:List Nat:=[3,4,5,9,7]
abbrev J3 (a:PP):List AV:=[.ptr 0 0 3 0 [],.ptr 1 0 3 0 [],.ptr 2 0 3 0 [],.func Cl [.b9 (aG a)],.ptr 3 0 3 0 []]
abbrev uc:Code:=aI f66
abbrev O0:Code:=(Ow (part uc [1,1,0,1])).1
abbrev I8:Code:=(Ow (part uc [1,1,0,1])).2
theorem ahv {a:PP} {t:Rat}:aH T zF [] 60 zg (before uc [1,1,0,1]) ⟨aU 0 [aG a,.rat t ag],[],0⟩=
  let c1:ax:=gP fun x=>rat 0 1;some (leaf normal ([ptr 0 0 (eC (rat t ag)).size 0 [],ptr 4096 0 3 0 [],ptr 8192 0 3 0 [],func 163 [(ak 3 a.fst fun i=>rat (a.snd i) ag).b9]],[((8192:Nat),c1),((4096:Nat),c1),(0,ax.mk false true (eC (rat t ag)).size 1 fun x=>rat t ag)])):=ah
theorem aay {a:PP} {t x v:Rat} {u:Int}:aH T zF [] 60 GH [O0] ⟨aB (zg++[10,11]) (Fc a++[.int .i64 u,.rat v ag]),ry t x,3⟩=
  let c1:AV:=rat 0 1;some (aj [(0:Nat)<1] (leaf normal ([ptr 0 0 3 0 [],ptr 1 0 3 0 [],ptr 2 0 3 0 [],func 163 [(ak 3 a.fst fun i=>rat (a.snd i) ag).b9],ptr 3 0 3 0 []],[((3:Nat),gP fun j=>if(j==0)=true then eC (rat v ag)else c1),((2:Nat),gP fun x_1=>rat x ag),((1:Nat),gP fun x=>c1),((0:Nat),gP fun x=>rat t ag)]))):=ah
theorem Tq {a:PP} {t x v:Rat}:aH T zF [] 60 zg [I8] ⟨aB GH (J3 a),(3,tR v ag)::ry t x,4⟩=
  let c2:Prop:=0<1;let c1:Nat:=2^42;some (aj [c2,c2,ag<c1,ag<c1,c2,ag+ag<c1,ag<c1,c2] (leaf normal ([ptr 0 0 3 0 [],ptr 1 0 3 0 [],ptr 2 0 3 0 [],func 163 [(ak 3 a.fst fun i=>rat (a.snd i) ag).b9]],[((2:Nat),gP fun j=>if(j==0)=true then eC (w7 (x*t,ag+ag) (v,ag))else rat x ag),((1:Nat),gP fun x=>rat 0 1),((0:Nat),gP fun x=>rat t ag)]))):=ah
theorem aaI {a:PP} {t x:Rat}:cR T zF [] 60 f66 [part uc [1,1,1]] ⟨aB zg (Fc a),ry t x,3⟩=
  let c1:Prop:=0<1;some (aj [c1,c1] (aj [c1] (leaf ret [rat x ag]))):=ah
theorem acf {n:Nat} {c:Nat->PP} {t:Rat}:aH T Bk [] 60 zQ (before xU [1,1,0,1]) ⟨aU 0 [fK n c,.rat t ag],[],0⟩=
  let c1:AV:=int i64 0;some (leaf normal ([ptr 0 0 (eC (rat t ag)).size 0 [],c1,c1,ak 1 n fun i=>ak 3 (c i).fst fun i_1=>rat ((c i).snd i_1) ag,int i64 (↑n:Int),c1],[(0,ax.mk false true (eC (rat t ag)).size 1 fun x=>rat t ag)])):=ah
theorem Y7 {n m i:Nat} {c:Nat->PP} {l:Int} {t:Rat}:aH T Bk [13,23,27] 60 zQ [part xU [1,1,0,1,0,0]] ⟨aB zQ (Bq n c l m i),[(0,tR t ag)],1⟩=
  let c14:Int:=(↑n:Int);let c11:AV:=int i64 (↑m:Int);let c9:Int:=(↑m:Int)+1;let c8:AV:=ak 1 n fun i=>ak 3 (c i).fst fun i_1=>rat ((c i).snd i_1) ag;let c7:Int:=(2:Int)^63;let c6:Int:=(↑i:Int);let c5:AV:=ptr 0 0 3 0 [];let c3:List (Nat×ax):=[((0:Nat),gP fun x=>rat t ag)];let c13:Int:=c6+1;let c12:PP:=c c6.toNat;let c10:Nat×(Nat->Rat):=(c12.fst,fun i=>aQ (rat (c12.snd i) ag));let c4:List Prop:=[-c7<=c13/\c13<c7];let c2:List AV:=[c8,int i64 c14,int i64 c13];let c1:Int:=bN (cE c10 t);some (fork (decide (c6<c14)) (aj [(0:Int)<=c6/\c6.toNat<n] (aj [(0:Nat)<1,cZ (fun i=>rat (c12.snd i) ag) c12.fst ag,ag<=ag,c12.fst<2^40,g9 c10 t,ag<2^42] (aj [-c7<=c1*l/\c1*l<c7] (fork (decide (c1*l<0)) (aj [-c7<=c9/\c9<c7] (fork (c1 !=(0:Int)) (aj c4 (leaf normal (c5::int i64 c1::int i64 c9::c2,c3))) (aj c4 (leaf normal (c5::int i64 l::int i64 c9::c2,c3))))) (fork (c1 !=(0:Int)) (aj c4 (leaf normal (c5::int i64 c1::c11::c2,c3))) (aj c4 (leaf normal (c5::int i64 l::c11::c2,c3)))))))) (leaf (exit 0) ([c5,int i64 l,c11,c8,int i64 c14,int i64 c6],c3))):=ah
theorem Ud {n m i:Nat} {c:Nat->PP} {l:Int} {t:Rat}:cR T Bk [] 60 f122 [part xU [1,1,1]] ⟨aB zQ (Bq n c l m i),[(0,tR t ag)],1⟩=
  some (leaf ret [int i64 (↑m:Int)]):=ah
theorem U9 {n:Nat} {c:Nat->PP} {x y:Rat}:cB T JU [11,25] 60 f60 (aI f60) ⟨aU 0 [fK n c,.rat x ag,.rat y ag],[],0⟩=
  let c6:Nat:=2^40;let c5:Prop:=ag<2^42;let c4:Int:=(2:Int)^63;let c3:Prop:=0<1;let c2:PP:=c (Int.toNat (0:Int));let c1:Int:=(↑(bW (cT (fun i=>bV (aG (c i))) x) n).snd:Int)-(↑(bW (cT (fun i=>bV (aG (c i))) y) n).snd:Int);let c8:Int:=c1-1;let c7:Nat×(Nat->Rat):=(c2.fst,fun i=>aQ (rat (c2.snd i) ag));some (aj [c3,c3,c5,c5] (fork (decide (js x y>=0)) (leaf ret [int i64 0]) (aj [c3,∀(i:Nat),i<n->bg (aG (c i)) (aG (bV (aG (c i)))),ag<=ag,n<c6,cL n (fun i=>bV (aG (c i))) x,c3,∀(i:Nat),i<n->bg (aG (c i)) (aG (bV (aG (c i)))),ag<=ag,n<c6,cL n (fun i=>bV (aG (c i))) y,-c4<=c1/\c1<c4] (aj [(0:Int)<=0/\Int.toNat (0:Int)<n,c3,cZ (fun i=>rat (c2.snd i) ag) c2.fst ag,ag<=ag,c2.fst<c6,g9 c7 y,c5] (fork (bN (cE c7 y)==0) (aj [-c4<=c8/\c8<c4] (leaf ret [int i64 c8])) (leaf ret [int i64 c1])))))):=ah
theorem MO:bU P zF:=jq (aL (LK hT (Aw cG) hm agA _ _) iF)
theorem ZC {a:PP} {t:Rat} (hn:a.1<2^40) (hz:g9 a t) (K:Nat):aS P 66 K [aG a,.rat t ag] [] (aM (.rat (cE a t) ag) []):=by
 have hW:=cY
 refine WD (r:=aM (.rat (cE a t) ag) []) hT NW rfl aZ rfl (fun _ cx hro hk=>?_) K []
 refine au.adW hT MO hm (x:=uc) (assign:=O0) (body:=I8) (g:=9) (p0:=10) (p1:=11) [1,1,0,1] (i:=0) ah ah NW.dst hro hk Fw.enters (afx (s:=ag) (k:=a.2) (n:=a.1) aa) aZ aZ (by decide) (f1:=[]) (f2:=[]) (f3:=[])
  60 zg GH (Fc a) (fun _=>rfl) rfl (fun i=>ry t (fH a.1 a.2 t i)) 3 4 (fun _=>J3 a) (fun i=>(3,tR (a.2 (a.1-1-i)) ag)::ry t (fH a.1 a.2 t i)) [0,1,2] ⟨_,ahv,?_⟩ (fun i hi=>⟨_,aay,?_⟩) (fun i hi=>⟨_,Tq,?_⟩) ?_
 ·simp only[af.all,az]
  exact⟨trivial,[(0,0),(1,4096),(2,8192)],rfl,rfl,rfl,kj rfl rfl (.inr ⟨rfl,dM rfl aa⟩) (dx (dx trivial))⟩
 ·simp only[af.all,az]
  exact⟨aa,trivial,[(0,0),(1,1),(2,2),(3,3)],rfl,rfl,rfl,dx (dx (dx (dx trivial)))⟩
 ·simp only[af.all,az]
  exact⟨aa,trivial,[(0,0),(1,1),(2,2)],rfl,rfl,rfl,kj rfl rfl (.inr ⟨rfl,dY rfl (hz (i+1) hi)⟩) (dx (dx trivial))⟩
 ·rw[show behind uc [1,1,0,1]=[part uc [1,1,1]]from by kernel_rfl]
  exact(aF.fin hT MO hm 60 aaI ah (by simp only[af.all,az];exact⟨aa,aa,.refl _⟩)).mono fun _ _ h=>.inl h
theorem AM:bf P nN 66:=dO fun⟨a,t,_⟩ K hn=>ZC hn.1 hn.2 K
theorem NG (q:Rat):-1<=bN q/\bN q<=1:=by unfold bN;split<;>(try split)<;>omega
theorem s7 {s:Nat->Int} (h:∀i,-1<=s i/\s i<=1):∀i,(-1<=(bW s i).1/\(bW s i).1<=1)/\(bW s i).2<=i
 |0=>⟨⟨show(-1:Int)<=0 by decide,show(0:Int)<=1 by decide⟩,aT⟩
 |i+1=>by
  have ih:=s7 h i
  have hi:=h i
  refine⟨?_,?_⟩
  ·show-1<=(if s i=0 then(bW s i).1 else s i)/\(if s i=0 then(bW s i).1 else s i)<=1
   split
   ·exact ih.1
   ·exact hi
  ·show(if s i*(bW s i).1<0 then(bW s i).2+1 else(bW s i).2)<=i+1
   split<;>omega
theorem wD {c:Nat->PP} {t:Rat} (i:Nat):-1<=cT c t i/\cT c t i<=1:=NG _
theorem ahU {a b:Int} (ha:-1<=a/\a<=1) (hb:-1<=b/\b<=1):-1<=a*b/\a*b<=1:=by
 rcases(show a=-1\/a=0\/a=1 by omega)with rfl|rfl|rfl<;>omega
theorem S5:bU P Bk:=gH (aL AM iF)
theorem W8 {n:Nat} {c:Nat->PP} {t:Rat} (hn:n<2^40) (hz:cL n c t) (K:Nat):aS P 122 K [fK n c,.rat t ag] [] (aM (.int .i64 ((bW (cT c t) n).2:Nat)) []):=by
 have hW:=cY
 refine iW (r:=aM (.int .i64 ((bW (cT c t) n).2:Nat)) []) hT S5 hm V5 rfl aZ rfl [1,1,0,1] (i:=0) (y:=part xU [1,1,0,1,0,0]) (z:=part xU [1,1,1]) ah ah ah (f1:=[]) (f2:=[13,23,27]) (f3:=[]) 60 zQ 1
  (fun i:Nat=>Bq n c (bW (cT c t) i).1 (bW (cT c t) i).2 i) (fun _=>[(0,tR t ag)]) (fun i=>i<=n) (fun i=>i=n) (fun i=>n-i) (fun _=>⟨⟨_,acf,?_⟩,fun i hi=>⟨_,Y7,?_⟩,fun i hi=>⟨_,Ud,?_⟩⟩) K []
 ·simp only[af.all,az]
  exact⟨0,Nat.zero_le _,[(0,0)],rfl,rfl,rfl,dx trivial⟩
 ·obtain⟨h1,h2⟩:=s7 (s:=cT c t) wD i
  have h3:=wD (c:=c) (t:=t) i
  have h4:=ahU h3 h1
  have e1:bN (cE (c i) t)=cT c t i:=rfl
  have e2:(bW (cT c t) (i+1)).1=if cT c t i=0 then(bW (cT c t) i).1 else cT c t i:=rfl
  have e3:(bW (cT c t) (i+1)).2=if cT c t i*(bW (cT c t) i).1<0 then(bW (cT c t) i).2+1 else(bW (cT c t) i).2:=rfl
  simp only[af.all,az,bD,bI,bG,bne_iff_ne,ne_eq,bne_eq_false_iff_eq]
  show((i:Int)<n->_/\(_/\cZ _ _ _/\_/\_/\g9 (c i) t/\_)/\(-2^63<=cT c t i*_/\cT c t i*_<2^63)/\(cT c t i*_<0->_/\(¬cT c t i=0->_)/\(cT c t i=0->_))/\(¬cT c t i*_<0->(¬cT c t i=0->_)/\(cT c t i=0->_)))/\_
  have re:∀{l:Int} {m:Int},l=(bW (cT c t) (i+1)).1->m=((bW (cT c t) (i+1)).2:Nat)->dP [] ([.ptr 0 0 3 0 [],.int .i64 l,.int .i64 m,fK n c,.int .i64 n,.int .i64 ((i:Int)+1)],[((0:Nat),tR t ag)]) (Bq n c (bW (cT c t) (i+1)).1 (bW (cT c t) (i+1)).2 (i+1)) [(0,tR t ag)] 1:=fun {l m} hl hm=>by
   subst hl hm
   exact⟨[(0,0)],rfl,by rw[show(i:Int)+1=((i+1:Nat):Int) by omega];rfl,rfl,dx trivial⟩
  refine⟨fun h=>⟨aa,⟨aa,dU aT,aT,(hz i aa).1,(hz i aa).2,aa⟩,aa,fun h5=>⟨aa,fun h6=>⟨aa,i+1,aa,by dsimp only;omega,re (by rw[e2,if_neg h6];rfl) (by rw[e3,if_pos h5];omega)⟩,fun h6=>⟨aa,i+1,aa,by dsimp only;omega,re (by rw[e2,if_pos h6]) (by rw[e3,if_pos h5];omega)⟩⟩,
   fun h5=>⟨fun h6=>⟨aa,i+1,aa,by dsimp only;omega,re (by rw[e2,if_neg h6];rfl) (by rw[e3,if_neg h5])⟩,fun h6=>⟨aa,i+1,aa,by dsimp only;omega,re (by rw[e2,if_pos h6]) (by rw[e3,if_neg h5])⟩⟩⟩,fun h=>⟨rfl,i,aa,[(0,0)],rfl,rfl,rfl,dx trivial⟩⟩
 ·subst hi;exact .refl _
theorem ahH:bf P KB 122:=dO fun⟨⟨n,c⟩,t,_⟩ K hn=>W8 hn.1 hn.2 K
theorem WV:bU P JU:=jq (aL ahH (aL AM iF))
theorem ahD {n:Nat} {c:Nat->PP} {x y:Rat} (h0:0<n) (hn:n<2^40) (hx:cL n c x) (hy:cL n c y) (K:Nat):aS P 60 K [fK n c,.rat x ag,.rat y ag] [] (aM (.int .i64 (eW n c x y)) []):=by
 have hW:=cY
 refine cF hT WV hm SI rfl aZ rfl 60 U9 (fun _=>?_) K []
 have hbx:=(s7 (s:=cT c x) wD n).2
 have hby:=(s7 (s:=cT c y) wD n).2
 simp only[af.all,az,Yr,bD,bI,pR]
 show _/\(x>=y->_)/\(¬x>=y->(_/\(∀i,i<n->bg (aG (c i)) (aG (c i)))/\_/\_/\cL n c x/\_/\_/\_/\_/\cL n c y/\(-2^63<=((bW (cT c x) n).2:Int)-((bW (cT c y) n).2:Int)/\((bW (cT c x) n).2:Int)-((bW (cT c y) n).2:Int)<2^63))/\(_/\_/\_/\_/\_/\g9 (c 0) y/\_)/\(cE (c 0) y=0->_)/\(¬cE (c 0) y=0->_))
 refine⟨aa,fun h=>?_,fun h=>⟨⟨aa,fun i _=>.refl _,aT,hn,hx,aa,fun i _=>.refl _,aT,hn,hy,aa⟩,⟨aa,aa,dU aT,aT,(hy 0 h0).1,(hy 0 h0).2,aa⟩,fun h2=>⟨?_,?_⟩,fun h2=>?_⟩⟩
 ·exact cq (if_pos h).symm
 ·show-2^63<=((bW (cT c x) n).2:Int)-((bW (cT c y) n).2:Int)-1/\((bW (cT c x) n).2:Int)-((bW (cT c y) n).2:Int)-1<2^63
  omega
 ·exact cq (by unfold eW;rw[if_neg h,if_pos h2];rfl)
 ·exact cq (by unfold eW;rw[if_neg h,if_neg h2,Int.sub_zero];rfl)
def Cp:Spec:=en (kC mW (kC (eZ ag) (kC (eZ ag) kN))) (fun a=>.int .i64 (eW a.1.1 a.1.2 a.2.1 a.2.2.1)) fun a=>[0<a.1.1,a.1.1<2^40,cL a.1.1 a.1.2 a.2.1,cL a.1.1 a.1.2 a.2.2.1]
theorem Fk:bf P Cp 60:=dO fun⟨⟨n,c⟩,x,y,_⟩ K hn=>ahD hn.1 hn.2.1 hn.2.2.1 hn.2.2.2 K
def aJ (p:PP):PP:=(bH (gk p.1 p.2) p.1,gk p.1 p.2)
def aed (a:PP):PP:=(FD a.1,JZ a.1 a.2)
def mJ (p:PP):Prop:=1<=p.1/\p.1<=41/\sW p.1 p.2
def RJ (a:PP):Prop:=a.1<=41/\jU a.1 a.2
abbrev aR (a:PP):Prop:=cZ (fun i=>.rat (a.2 i) ag) a.1 ag
def yP:Spec:=en (kC (kL ag) kN) (fun a=>aG (aJ a.1)) fun a=>[mJ a.1]
def OY:Spec:=en (kC (kL ag) kN) (fun a=>aG (aed a.1)) fun a=>[RJ a.1]
def yg:Spec:=en (kC (kL ag) (kC (kL ag) kN)) (fun a=>.tuple [aG (fA a.1 a.2.1),aG (dj a.1 a.2.1)]) fun a=>[a.1.1<2^30,1<=a.2.1.1,a.2.1.1<2^30,Trim a.1,Trim a.2.1,mw a.1 a.2.1]
def AD (a:PP):Prop:=a.1<2^30/\Trim a/\cN (a.1-1) (cO a.2)/\xT a
def pY (a:PP):Prop:=AD a/\cN ((bh a).1-1) (cO (bh a).2)/\wT (dQ a)
def MM:Spec:=en (kC (kL ag) kN) (fun a=>aG (bh a.1)) fun a=>[AD a.1]
def bS (a:PP) (i:Nat):PP:=(bJ (dQ a) i).1
def b7 (a:PP):Nat:=eV (dQ a)+1
def FX:Spec:=en (kC (kL ag) kN) (fun a=>fK (b7 a.1) (bS a.1)) fun a=>[pY a.1]
def I6:bz:=zG::(57,yP)::(88,yg)::(81,OY)::(80,MM)::(72,AG)::(59,FX)::(60,Cp)::iC
def p6 (p:PP) (a b:Rat):Int:=if(aJ p).1=0 then 3 else if a>b then 7 else 0
def uj (p:PP) (a b:Rat):Int:=if p6 p a b=0 then eW (b7 (aJ p)) (bS (aJ p)) a b else 0
theorem VD:br 16 f16:=bu func16
theorem ab8 {p:PP} {a b:Rat}:cB T I6 [11,15] 60 f16 (aI f16) ⟨aU 0 [aG p,.rat a ag,.rat b ag],[],0⟩=
  some (aj [aR p,mJ p] (fork (((aJ p).1:Int)==0) (leaf ret [int i64 0,int i64 3]) (aj [(0:Nat)<1,(0:Nat)<1,ag<2^42,ag<2^42] (fork (decide (js a b>0)) (leaf ret [int i64 0,int i64 7]) (aj [aR (aJ p),pY (aJ p),(0:Nat)<1,(0:Nat)<1,∀i,i<b7 (aJ p)->bg (aG (bS (aJ p) i)) (aG (bS (aJ p) i)),ag<=ag,ag<=ag,0<b7 (aJ p),b7 (aJ p)<2^40,cL (b7 (aJ p)) (bS (aJ p)) a,cL (b7 (aJ p)) (bS (aJ p)) b] (leaf ret [int i64 (eW (b7 (aJ p)) (bS (aJ p)) a b),int i64 0])))))):=ah
theorem HY:bf P yP 57:=dO fun⟨a,_⟩ K hn=>afq hn.1 hn.2.1 hn.2.2 K
theorem Rs:bf P OY 81:=dO fun⟨a,_⟩ K hn=>SV hn.1 hn.2 K
theorem WB:bf P yg 88:=dO fun⟨⟨n,a⟩,⟨m,d⟩,_⟩ K hn=>by
 obtain⟨h1,h2,h3,h4,h5,h6⟩:=hn
 simp only at h1 h2 h3
 obtain⟨e,rfl⟩:∃e,m=e+1:=⟨m-1,aa⟩
 have hd:d e≠0:=h5.resolve_left (Nat.succ_ne_zero e)
 cases n with
 |zero=>exact Me aa K
 |succ n=>exact NC h1 aa (h4.resolve_left (Nat.succ_ne_zero n)) hd h6 K
theorem aa3:bf P MM 80:=dO fun⟨a,_⟩ K hn=>MF hn.1 hn.2.1 hn.2.2.1 hn.2.2.2 K
theorem NN:bf P FX 59:=dO fun⟨a,_⟩ K hn=>afP hn.1.1 hn.1.2.1 hn.1.2.2.1 hn.1.2.2.2 hn.2.1 hn.2.2 K
theorem TV:bU P I6:=gH (aL HY (aL WB (aL Rs (aL aa3 (aL ER (aL NN (aL Fk iF)))))))
theorem eF {a:PP}:aR a:=dU aT
def A8 (p:PP) (a b:Rat):Prop:=mJ p/\((aJ p).1≠0->pY (aJ p)/\b7 (aJ p)<2^40/\cL (b7 (aJ p)) (bS (aJ p)) a/\cL (b7 (aJ p)) (bS (aJ p)) b)
theorem TO {p:PP} {a b:Rat} (hz:A8 p a b) (K:Nat):aS P 16 K [aG p,.rat a ag,.rat b ag] [] (aM (.tuple [.int .i64 (uj p a b),.int .i64 (p6 p a b)]) []):=by
 obtain⟨hp,hz⟩:=hz
 have hW:=cY
 refine cF hT TV hm VD rfl aZ rfl 60 ab8 (fun _=>?_) K []
 have hgt:∀{x y:Rat},js x y>0↔x>y:=OX
 simp only[af.all,az,beq_iff_eq,beq_eq_false_iff_ne,bD,bI,hgt]
 refine⟨⟨eF,hp⟩,fun h=>?_,fun h=>⟨aa,fun h2=>?_,fun h2=>?_⟩⟩
 ·have h0:(aJ p).1=0:=aa
  have e1:p6 p a b=3:=if_pos h0
  exact⟨cq (by unfold uj;rw[e1];rfl),cq e1.symm,trivial⟩
 ·have h0:¬(aJ p).1=0:=aa
  have e1:p6 p a b=7:=by unfold p6;rw[if_neg h0,if_pos h2]
  exact⟨cq (by unfold uj;rw[e1];rfl),cq e1.symm,trivial⟩
 ·have h0:¬(aJ p).1=0:=aa
  have e1:p6 p a b=0:=by unfold p6;rw[if_neg h0,if_neg h2]
  obtain⟨z1,z2,z3,z4⟩:=hz h0
  exact⟨⟨eF,z1,aa,aa,fun i _=>.refl _,aT,aT,Nat.succ_pos _,z2,z3,z4⟩,cq (by unfold uj;rw[if_pos e1]),cq e1.symm,trivial⟩
def lV:bz:=zG::iK
def z6:bz:=zG::(46,B5)::iK
abbrev yd:Code:=aI f91
abbrev x5:List Nat:=[0,1,4,5,6]
abbrev Gw (n k i:Nat):List AV:=[.int .i64 n,.int .i64 k,.ptr 0 0 3 0 [],.ptr 1 0 3 0 [],.int .i64 i]
abbrev DI (x:Rat):aE:=[(1,tR x 64),(0,tR 0 1)]
def Cs:Spec:=cw fun l=>match l with
 |[.int .i64 n,.int .i64 k]=>some (aM (.rat ((bn n.toNat k.toNat:Int):Rat) 64) [0<=k,k<=n,n<=40])
 |_=>none
def rQ:bz:=zG::(91,Cs)::iK
abbrev xV:Code:=aI f123
abbrev yh:Code:=part xV [1,1,1,1,0,1,0,0]
abbrev yC:Code:=part yh [1,0,0]
abbrev sF:List Nat:=[3,4,5,6]
abbrev As (m k:Nat):List AV:=[.int .i64 m,.own 0 3 0 (m+1-k),.own 1 3 0 k,.int .i64 k]
abbrev xF:List Nat:=[3,4,5,6,7]
abbrev DY (m k i:Nat):List AV:=[.int .i64 m,.own 0 3 0 (m+1-k),.own 1 3 0 (k+1),.int .i64 k,.int .i64 i]
def BS:bz:=zG::(123,AH)::iK
abbrev xR:Code:=aI f61
abbrev nE:Code:=aI f151
theorem afc:br 91 f91:=bu func91
theorem MY:br 123 f123:=bu func123
theorem Qz:br 61 f61:=bu func61
theorem Hw:br 151 f151:=bu func151
theorem Wx {n k:Nat}:aH T z6 [] 60 x5 (before yd [1,1,0,1]) ⟨aU 0 [.int .i64 n,.int .i64 k],[],0⟩=
  let c1:AV:=rat 0 1;some (aj [-(2:Int)^63<=(1:Int),(1:Int)<2^63,(0:Nat)<1] (leaf normal ([int i64 (↑n:Int),int i64 (↑k:Int),ptr 0 0 3 0 [],ptr 8192 0 3 0 [],int i64 0],[((8192:Nat),gP fun j=>if(j==0)=true then eC (rat (↑(1:Int):Rat) (Max.max 1 (bX (Int.natAbs (1:Int)))))else c1),((0:Nat),gP fun x=>c1)]))):=ah
theorem R9 {n k i:Nat} {x:Rat}:aH T z6 [10] 60 x5 [part yd [1,1,0,1,0,0]] ⟨aB x5 (Gw n k i),DI x,2⟩=
  let c9:Int:=(↑k:Int);let c8:Int:=(↑i:Int);let c7:Prop:=64<2^41;let c6:AV:=ptr 1 0 3 0 [];let c5:AV:=ptr 0 0 3 0 [];let c4:Nat×ax:=((0:Nat),gP fun x=>rat 0 1);let c1:Int:=(2:Int)^63;let c3:Int:=(↑n:Int)-c8;let c2:Int:=c8+1;some (fork (decide (c8<c9)) (aj [(0:Nat)<1,-c1<=c3/\c3<c1,-c1<=c2/\c2<c1,-c1<=c3,c3<c1,-c1<=c2,c2<c1,c7,c7,(0:Nat)<1] (aj [-c1<=c2/\c2<c1] (leaf normal ([int i64 (↑n:Int),int i64 c9,c5,c6,int i64 c2],[((1:Nat),gP fun j=>if(j==0)=true then eC (Fg (x,(64:Nat)) ((↑c3:Rat)/(↑c2:Rat),(64:Nat)))else rat x 64),c4])))) (leaf (exit 0) ([int i64 (↑n:Int),int i64 c9,c5,c6,int i64 c8],[((1:Nat),gP fun x_1=>rat x 64),c4]))):=ah
theorem ahl {n k i:Nat} {x:Rat}:cR T z6 [] 60 f91 [part yd [1,1,1]] ⟨aB x5 (Gw n k i),DI x,2⟩=
  let c1:Prop:=0<1;some (aj [c1,c1] (aj [c1] (leaf ret [rat x 64]))):=ah
theorem agS {m:Nat} {p:Nat->Rat}:aH T rQ [] 60 sF (before xV [1,1,1,1,0,1]) ⟨aU 0 [bp p (m+1) ag],[],0⟩=
  let c2:Nat:=0+(m+1);let c1:Int:=(↑(m+1):Int)-1;some (aj [-(2:Int)^63<=c1/\c1<2^63] (aj [(0:Nat)*3<=2^24,c2*((56:Nat)+1)*2<=2^47] (leaf normal ([int i64 c1,own 28672 3 0 c2,nil,int i64 0],[(28672,ax.mk true true 3 c2 fun i=>rat (p (i-0)) ag)])))):=ah
theorem Sn {m k:Nat} {d x:Nat->Rat}:aH T rQ [16] 60 sF (before yh [1,0]) ⟨aB sF (As m k),lH m d x k,2⟩=
  let c1:List AV×aE:=([int i64 (↑m:Int),own 0 3 0 (m+1-k),own 1 3 0 k,int i64 (↑k:Int)],[(1,ax.mk true true 3 k fun i=>rat (x i) ag),(0,ax.mk true true 3 (m+1) fun i=>rat (d i) ag)]);some (fork (decide ((↑k:Int)<=(↑m:Int))) (leaf normal c1) (leaf (exit 0) c1)):=ah
theorem ahe {m k:Nat} {d x:Nat->Rat}:aH T rQ [] 60 xF (before yC [1,0,1]) ⟨aB sF (As m k),lH m d x k,2⟩=
  let c4:Int:=(↑m:Int);let c3:Int:=(↑k:Int);let c2:Nat:=m+1;let c1:Nat:=Int.toNat (0:Int);some (aj [(0:Int)<=c3,c3<=c4,c4<=40,(0:Int)<=0/\c1<c2-k,c1+0<c2,(64:Nat)<2^41,ag<2^41,(1:Nat)*3<=2^24,(k+1)*((56:Nat)+1)*2<=2^47] (leaf normal ([int i64 c4,own 0 3 0 (c2-k),own 36866 3 0 (k+1),int i64 c3,int i64 0],[(36866,ax.mk true true 3 (k+1) fun i=>if i<k then rat (x i) ag else nth [rat ((↑(↑(bn c4.toNat c3.toNat):Int):Rat)*d (c1+0)) ((64:Nat)+ag)] (rat 0 1) (i-k+0)),(0,ax.mk true true 3 c2 fun i=>rat (d i) ag)]))):=ah
theorem aaD {m k i:Nat} {d x:Nat->Rat}:aH T rQ [33] 60 xF [part yC [1,0,1,0,0]] ⟨aB xF (DY m k i),lH m d x (k+1),2⟩=
  let c10:Prop:=ag<2^41;let c9:Int:=(↑i:Int);let c6:AV:=own 1 3 0 (k+1);let c5:Nat×ax:=(1,ax.mk true true 3 (k+1) fun i=>rat (x i) ag);let c2:Nat:=m+1;let c8:AV:=own 0 3 0 (c2-k);let c7:Prop:=(0:Int)<=c9/\c9.toNat<c2-k;let c4:Nat:=c9.toNat+0;let c1:Int:=c9+1;let c3:Prop:=-(2:Int)^63<=c1/\c1<2^63;some (aj [c3] (fork (decide (c1<(↑(c2-k):Int))) (aj [c3,(0:Int)<=c1/\c1.toNat<c2-k,c1.toNat+0<c2,c7,c4<c2,c10,c10,c7,c4<c2] (aj [c3] (leaf normal ([int i64 (↑m:Int),c8,c6,int i64 (↑k:Int),int i64 c1],[c5,(0,ax.mk true true 3 c2 fun j=>rat (bif j==c4 then d (c1.toNat+0)-d c4 else d j) (bif j==c4 then ag+ag+1 else ag))])))) (leaf (exit 2) ([int i64 (↑m:Int),c8,c6,int i64 (↑k:Int),int i64 c9],[c5,(0,ax.mk true true 3 c2 fun i=>rat (d i) ag)])))):=ah
theorem TR {m k i:Nat} {d x:Nat->Rat}:aH T rQ [] 60 sF (behind yC [1,0,1]++[part yh [1,1]]) ⟨aB xF (DY m k i),lH m d x (k+1),2⟩=
  let c4:Int:=(↑(m+1-k):Int);let c3:Int:=(↑k:Int)+1;let c2:Int:=(2:Int)^63;let c1:Int:=c4-1;some (aj [-c2<=c1/\c1<c2,(0:Int)<=0/\(0:Int)<=c1/\c1<=c1/\c1<=c4] (aj [-c2<=c3/\c3<c2] (leaf normal ([int i64 (↑m:Int),own 0 3 0 (c1.toNat-Int.toNat (0:Int)),own 1 3 0 (k+1),int i64 c3],[(1,ax.mk true true 3 (k+1) fun i=>rat (x i) ag),(0,ax.mk true true 3 (m+1) fun i=>rat (d i) ag)])))):=ah
theorem ags {m k:Nat} {d x:Nat->Rat}:cR T rQ [] 60 f123 [part xV [1,1,1,1,1]] ⟨aB sF (As m k),lH m d x k,2⟩=
  some (leaf ret [ak 3 k fun i=>rat (x (i+0)) ag]):=ah
theorem afF {n:Nat} {p:Nat->Rat}:aH T BS [] 60 [3] (before xR [1,1,0]) ⟨aU 0 [bp p n ag],[],0⟩=
  some (aj [cZ (fun i=>rat (p i) ag) n ag,(1:Nat)<=n,n<=41,sW n fun i=>aQ (rat (p i) ag)] (leaf normal ([ak 3 n fun i=>rat (gk n (fun i=>aQ (rat (p i) ag)) i) ag],[]))):=ah
theorem R5 {n:Nat} {k:Nat->Rat}:aH T BS [9,18] 60 [3] [part xR [1,1,0,0,0]] ⟨aB [3] [bp k n ag],[],0⟩=
  let c6:Int:=(↑n:Int);let c4:Int:=(2:Int)^63;let c3:af (List AV×aE):=leaf (exit 0) ([ak 3 n fun i=>rat (k i) ag],[]);let c5:Bool:=decide (c6>0);let c2:Int:=c6-1;let c1:af (List AV×aE):=aj [-c4<=c2/\c2<c4,(0:Int)<=0/\(0:Int)<=c2/\c2<=c2/\c2<=c6] (leaf normal ([ak 3 (c2.toNat-Int.toNat (0:Int)) fun i=>rat (k (i+Int.toNat (0:Int))) ag],[]));some (fork c5 (aj [c5=true,-c4<=c2/\c2<c4,(0:Int)<=c2/\c2.toNat<n,ag<2^41] (fork (bif true then bN (k c2.toNat)==0 else false) c1 c3)) (aj [c5=false] (fork false c1 c3))):=ah
theorem aav {n:Nat} {k:Nat->Rat}:cR T BS [] 60 f61 [part xR [1,1,1]] ⟨aB [3] [bp k n ag],[],0⟩=
  some (leaf ret [ak 3 n fun i=>rat (k i) ag]):=ah
theorem T3 {n:Nat} {k:Nat->Rat}:aH T lV [] 60 [0] (before nE [1,0]) ⟨aU 0 [bp k n ag],[],0⟩=
  some (leaf normal ([ak 3 n fun i=>rat (k i) ag],[])):=ah
theorem Xg {n:Nat} {k:Nat->Rat}:aH T lV [6,15] 60 [0] [part nE [1,0,0,0]] ⟨aB [0] [bp k n ag],[],0⟩=
  let c6:Int:=(↑n:Int);let c4:Int:=(2:Int)^63;let c3:af (List AV×aE):=leaf (exit 0) ([ak 3 n fun i=>rat (k i) ag],[]);let c5:Bool:=decide (c6>0);let c2:Int:=c6-1;let c1:af (List AV×aE):=aj [-c4<=c2/\c2<c4,(0:Int)<=0/\(0:Int)<=c2/\c2<=c2/\c2<=c6] (leaf normal ([ak 3 (c2.toNat-Int.toNat (0:Int)) fun i=>rat (k (i+Int.toNat (0:Int))) ag],[]));some (fork c5 (aj [c5=true,-c4<=c2/\c2<c4,(0:Int)<=c2/\c2.toNat<n,ag<2^41] (fork (bif true then bN (k c2.toNat)==0 else false) c1 c3)) (aj [c5=false] (fork false c1 c3))):=ah
theorem adf {n:Nat} {k:Nat->Rat}:cR T lV [] 60 f151 [part nE [1,1]] ⟨aB [0] [bp k n ag],[],0⟩=
  some (leaf ret [ak 3 n fun i=>rat (k i) ag]):=ah
theorem zj:bU P lV:=gH iP
theorem KM:bU P z6:=gH (aL HH iP)
theorem aaH {n i:Nat} (h:i<n):((bn n i:Int):Rat)*((((n:Int)-(i:Int):Int):Rat)/(((i:Int)+1:Int):Rat))=((bn n (i+1):Int):Rat):=by
 have h1:=Cx n i
 have h2:(((i:Int)+1:Int):Rat)≠0:=by
  intro h0
  have:((i:Int)+1:Int)=0:=by exact_mod_cast h0
  omega
 have h3:((bn n (i+1):Int):Rat)*(((i:Int)+1:Int):Rat)=((bn n i:Int):Rat)*(((n:Int)-(i:Int):Int):Rat):=by
  rw[<-Rat.intCast_mul,<-Rat.intCast_mul]
  congr 1
  have:((bn n (i+1)*(i+1):Nat):Int)=((bn n i*(n-i):Nat):Int):=by rw[Nat.mul_comm,h1,Nat.mul_comm]
  rw[Int.natCast_mul,Int.natCast_mul,Int.natCast_sub aa]at this
  exact this
 rw[Rat.div_def,<-Rat.mul_assoc,<-h3,Rat.mul_assoc,Rat.mul_inv_cancel _ h2,Rat.mul_one]
theorem acD {n k:Nat} (hk0:k<=n) (hn:n<=40) (K:Nat):aS P 91 K [.int .i64 n,.int .i64 k] [] (aM (.rat ((bn n k:Int):Rat) 64) []):=by
 refine iW (r:=aM (.rat ((bn n k:Int):Rat) 64) []) hT KM hm afc rfl aZ rfl [1,1,0,1] (i:=0) (y:=part yd [1,1,0,1,0,0]) (z:=part yd [1,1,1]) ah ah ah (f1:=[]) (f2:=[10]) (f3:=[]) 60 x5 2
  (fun i:Nat=>Gw n k i) (fun i=>DI ((bn n i:Int):Rat)) (fun i=>i<=k) (fun i=>i=k) (fun i=>k-i) (fun _=>⟨⟨_,Wx,?_⟩,fun i hi=>⟨_,R9,?_⟩,fun i hi=>⟨_,ahl,?_⟩⟩) K []
 ·simp only[af.all,az]
  exact⟨⟨aa,aa,aa⟩,0,Nat.zero_le _,[(0,0),(1,8192)],rfl,rfl,rfl,kj rfl rfl (.inr ⟨rfl,dM (by rw[rF];rfl) (by decide)⟩) (dx trivial)⟩
 ·have h1:=BZ (n:=n) (k:=i+1) hn
  simp only[af.all,az,bD,bI]
  refine⟨fun h=>⟨⟨aa,aa,aa,aa,aa,aa,aa,aa,aa,aa⟩,aa,i+1,aa,by dsimp only;omega,[(0,0),(1,1)],rfl,by rw[show(i:Int)+1=((i+1:Nat):Int) by omega];rfl,rfl,kj rfl rfl (.inr ⟨rfl,dY (aaH aa) (ze (y:=0) aa aa)⟩) (dx trivial)⟩,fun h=>⟨rfl,i,aa,[(0,0),(1,1)],rfl,rfl,rfl,dx (dx trivial)⟩⟩
 ·subst hi
  simp only[af.all,az]
  exact⟨⟨aa,aa⟩,aa,.refl _⟩
theorem EY:bf P Cs 91:=by
 refine dc fun K args r hk hs _=>?_
 split at hs
 ·rename_i n k
  simp only[ay]at hs
  subst hs
  intro hn
  have h1:0<=k:=hn.1
  have h2:k<=n:=hn.2.1
  have h3:n<=40:=hn.2.2
  have:=acD (n:=n.toNat) (k:=k.toNat) aa aa K
  rw[Int.toNat_of_nonneg h1,Int.toNat_of_nonneg aa]at this
  exact this trivial
 ·simp at hs
theorem Kh:bU P rQ:=gH (aL EY iP)
theorem ae1 {m:Nat} {p:Nat->Rat} (hm1:m<=40) (hz:sW (m+1) p) (K:Nat):aS P 123 K [bp p (m+1) ag] [] (aM (bp (gk (m+1) p) (m+1) ag) []):=by
 refine iE (r:=aM (bp (gk (m+1) p) (m+1) ag) []) hT MY rfl aZ rfl (fun _ cx h0=>?_) K []
 have hk:=mR h0
 have hW:=cY
 have hd:∀k i,k+i<=m->Sz (fU p k i) ag:=fun k i h=>hz.1 k i aa
 refine au.qp hT Kh hm (x:=xV) [1,1,1,1,0,1] (i:=0) (y:=yh) (z:=part xV [1,1,1,1,1]) ah ah ah MY.dst [1,0] (j:=1) (x1:=yC) (zb:=part yh [1,1]) ah ah ah [1,0,1] (i2:=2) (y2:=part yC [1,0,1,0,0]) ah ah rfl hk
  (f1:=[]) (f2:=[16]) (f3:=[]) (f4:=[33]) (f5:=[]) 60 sF xF 2 2 (fun k:Nat=>As m k) (fun k=>lH m (ku m p k) (gk (m+1) p) k) (fun k=>k<=m+1) (fun k=>k=m+1) (fun k=>m+1-k) (fun k=>k<m+1) (fun _=>False) (fun _=>False)
  (fun k (i:Nat)=>DY m k i) (fun k i=>lH m (iV m p k i) (gk (m+1) p) (k+1)) (fun k i=>i<=m-k) (fun k i=>i=m-k) (fun k i=>m-k-i)
  ⟨_,agS,?_⟩ (fun k hk=>⟨_,Sn,?_⟩) (fun k hk hG=>⟨_,ahe,?_⟩) (fun k hk hG i hi=>⟨_,aaD,?_⟩) (fun k hk hG i hi=>⟨_,TR,?_⟩) (fun k hk=>?_) (fun _ _ h=>h.elim) (fun _ _ h=>h.elim)
 ·simp only[af.all,az]
  refine⟨aa,aa,0,aa,[(0,28672)],rfl,?_,rfl,lF rfl aa aa (bk rfl rfl aa (fun i hi=>bK rfl ?_) trivial)⟩
  ·rw[show((m+1:Nat):Int)-1=(m:Nat) by omega,show 0+(m+1)=m+1-0 by omega];rfl
  ·show AV.rat (p i) ag=AV.rat (ku m p 0 i) ag
   unfold ku;rw[Nat.zero_min];rfl
 ·simp only[af.all,az,bD,bI]
  exact⟨fun h=>⟨aa,[(0,0),(1,1)],rfl,rfl,rfl,bk rfl rfl rfl (fun i hi=>bK rfl rfl) (bk rfl rfl rfl (fun i hi=>bK rfl rfl) trivial)⟩,fun h=>⟨rfl,k,aa,[(0,0),(1,1)],rfl,rfl,rfl,bk rfl rfl rfl (fun i hi=>bK rfl rfl) (bk rfl rfl rfl (fun i hi=>bK rfl rfl) trivial)⟩⟩
 ·simp only[af.all,az,bG]
  have e0:(0:Int).toNat=0:=rfl
  refine⟨aa,0,aa,[(0,0),(1,36866)],rfl,rfl,rfl,bk rfl rfl rfl (fun i hi=>?_) (bk rfl rfl rfl (fun i hi=>bK rfl ?_) trivial)⟩
  ·refine .inr ⟨?_,?_⟩
   ·split
    ·rfl
    ·rw[show i-k+0=0 by omega];rfl
   ·split
    ·exact .refl _
    ·rw[show i-k+0=0 by omega,show i=k by omega]
     exact dY (by rw[Bb aa];rfl) (hz.2 k hG)
  ·show AV.rat (ku m p k i) ag=AV.rat (iV m p k 0 i) ag
   unfold iV;rw[if_neg (Nat.not_lt_zero i)]
 ·simp only[af.all,az,bD,bI,bG,Nat.add_zero]
  have e1:((i:Int)+1).toNat=i+1:=aa
  rw[e1]
  refine⟨aa,fun h=>⟨aa,aa,i+1,aa,by dsimp only;omega,[(0,0),(1,1)],rfl,rfl,rfl,bk rfl rfl rfl (fun j hj=>bK rfl rfl) (bk rfl rfl rfl (fun j hj=>?_) trivial)⟩,fun h=>⟨rfl,i,aa,[(0,0),(1,1)],rfl,rfl,rfl,bk rfl rfl rfl (fun j hj=>bK rfl rfl) (bk rfl rfl rfl (fun j hj=>bK rfl rfl) trivial)⟩⟩
  have h3:=fun j=>Kv (m:=m) (k:=k) (i:=i) (j:=j) (p:=p) aa
  exact mC (x:=iV m p k i) (y:=iV m p k (i+1)) (dY ((if_pos rfl).symm.trans (h3 i)) (by unfold iV;rw[if_pos (Nat.lt_succ_self i)];exact hd _ _ aa)) fun hj=>dM ((if_neg hj).symm.trans (h3 j)) aT
 ·subst hi
  simp only[af.all,az]
  refine⟨aa,aa,k+1,aa,by dsimp only;omega,[(0,0),(1,1)],rfl,?_,rfl,bk rfl rfl rfl (fun j hj=>bK rfl rfl) (bk rfl rfl rfl (fun j hj=>bK rfl ?_) trivial)⟩
  ·rw[show(((m+1-k:Nat):Int)-1).toNat-(0:Int).toNat=m+1-(k+1) by omega];rfl
  ·show AV.rat (iV m p k (m-k) j) ag=AV.rat (ku m p (k+1) j) ag
   rw[LC]
 ·subst hk
  exact au.mQ ((aF.fin hT Kh hm 60 ags ah (ir fun _ _=>.refl _)).mono fun _ _ h=>.inl h)
theorem abJ:bf P AH 123:=dO fun⟨⟨n,p⟩,_⟩ K hn=>by
 obtain⟨h1,h2,h3⟩:=hn
 simp only at h1 h2 h3
 obtain⟨m,rfl⟩:∃m,n=m+1:=⟨n-1,aa⟩
 exact ae1 aa h3 K
theorem R8:bU P BS:=gH (aL abJ iP)
theorem Ul {n:Nat} {k:Nat->Rat} (hn:n<2^40) (K:Nat):aS P 151 K [bp k n ag] [] (aM (bp k (bH k n) ag) []):=by
 have hW:=cY
 refine iW (r:=aM (bp k (bH k n) ag) []) hT zj hm Hw rfl aZ rfl [1,0] (i:=0) (y:=part nE [1,0,0,0]) (z:=part nE [1,1]) ah ah ah (f1:=[]) (f2:=[6,15]) (f3:=[]) 60 [0] 0
  (fun j:Nat=>[bp k j ag]) (fun _=>[]) (fun j=>j<=n/\bH k j=bH k n) (fun j=>j=bH k n) (fun j=>j) (fun _=>⟨⟨_,T3,?_⟩,fun j hj=>⟨_,Xg,?_⟩,fun j hj=>⟨_,adf,?_⟩⟩) K []
 ·simp only[af.all,az]
  exact⟨n,⟨aT,rfl⟩,dP.vals rfl⟩
 ·obtain⟨h1,h2⟩:=hj
  simp only[af.all,az,cond_true,pR,bD,bI]
  refine⟨fun h=>⟨⟨aa,aa,aa,aa⟩,fun h3=>⟨aa,j-1,⟨aa,?_⟩,by dsimp only;omega,?_⟩,fun h3=>⟨rfl,j,?_,dP.vals rfl⟩⟩,fun h=>⟨aa,fun h3=>absurd h3 (by decide),fun _=>⟨rfl,j,?_,dP.vals rfl⟩⟩⟩
  ·rw[<-h2]
   obtain⟨m,rfl⟩:∃m,j=m+1:=⟨j-1,aa⟩
   rw[show(((m+1:Nat):Int)-1).toNat=m by omega]at h3
   show bH k m=_
   rw[bH,if_pos h3]
  ·rw[show((j:Int)-1).toNat-(0:Int).toNat=j-1 by omega]
   exact dP.vals rfl
  ·rw[<-h2]
   obtain⟨m,rfl⟩:∃m,j=m+1:=⟨j-1,aa⟩
   rw[show(((m+1:Nat):Int)-1).toNat=m by omega]at h3
   exact(qb (.inr h3)).symm
  ·rw[<-h2,show j=0 by omega];rfl
 ·rw[hj];exact .refl _
theorem Ie:bf P uo 151:=dO fun⟨⟨n,k⟩,_⟩ K hn=>Ul hn K
theorem Re {p:PP} (hp:mJ p) (K:Nat):aS P 61 K [aG p] [] (aM (aG (aJ p)) []):=by
 have hW:=cY
 obtain⟨n,hn⟩:∃n,n=p.1:=⟨_,rfl⟩
 obtain⟨k,hk⟩:∃k,k=gk p.1 p.2:=⟨_,rfl⟩
 have e0:aJ p=(bH k n,k):=by rw[hk,hn];rfl
 have h2:=hp.2.1
 rw[e0]
 refine iW (r:=aM (aG (bH k n,k)) []) hT R8 hm Qz rfl aZ rfl [1,1,0] (i:=0) (y:=part xR [1,1,0,0,0]) (z:=part xR [1,1,1]) ah ah ah (f1:=[]) (f2:=[9,18]) (f3:=[]) 60 [3] 0
  (fun j:Nat=>[bp k j ag]) (fun _=>[]) (fun j=>j<=n/\bH k j=bH k n) (fun j=>j=bH k n) (fun j=>j) (fun _=>⟨⟨_,afF,?_⟩,fun j hj=>⟨_,R5,?_⟩,fun j hj=>⟨_,aav,?_⟩⟩) K []
 ·simp only[af.all,az]
  exact⟨⟨dU aT,hp.1,hp.2.1,hp.2.2⟩,n,⟨aT,rfl⟩,by rw[hk,hn];exact dP.vals rfl⟩
 ·obtain⟨h1,h2⟩:=hj
  simp only[af.all,az,cond_true,pR,bD,bI]
  refine⟨fun h=>⟨⟨aa,aa,aa,aa⟩,fun h3=>⟨aa,j-1,⟨aa,?_⟩,by dsimp only;omega,?_⟩,fun h3=>⟨rfl,j,?_,dP.vals rfl⟩⟩,fun h=>⟨aa,fun h3=>absurd h3 (by decide),fun _=>⟨rfl,j,?_,dP.vals rfl⟩⟩⟩
  ·rw[<-h2]
   obtain⟨m,rfl⟩:∃m,j=m+1:=⟨j-1,aa⟩
   rw[show(((m+1:Nat):Int)-1).toNat=m by omega]at h3
   show bH k m=_
   rw[bH,if_pos h3]
  ·rw[show((j:Int)-1).toNat-(0:Int).toNat=j-1 by omega]
   exact dP.vals rfl
  ·rw[<-h2]
   obtain⟨m,rfl⟩:∃m,j=m+1:=⟨j-1,aa⟩
   rw[show(((m+1:Nat):Int)-1).toNat=m by omega]at h3
   exact(qb (.inr h3)).symm
  ·rw[<-h2,show j=0 by omega];rfl
 ·rw[hj];exact .refl _
theorem abE:bf P yP 61:=dO fun⟨a,_⟩ K hn=>Re hn K
def rO:bz:=zG::(91,Cs)::(93,jo kR kR x7 oF)::iK
abbrev zk:Code:=aI f96
abbrev zV:Code:=part zk [1,1,1,1,0,1,0,0]
abbrev zH:Code:=part zV [1,0,0]
abbrev sP:List Nat:=[0,4,5,6]
abbrev Aq (m:Nat) (c:Nat->Rat) (i:Nat):List AV:=[bp c (m+1) ag,.int .i64 m,.own 0 3 0 i,.int .i64 i]
abbrev xP:List Nat:=[0,4,5,6,7,8]
abbrev Di (m:Nat) (c:Nat->Rat) (i k:Nat):List AV:=[bp c (m+1) ag,.int .i64 m,.own 0 3 0 i,.int .i64 i,.ptr 1 0 3 0 [],.int .i64 k]
def L9:Spec:=en (kC (kL ag) kN) (fun a=>.tuple [bp (fY a.1.1 a.1.2) a.1.1 ag,.int .i64 0]) fun a=>[1<=a.1.1,a.1.1<=41,jU a.1.1 a.1.2]
theorem MZ:br 96 f96:=bu func96
theorem Wy {m:Nat} {c:Nat->Rat}:aH T rO [200014,200017] 60 sP (before zk [1,1,1,1,0,1]) ⟨aU 0 [bp c (m+1) ag],[],0⟩=
  let c1:Int:=(↑(m+1):Int)-1;some (aj [-(2:Int)^63<=c1/\c1<2^63] (aj [decide (c1<0)=false] (aj [(bif false then true else decide (c1>40))=false] (leaf normal ([ak 3 (m+1) fun i=>rat (c i) ag,int i64 c1,nil,int i64 0],[]))))):=ah
theorem afh {m i:Nat} {c x:Nat->Rat}:aH T rO [20] 60 sP (before zV [1,0]) ⟨aB sP (Aq m c i),[(0,cy i x ag)],1⟩=
  let c1:List AV×aE:=([ak 3 (m+1) fun i=>rat (c i) ag,int i64 (↑m:Int),own 0 3 0 i,int i64 (↑i:Int)],[(0,ax.mk true true 3 i fun i=>rat (x i) ag)]);some (fork (decide ((↑i:Int)<=(↑m:Int))) (leaf normal c1) (leaf (exit 0) c1)):=ah
theorem agt {m i:Nat} {c x:Nat->Rat}:aH T rO [] 60 xP (before zH [1,0,1]) ⟨aB sP (Aq m c i),[(0,cy i x ag)],1⟩=
  some (leaf normal ([ak 3 (m+1) fun i=>rat (c i) ag,int i64 (↑m:Int),own 0 3 0 i,int i64 (↑i:Int),ptr 1 0 3 0 [],int i64 0],[((1:Nat),gP fun x=>rat 0 1),(0,ax.mk true true 3 i fun i=>rat (x i) ag)])):=ah
theorem ahp {m i k:Nat} {c x:Nat->Rat} {q:Rat}:aH T rO [25] 60 xP [part zH [1,0,1,0,0]] ⟨aB xP (Di m c i k),[(1,tR q ag),(0,cy i x ag)],2⟩=
  let c9:Int:=(↑m:Int);let c8:AV:=own 0 3 0 i;let c7:Nat:=64+64;let c6:Int:=(↑i:Int);let c5:AV:=ptr 1 0 3 0 [];let c4:AV:=ak 3 (m+1) fun i=>rat (c i) ag;let c3:Nat×ax:=(0,ax.mk true true 3 i fun i=>rat (x i) ag);let c2:Nat:=2^41;let c1:Int:=(↑k:Int);let c11:Prop:=(0:Int)<=c1;let c10:Int:=c1+1;some (fork (decide (c1<=c6)) (aj [(0:Nat)<1,c11,c1<=c6,c6<=40,c11,c1<=c9,c9<=40,(64:Nat)<c2,(64:Nat)<c2,c11/\c1.toNat<m+1,c7<c2,ag<c2,ag<c2,c7+ag<c2,(0:Nat)<1] (aj [-(2:Int)^63<=c10/\c10<2^63] (leaf normal ([c4,int i64 c9,c8,int i64 c6,c5,int i64 c10],[((1:Nat),gP fun j=>if(j==0)=true then eC (w7 (q,ag) ((↑(↑(bn c6.toNat c1.toNat):Int):Rat)/(↑(↑(bn c9.toNat c1.toNat):Int):Rat)*c c1.toNat,c7+ag))else rat q ag),c3])))) (leaf (exit 2) ([c4,int i64 c9,c8,int i64 c6,c5,int i64 c1],[((1:Nat),gP fun x=>rat q ag),c3]))):=ah
theorem XF {m i k:Nat} {c x:Nat->Rat} {q:Rat}:aH T rO [] 60 sP (behind zH [1,0,1]++[part zV [1,1]]) ⟨aB xP (Di m c i k),[(1,tR q ag),(0,cy i x ag)],2⟩=
  let c1:Int:=(↑i:Int)+1;some (aj [(0:Nat)<1,(1:Nat)*3<=2^24,(i+1)*((56:Nat)+1)*2<=2^47] (aj [-(2:Int)^63<=c1/\c1<2^63] (leaf normal ([ak 3 (m+1) fun i=>rat (c i) ag,int i64 (↑m:Int),own 12290 3 0 (i+1),int i64 c1],[(12290,ax.mk true true 3 (i+1) fun i_1=>if i_1<i then rat (x i_1) ag else nth [rat q ag] (rat 0 1) (i_1-i+0))])))):=ah
theorem adH {m i:Nat} {c x:Nat->Rat}:cR T rO [] 60 f96 [part zk [1,1,1,1,1]] ⟨aB sP (Aq m c i),[(0,cy i x ag)],1⟩=
  some (leaf ret [ak 3 i fun i=>rat (x (i+0)) ag,int i64 0]):=ah
theorem Ku:bU P rO:=gH (aL EY (aL (jB fun _ _ K hn=>BU hn.1 hn.2 K) iP))
theorem aaY {m:Nat} {c:Nat->Rat} (hm1:m<=40) (hz:jU (m+1) c) (K:Nat):aS P 96 K [bp c (m+1) ag] [] (aM (.tuple [bp (fY (m+1) c) (m+1) ag,.int .i64 0]) []):=by
 refine iE (r:=aM (.tuple [bp (fY (m+1) c) (m+1) ag,.int .i64 0]) []) hT MZ rfl aZ rfl (fun _ cx h0=>?_) K []
 have hk:=mR h0
 have hW:=cY
 refine au.qp hT Ku hm (x:=zk) [1,1,1,1,0,1] (i:=0) (y:=zV) (z:=part zk [1,1,1,1,1]) ah ah ah MZ.dst [1,0] (j:=1) (x1:=zH) (zb:=part zV [1,1]) ah ah ah [1,0,1] (i2:=2) (y2:=part zH [1,0,1,0,0]) ah ah rfl hk
  (f1:=[200014,200017]) (f2:=[20]) (f3:=[]) (f4:=[25]) (f5:=[]) 60 sP xP 1 2 (fun i:Nat=>Aq m c i) (fun i=>[(0,cy i (fY (m+1) c) ag)]) (fun i=>i<=m+1) (fun i=>i=m+1) (fun i=>m+1-i) (fun i=>i<m+1) (fun _=>False) (fun _=>False)
  (fun i (k:Nat)=>Di m c i k) (fun i k=>[(1,tR (kA (m+1) c i k) ag),(0,cy i (fY (m+1) c) ag)]) (fun i k=>k<=i+1) (fun i k=>k=i+1) (fun i k=>i+1-k)
  ⟨_,Wy,?_⟩ (fun i hi=>⟨_,afh,?_⟩) (fun i hi hG=>⟨_,agt,?_⟩) (fun i hi hG k hk=>⟨_,ahp,?_⟩) (fun i hi hG k hk=>⟨_,XF,?_⟩) (fun i hi=>?_) (fun _ _ h=>h.elim) (fun _ _ h=>h.elim)
 ·simp only[af.all,az,cond_false,bI]
  exact⟨aa,aa,aa,0,aa,[],rfl,by rw[show((m+1:Nat):Int)-1=(m:Nat) by omega];rfl,rfl,lF rfl aa aa trivial⟩
 ·simp only[af.all,az,bD,bI]
  exact⟨fun h=>⟨aa,[(0,0)],rfl,rfl,rfl,bk rfl rfl rfl (fun i hi=>bK rfl rfl) trivial⟩,fun h=>⟨rfl,i,aa,[(0,0)],rfl,rfl,rfl,bk rfl rfl rfl (fun i hi=>bK rfl rfl) trivial⟩⟩
 ·simp only[af.all,az]
  exact⟨0,aa,[(0,0),(1,1)],rfl,rfl,rfl,kj rfl rfl (.inr ⟨rfl,dM rfl aa⟩) (bk rfl rfl rfl (fun i hi=>bK rfl rfl) trivial)⟩
 ·simp only[af.all,az,bD,bI,bG]
  exact⟨fun h=>⟨aa,aa,k+1,aa,by dsimp only;omega,[(0,0),(1,1)],rfl,rfl,rfl,kj rfl rfl (.inr ⟨rfl,dY rfl (hz i (k+1) hG aa)⟩) (bk rfl rfl rfl (fun i hi=>bK rfl rfl) trivial)⟩,fun h=>⟨rfl,k,aa,[(0,0),(1,1)],rfl,rfl,rfl,dx (bk rfl rfl rfl (fun i hi=>bK rfl rfl) trivial)⟩⟩
 ·subst hk
  simp only[af.all,az]
  refine⟨aa,aa,i+1,aa,by dsimp only;omega,[(0,12290)],rfl,rfl,rfl,bk rfl rfl rfl (fun j hj=>?_) trivial⟩
  by_cases h:j<i
  ·rw[if_pos h];exact bK rfl rfl
  ·rw[if_neg h,show j-i+0=0 by omega,show j=i by omega];exact bK rfl rfl
 ·subst hi
  refine au.mQ ((aF.fin hT Ku hm 60 adH ah ?_).mono fun _ _ h=>.inl h)
  exact⟨.refl _,.refl _,trivial⟩
theorem aaj:bf P L9 96:=dO fun⟨⟨n,p⟩,_⟩ K hn=>by
 obtain⟨h1,h2,h3⟩:=hn
 simp only at h1 h2 h3
 obtain⟨m,rfl⟩:∃m,n=m+1:=⟨n-1,aa⟩
 exact aaY aa h3 K
def rU:bz:=zG::(151,uo)::(93,jo kR kR x7 oF)::iK
abbrev wK:Code:=aI f152
abbrev Ad:List Nat:=[0,3,4]
abbrev HG (n:Nat) (c:Nat->Rat) (i:Nat):List AV:=[bp c n ag,.own 0 3 0 i,.int .i64 i]
abbrev x6:Code:=aI f125
theorem afg:br 152 f152:=bu func152
theorem aew:br 125 f125:=bu func125
theorem abB {n:Nat} {c:Nat->Rat}:aH T rU [] 60 Ad (before wK [1,1,1,0,1]) ⟨aU 0 [bp c n ag],[],0⟩=
  some (aj [cZ (fun i=>rat (c i) ag) n ag,n<2^40] (leaf normal ([ak 3 (bH (fun i=>aQ (rat (c i) ag)) n) fun i=>rat (aQ (rat (c i) ag)) ag,nil,int i64 0],[]))):=ah
theorem QG {n i:Nat} {c x:Nat->Rat}:aH T rU [10] 60 Ad [part wK [1,1,1,0,1,0,0]] ⟨aB Ad (HG n c i),[(0,cy i x ag)],1⟩=
  let c5:Prop:=ag<2^41;let c4:AV:=ak 3 n fun i=>rat (c i) ag;let c3:Int:=(↑i:Int);let c2:Int:=(2:Int)^63;let c1:Int:=(↑n:Int)-1;let c6:Int:=c3+1;some (fork (decide (c3<(↑n:Int))) (aj [(0:Int)<=c3/\c3.toNat<n,-c2<=c1/\c1<c2,(0:Int)<=c1/\c1.toNat<n,c5,c5,(1:Nat)*3<=2^24,(i+1)*((56:Nat)+1)*2<=2^47] (aj [-c2<=c6/\c6<c2] (leaf normal ([c4,own 69633 3 0 (i+1),int i64 c6],[(69633,ax.mk true true 3 (i+1) fun i_1=>if i_1<i then rat (x i_1) ag else nth [rat (c c3.toNat/c c1.toNat) (ag+ag)] (rat 0 1) (i_1-i+0))])))) (leaf (exit 0) ([c4,own 0 3 0 i,int i64 c3],[(0,ax.mk true true 3 i fun i=>rat (x i) ag)]))):=ah
theorem adS {n i:Nat} {c x:Nat->Rat}:cR T rU [] 60 f152 [part wK [1,1,1,1]] ⟨aB Ad (HG n c i),[(0,cy i x ag)],1⟩=
  some (leaf ret [ak 3 i fun i=>rat (x (i+0)) ag]):=ah
theorem Vh {n:Nat} {c:Nat->Rat}:aH T rU [] 60 oq (before x6 [1,1,0,1]) ⟨aU 0 [bp c n ag],[],0⟩=
  some (leaf normal ([ak 3 n fun i=>rat (c i) ag,nil,int i64 1],[])):=ah
theorem abN {n i:Nat} {c x:Nat->Rat}:aH T rU [8] 60 oq [part x6 [1,1,0,1,0,0]] ⟨aB oq (vh n c i),[(0,cy i x ag)],1⟩=
  let c5:Nat:=i+1;let c3:AV:=ak 3 n fun i=>rat (c i) ag;let c2:Int:=(2:Int)^63;let c1:Int:=(↑c5:Int);let c6:Int:=c1+1;let c4:Nat:=Max.max 1 (bX c1.natAbs);some (fork (decide (c1<(↑n:Int))) (aj [-c2<=c1,c1<c2,(0:Int)<=c1/\c1.toNat<n,c4<2^41,ag<2^41,(1:Nat)*3<=2^24,c5*((56:Nat)+1)*2<=2^47] (aj [-c2<=c6/\c6<c2] (leaf normal ([c3,own 53249 3 0 c5,int i64 c6],[(53249,ax.mk true true 3 c5 fun i_1=>if i_1<i then rat (x i_1) ag else nth [rat ((↑c1:Rat)*c c1.toNat) (c4+ag)] (rat 0 1) (i_1-i+0))])))) (leaf (exit 0) ([c3,own 0 3 0 i,int i64 c1],[(0,ax.mk true true 3 i fun i=>rat (x i) ag)]))):=ah
theorem ZX {n i:Nat} {c x:Nat->Rat}:cR T rU [] 60 f125 [part x6 [1,1,1]] ⟨aB oq (vh n c i),[(0,cy i x ag)],1⟩=
  some (aj [cZ (fun i=>rat (x (i+0)) ag) i ag,i<2^40] (leaf ret [ak 3 (bH (fun i=>aQ (rat (x (i+0)) ag)) i) fun i=>rat (aQ (rat (x (i+0)) ag)) ag])):=ah
theorem adE {n m:Nat} {x:Nat->Rat}:aH T lV [] 60 [0] (before nE [1,0]) ⟨aU 0 [.own 0 3 0 n],[(0,cy m x ag)],1⟩=
  some (leaf normal ([own 0 3 0 n],[(0,ax.mk true true 3 m fun i=>rat (x i) ag)])):=ah
theorem ab3 {n m:Nat} {x:Nat->Rat}:aH T lV [6,15] 60 [0] [part nE [1,0,0,0]] ⟨aB [0] [.own 0 3 0 n],[(0,cy m x ag)],1⟩=
  let c7:Int:=(↑n:Int);let c4:Int:=(2:Int)^63;let c3:Nat×ax:=(0,ax.mk true true 3 m fun i=>rat (x i) ag);let c6:af (List AV×aE):=leaf (exit 0) ([own 0 3 0 n],[c3]);let c5:Bool:=decide (c7>0);let c2:Int:=c7-1;let c1:af (List AV×aE):=aj [-c4<=c2/\c2<c4,(0:Int)<=0/\(0:Int)<=c2/\c2<=c2/\c2<=c7] (leaf normal ([own 0 3 0 (c2.toNat-Int.toNat (0:Int))],[c3]));some (fork c5 (aj [c5=true,-c4<=c2/\c2<c4,(0:Int)<=c2/\c2.toNat<n,c2.toNat+0<m,ag<2^41] (fork (bif true then bN (x (c2.toNat+0))==0 else false) c1 c6)) (aj [c5=false] (fork false c1 c6))):=ah
theorem T7 {n m:Nat} {x:Nat->Rat}:aH T lV [] 60 [2] [part nE [1,1]] ⟨aB [0] [.own 0 3 0 n],[(0,cy m x ag)],1⟩=
  some (leaf ret ([own 0 3 0 n],[(0,ax.mk true true 3 m fun i=>rat (x i) ag)])):=ah
theorem Kj:bU P rU:=gH (aL Ie (aL (jB fun _ _ K hn=>BU hn.1 hn.2 K) iP))
theorem Xx {a:PP} (hn:a.1<2^40) (ta:Trim a) (hz:cN a.1 (cM a.1 a.2)) (K:Nat):aS P 152 K [aG a] [] (aM (aG (dy a)) []):=by
 have hW:=cY
 have e0:bH a.2 a.1=a.1:=qb ta
 refine iW (r:=aM (aG (dy a)) []) hT Kj hm afg rfl aZ rfl [1,1,1,0,1] (i:=0) (y:=part wK [1,1,1,0,1,0,0]) (z:=part wK [1,1,1,1]) ah ah ah (f1:=[]) (f2:=[10]) (f3:=[]) 60 Ad 1
  (fun i:Nat=>HG a.1 a.2 i) (fun i=>[(0,cy i (cM a.1 a.2) ag)]) (fun i=>i<=a.1) (fun i=>i=a.1) (fun i=>a.1-i) (fun _=>⟨⟨_,abB,?_⟩,fun i hi=>⟨_,QG,?_⟩,fun i hi=>⟨_,adS,?_⟩⟩) K []
 ·simp only[af.all,az]
  exact⟨⟨dU aT,hn⟩,0,Nat.zero_le _,[],rfl,by have e1:bH (fun i=>aQ (.rat (a.2 i) ag)) a.1=a.1:=e0;rw[e1];rfl,rfl,lF rfl aa aa trivial⟩
 ·simp only[af.all,az,bD,bI,bG]
  refine⟨fun h=>⟨aa,aa,i+1,aa,by dsimp only;omega,[(0,69633)],rfl,?_,rfl,bk rfl rfl rfl (fun j hj=>?_) trivial⟩,fun h=>⟨rfl,i,aa,[(0,0)],rfl,rfl,rfl,bk rfl rfl rfl (fun j hj=>bK rfl rfl) trivial⟩⟩
  ·rw[show(i:Int)+1=((i+1:Nat):Int) by omega];rfl
  ·by_cases h2:j<i
   ·rw[if_pos h2];exact bK rfl rfl
   ·rw[if_neg h2,show j-i+0=0 by omega,show j=i by omega,show((a.1:Int)-1).toNat=a.1-1 by omega]
    exact .inr ⟨rfl,dY rfl (hz i aa)⟩
 ·subst hi;exact .refl _
def Fx:Spec:=en (kC (kL ag) kN) (fun a=>aG (dy a.1)) fun a=>[a.1.1<2^40,Trim a.1,cN a.1.1 (cM a.1.1 a.1.2)]
theorem J4:bf P Fx 152:=dO fun⟨a,_⟩ K hn=>Xx hn.1 hn.2.1 hn.2.2 K
theorem ZI {n:Nat} {c:Nat->Rat} (hn:n<2^40) (hz:cN (n-1) (cO c)) (K:Nat):aS P 125 K [bp c n ag] [] (aM (bp (cO c) (bH (cO c) (n-1)) ag) []):=by
 have hW:=cY
 refine iW (r:=aM (bp (cO c) (bH (cO c) (n-1)) ag) []) hT Kj hm aew rfl aZ rfl [1,1,0,1] (i:=0) (y:=part x6 [1,1,0,1,0,0]) (z:=part x6 [1,1,1]) ah ah ah (f1:=[]) (f2:=[8]) (f3:=[]) 60 oq 1
  (fun i:Nat=>vh n c i) (fun i=>[(0,cy i (cO c) ag)]) (fun i=>i<=n-1) (fun i=>i=n-1) (fun i=>n-1-i) (fun _=>⟨⟨_,Vh,?_⟩,fun i hi=>⟨_,abN,?_⟩,fun i hi=>⟨_,ZX,?_⟩⟩) K []
 ·simp only[af.all,az]
  exact⟨0,aa,[],rfl,rfl,rfl,lF rfl aa aa trivial⟩
 ·have hb:(max 1 (bX ((i+1:Nat):Int).natAbs))<=64:=by
   rw[Int.natAbs_natCast]
   have:=j6 (x:=i+1) (k:=64)|>.2 aa
   omega
  simp only[af.all,az,bD,bI,bG]
  refine⟨fun h2=>⟨aa,aa,i+1,aa,by dsimp only;omega,[(0,53249)],rfl,?_,rfl,bk rfl rfl rfl (fun j hj=>?_) trivial⟩,fun h2=>⟨rfl,i,aa,[(0,0)],rfl,rfl,rfl,bk rfl rfl rfl (fun j hj=>bK rfl rfl) trivial⟩⟩
  ·rw[show((i+1:Nat):Int)+1=((i+1+1:Nat):Int) by omega];rfl
  ·refine .inr ⟨?_,?_⟩
   ·split
    ·rfl
    ·rw[show j-i+0=0 by omega];rfl
   ·split
    ·exact .refl _
    ·rw[show j-i+0=0 by omega,show j=i by omega]
     exact dY rfl (hz i aa)
 ·subst hi
  simp only[af.all,az]
  exact⟨⟨dU aT,aa⟩,.refl _⟩
theorem D9:bf P qq 125:=dO fun⟨⟨n,c⟩,_⟩ K hn=>ZI hn.1 hn.2 K
theorem aax {kk n m:Nat} {x:Nat->Rat} (hn:n<2^40) (hnm:n<=m) (c:Ctx) (hk:Kept [0] c):au P c f151.ntmps nE ⟨aU 0 [.own 0 3 0 n],[(0,cy m x ag)],1⟩ (Hq f151 kk [.own kk 3 0 (bH x n)] (cy m x ag)):=by
 have hW:=cY
 have re:∀j,dP [0] ([.own 0 3 0 j],[((0:Nat),cy m x ag)]) [.own 0 3 0 j] [(0,cy m x ag)] 1:=fun j=>⟨[(0,0)],rfl,rfl,rfl,nD trivial⟩
 refine au.rz hT zj hm [1,0] (i:=0) (y:=part nE [1,0,0,0]) (z:=part nE [1,1]) ah ah ah Hw.dst hk (f1:=[]) (f2:=[6,15]) 60 [0] 1
  (fun j:Nat=>[.own 0 3 0 j]) (fun _=>[(0,cy m x ag)]) (fun j=>j<=n/\bH x j=bH x n) (fun j=>j=bH x n) (fun j=>j) (fun _=>False) ⟨_,adE,?_⟩ (fun j hj=>⟨_,ab3,?_⟩) (fun j hj=>?_) (fun _ _ h=>h.elim)
 ·simp only[af.all,az]
  exact⟨n,⟨aT,rfl⟩,re n⟩
 ·obtain⟨h1,h2⟩:=hj
  simp only[af.all,az,cond_true,pR,bD,bI,Nat.add_zero]
  refine⟨fun h=>⟨⟨aa,aa,aa,aa,aa⟩,fun h3=>⟨aa,j-1,⟨aa,?_⟩,by dsimp only;omega,?_⟩,fun h3=>⟨rfl,j,?_,re j⟩⟩,fun h=>⟨aa,fun h3=>absurd h3 (by decide),fun _=>⟨rfl,j,?_,re j⟩⟩⟩
  ·rw[<-h2]
   obtain⟨m,rfl⟩:∃m,j=m+1:=⟨j-1,aa⟩
   rw[show(((m+1:Nat):Int)-1).toNat=m by omega]at h3
   show bH x m=_
   rw[bH,if_pos h3]
  ·rw[show((j:Int)-1).toNat-(0:Int).toNat=j-1 by omega]
   exact re (j-1)
  ·rw[<-h2]
   obtain⟨m,rfl⟩:∃m,j=m+1:=⟨j-1,aa⟩
   rw[show(((m+1:Nat):Int)-1).toNat=m by omega]at h3
   exact(qb (.inr h3)).symm
  ·rw[<-h2,show j=0 by omega];rfl
 ·subst hj
  exact au.bL hT zj hm 60 [2] T7 ah fun s' hs'=>⟨.inr rfl,[2],_,[.own 0 3 0 (bH x n)],_,_,hs',ah,⟨⟨rfl,ec (by simp[aX,look]) rfl rfl⟩,trivial⟩,rfl,ia rfl fun i hi=>fh rfl⟩
theorem aer:bf P xC 151:=by
 intro K args pre r h
 unfold xC at h
 split at h
 ·rename_i k n k' m f
  split at h
  ·rename_i hc
   have hc:=eq_of_beq hc
   subst hc
   simp only[ay]at h
   subst h
   intro need
   have h0:=need
   obtain⟨n1,n2,n3⟩:=need
   exact I5 hT Hw (rest:=[]) (ws:=[.own k' 3 0 _]) (o2:=⟨true,true,3,m,f⟩) (o:=cy m (fun i=>aQ (f i)) ag) rfl rfl aZ (fun ρ=>ia rfl fun i hi=>iS (n3 i hi).1 (n3 i hi).2) (fun _ c hk=>aax n2 n1 c hk) K h0
  ·simp at h
 ·simp at h
theorem VZ:bf P uO 151:=by
 intro K args pre r h
 unfold uO at h
 split at h
 ·rename_i h1
  exact aer K args pre r (h1.trans h)
 ·exact Ie K args pre r h
def pG:bz:=zG::(151,uO)::(93,jo kR kR x7 oF)::iK
abbrev ql:Code:=aI f97
abbrev wV:Code:=part ql [1,1,1,1,0,1,0,0]
abbrev wu:Code:=part wV [1,0,0]
abbrev oy:List Nat:=[1,6,7,8]
abbrev vi (n e:Nat) (d:Nat->Rat) (j:Nat):List AV:=[bp d (e+1) ag,.own 0 3 0 n,.own 1 3 0 (n-e),.int .i64 ((n:Int)-((e:Int)+1)-(j:Int))]
abbrev qg (n e:Nat) (x q:Nat->Rat):aE:=[(0,cy n x ag),(1,cy (n-e) q ag)]
abbrev vt:List Nat:=[1,6,7,8,9,10]
abbrev Gz (n e:Nat) (d:Nat->Rat) (k i:Nat):List AV:=[bp d (e+1) ag,.own 0 3 0 n,.own 1 3 0 (n-e),.int .i64 k,.ptr 2 0 3 0 [],.int .i64 i]
abbrev Fz (n e:Nat) (x q:Nat->Rat) (f:Rat):aE:=[(2,tR f ag),(0,cy n x ag),(1,cy (n-e) q ag)]
theorem EF:br 97 f97:=bu func97
theorem aa9 {n e:Nat} {a d:Nat->Rat}:aH T pG [18] 60 oy (before ql [1,1,1,1,0,1]) ⟨aU 0 [bp a n ag,bp d (e+1) ag],[],0⟩=
  let c7:Int:=(↑(e+1):Int);let c6:AV:=own 16384 3 0 ((0:Nat)+n);let c5:AV:=ak 3 (e+1) fun i=>rat (d i) ag;let c3:Nat×ax:=(16384,ax.mk true true 3 ((0:Nat)+n) fun i=>rat (a (i-0)) ag);let c2:Int:=(2:Int)^63;let c1:Int:=(↑n:Int)-c7;let c8:Prop:=-c2<=c1/\c1<c2;let c4:Int:=c1+1;some (aj [(0:Nat)*3<=2^24,((0:Nat)+n)*((56:Nat)+1)*2<=2^47] (fork (decide ((↑n:Int)>=c7)) (aj [c8,-c2<=c4/\c4<c2,(0:Int)<=c4/\c4<=c4/\c4<=2^47/\c4*(↑(56:Nat):Int)<=2^47] (aj [c8] (leaf normal ([c5,c6,own 73728 3 0 c4.toNat,int i64 c1],[(73728,ax.mk true true 3 c4.toNat fun x=>rat 0 1),c3])))) (aj [c8] (leaf normal ([c5,c6,nil,int i64 c1],[c3]))))):=ah
theorem Va {n e j:Nat} {d x q:Nat->Rat}:aH T pG [32] 60 oy (before wV [1,0]) ⟨aB oy (vi n e d j),qg n e x q,2⟩=
  let c2:Int:=(↑n:Int)-((↑e:Int)+1)-(↑j:Int);let c1:List AV×aE:=([ak 3 (e+1) fun i=>rat (d i) ag,own 0 3 0 n,own 1 3 0 (n-e),int i64 c2],[(1,ax.mk true true 3 (n-e) fun i=>rat (q i) ag),(0,ax.mk true true 3 n fun i=>rat (x i) ag)]);some (fork (decide (c2>=0)) (leaf normal c1) (leaf (exit 0) c1)):=ah
theorem aec {n e k:Nat} {d x q:Nat->Rat}:aH T pG [] 60 vt (before wu [1,1,1]) ⟨aB oy [bp d (e+1) ag,.own 0 3 0 n,.own 1 3 0 (n-e),.int .i64 k],qg n e x q,2⟩=
  let c8:Prop:=ag<2^41;let c4:Int:=(↑k:Int);let c3:Int:=(2:Int)^63;let c1:Int:=(↑(e+1):Int);let c6:Nat:=c4.toNat+0;let c5:Int:=c1-1;let c2:Int:=c4+c1-1;let c7:Nat:=c2.toNat+0;some (aj [-c3<=c4+c1/\c4+c1<c3,-c3<=c2/\c2<c3,(0:Int)<=c2/\c2.toNat<n,c7<n,-c3<=c5/\c5<c3,(0:Int)<=c5/\c5.toNat<e+1,c8,c8,(0:Nat)<1] (aj [(0:Nat)<1,(0:Int)<=c4/\c4.toNat<n-e,c6<n-e] (leaf normal ([ak 3 (e+1) fun i=>rat (d i) ag,own 0 3 0 n,own 1 3 0 (n-e),int i64 c4,ptr 61442 0 3 0 [],int i64 0],[((61442:Nat),gP fun j=>if(j==0)=true then eC (x7 (x c7,ag) (d c5.toNat,ag))else rat 0 1),(1,ax.mk true true 3 (n-e) fun j=>rat (bif j==c6 then x c7/d c5.toNat else q j) (bif j==c6 then ag+ag else ag)),(0,ax.mk true true 3 n fun i=>rat (x i) ag)])))):=ah
theorem abV {n e k i:Nat} {d x q:Nat->Rat} {f:Rat}:aH T pG [57] 60 vt [part wu [1,1,1,0,0]] ⟨aB vt (Gz n e d k i),Fz n e x q f,3⟩=
  let c12:Nat:=e+1;let c11:AV:=own 0 3 0 n;let c10:AV:=own 1 3 0 (n-e);let c9:AV:=ptr 2 0 3 0 [];let c8:Nat:=2^41;let c7:Int:=(↑i:Int);let c4:Nat×ax:=((2:Nat),gP fun x=>rat f ag);let c3:Nat×ax:=(1,ax.mk true true 3 (n-e) fun i=>rat (q i) ag);let c2:Int:=(2:Int)^63;let c14:Int:=c7+1;let c6:AV:=ak 3 c12 fun i=>rat (d i) ag;let c1:Int:=(↑k:Int)+c7;let c13:Prop:=(0:Int)<=c1/\c1.toNat<n;let c5:Nat:=c1.toNat+0;some (fork (decide (c7<(↑c12:Int))) (aj [-c2<=c1/\c1<c2,-c2<=c1/\c1<c2,c13,c5<n,(0:Nat)<1,(0:Int)<=c7/\c7.toNat<c12,ag<c8,ag<c8,ag<c8,ag+ag<c8,c13,c5<n] (aj [-c2<=c14/\c14<c2] (leaf normal ([c6,c11,c10,int i64 (↑k:Int),c9,int i64 c14],[c4,c3,(0,ax.mk true true 3 n fun j=>rat (bif j==c5 then x c5-f*d c7.toNat else x j) (bif j==c5 then ag+(ag+ag)+1 else ag))])))) (leaf (exit 2) ([c6,c11,c10,int i64 (↑k:Int),c9,int i64 c7],[c4,c3,(0,ax.mk true true 3 n fun i=>rat (x i) ag)]))):=ah
theorem WL {n e k i:Nat} {d x q:Nat->Rat} {f:Rat}:aH T pG [] 60 oy (behind wu [1,1,1]++[part wV [1,1]]) ⟨aB vt (Gz n e d k i),Fz n e x q f,3⟩=
  let c1:Int:=(↑k:Int)-1;some (aj [-(2:Int)^63<=c1/\c1<2^63] (leaf normal ([ak 3 (e+1) fun i=>rat (d i) ag,own 0 3 0 n,own 1 3 0 (n-e),int i64 c1],[(1,ax.mk true true 3 (n-e) fun i=>rat (q i) ag),(0,ax.mk true true 3 n fun i=>rat (x i) ag)]))):=ah
theorem afy {n e j:Nat} {d x q:Nat->Rat}:cR T pG [] 60 f97 [part ql [1,1,1,1,1]] ⟨aB oy (vi n e d j),qg n e x q,2⟩=
  some (aj [n-e<=n-e,n-e<2^40,ua (fun i=>rat (q i) ag) (n-e) ag,n<=n,n<2^40,ua (fun i=>rat (x i) ag) n ag] (leaf ret [ak 3 (bH (fun i=>aQ (rat (q i) ag)) (n-e)) fun i=>rat (aQ (rat (q (i+0)) ag)) ag,ak 3 (bH (fun i=>aQ (rat (x i) ag)) n) fun i=>rat (aQ (rat (x (i+0)) ag)) ag])):=ah
theorem aek {n e j:Nat} {d x q:Nat->Rat}:aH T pG [] 60 [4,5] [part ql [1,1,1,1,1]] ⟨aB oy (vi n e d j),qg n e x q,2⟩=
  some (aj [n-e<=n-e,n-e<2^40,ua (fun i=>rat (q i) ag) (n-e) ag,n<=n,n<2^40,ua (fun i=>rat (x i) ag) n ag] (leaf ret ([own 1 3 0 (bH (fun i=>aQ (rat (q i) ag)) (n-e)),own 0 3 0 (bH (fun i=>aQ (rat (x i) ag)) n)],[(0,ax.mk true true 3 n fun i=>rat (aQ (rat (x i) ag)) ag),(1,ax.mk true true 3 (n-e) fun i=>rat (aQ (rat (q i) ag)) ag)]))):=ah
theorem FF:bU P pG:=gH (aL VZ (aL (jB fun _ _ K hn=>BU hn.1 hn.2 K) iP))
def mS (e:Nat) (d a:Nat->Rat) (R j k:Nat):Rat:=if k+j<R then 0 else dG e d a R k
theorem aaz {e k:Nat} {d x:Nat->Rat}:fq e d x k (x (k+e)/d e) (e+1)=gz e d k x:=by
 funext j
 unfold fq gz
 by_cases h:k<=j/\j<k+e+1
 ·rw[if_pos aa,if_pos h]
 ·rw[if_neg aa,if_neg h]
theorem Iy {e k i j:Nat} {d x:Nat->Rat} {f:Rat} (hj:j≠k+i):fq e d x k f i j=fq e d x k f (i+1) j:=by
 unfold fq
 by_cases h2:k<=j/\j<k+i
 ·rw[if_pos h2,if_pos aa]
 ·rw[if_neg h2,if_neg aa]
theorem aeJ {e k i:Nat} {d x:Nat->Rat} {f:Rat}:fq e d x k f i (k+i)-f*d i=fq e d x k f (i+1) (k+i):=by
 unfold fq
 rw[if_neg aa,if_pos aa,show k+i-k=i by omega]
theorem Qm {ρ:Nat->Option Nat} {k es s n:Nat}:gX ρ (.own k es s n) .void:=by
 refine⟨rfl,fun M w β cs hc=>?_⟩
 cases hc with
 |own h1 h2 h3 h4 h5 h6=>cases h6;exact .void rfl .nil
 |own0 h5 h6=>cases h6;exact .void rfl .nil
theorem N7 {n e:Nat} {a d:Nat->Rat} (hn:n<2^30) (he:e<2^30) (hz:nH n e d a) {cx:Ctx} (hk:Kept [] cx) {Q:aq->aK->Prop}
  (hQ:au P cx f97.ntmps (part ql [1,1,1,1,1]) ⟨aB oy (vi n e d (n-e)),qg n e (ck e d a (n-e) (n-e)) (dG e d a (n-e)),2⟩ Q):
  au P cx f97.ntmps ql ⟨aU 0 [bp a n ag,bp d (e+1) ag],[],0⟩ Q:=by
 have hW:=cY
 obtain⟨R,hR⟩:∃R,R=n-e:=⟨_,rfl⟩
 unfold nH at hz
 rw[<-hR]at hz
 obtain⟨hzR,hzQ⟩:=hz
 have hz0:cN n a:=hzR 0 (Nat.zero_le _)
 refine au.qp hT FF hm (x:=ql) [1,1,1,1,0,1] (i:=0) (y:=wV) (z:=part ql [1,1,1,1,1]) ah ah ah EF.dst [1,0] (j:=1) (x1:=wu) (zb:=part wV [1,1]) ah ah ah [1,1,1] (i2:=2) (y2:=part wu [1,1,1,0,0]) ah ah rfl hk
  (f1:=[18]) (f2:=[32]) (f3:=[]) (f4:=[57]) (f5:=[]) 60 oy vt 2 3 (fun j:Nat=>vi n e d j) (fun j=>qg n e (ck e d a R j) (mS e d a R j)) (fun j=>j<=R) (fun j=>j=R) (fun j=>R-j) (fun j=>j<R) (fun _=>False) (fun _=>False)
  (fun j (i:Nat)=>Gz n e d (R-1-j) i) (fun j i=>Fz n e (fq e d (ck e d a R j) (R-1-j) (dG e d a R (R-1-j)) i) (mS e d a R (j+1)) (dG e d a R (R-1-j))) (fun j i=>i<=e+1/\cN n (fq e d (ck e d a R j) (R-1-j) (dG e d a R (R-1-j)) i)) (fun j i=>i=e+1) (fun _ i=>e+1-i)
  ⟨_,aa9,?_⟩ (fun j hj=>⟨_,Va,?_⟩) (fun j hj hG=>?_) (fun j hj hG i ⟨hi,hxi⟩=>⟨_,abV,?_⟩) (fun j hj hG i hi=>⟨_,WL,?_⟩) (fun j hj=>?_) (fun _ _ h=>h.elim) (fun _ _ h=>h.elim)
 ·simp only[af.all,az,bD,bI]
  have hq0:∀k,k<R->mS e d a R 0 k=0:=fun k hk=>by unfold mS;rw[if_pos aa]
  refine⟨aa,fun h=>⟨aa,aa,0,Nat.zero_le _,[(0,16384),(1,73728)],rfl,?_,rfl,bk rfl rfl aa (fun j hj=>bK rfl rfl) (bk rfl rfl aa (fun j hj=>.inr ⟨rfl,dM (hq0 j aa).symm aa⟩) trivial)⟩,fun h=>?_⟩
  ·rw[show((n:Int)-((e+1:Nat):Int)+1).toNat=n-e by omega,Nat.zero_add,show(n:Int)-((e+1:Nat):Int)=(n:Int)-((e:Int)+1)-((0:Nat):Int) by omega];rfl
  ·have h0:n-e=0:=aa
   refine⟨aa,0,Nat.zero_le _,[(0,16384)],rfl,?_,?_,?_⟩
   ·show _=([_,_,AV.own 1 3 0 (n-e),_]:List AV).map _
    rw[h0,Nat.zero_add,show(n:Int)-((e+1:Nat):Int)=(n:Int)-((e:Int)+1)-((0:Nat):Int) by omega];rfl
   ·show([_,_,AV.own 1 3 0 (n-e),_]:List AV).all _=true
    rw[h0];rfl
   ·refine bk rfl rfl aa (fun j hj=>bK rfl rfl) ?_
    show jG _ _ _ [(1,cy (n-e) _ _)]
    rw[h0]
    exact lF rfl aa aa trivial
 ·simp only[af.all,az,bD,bI]
  have re:∀{x q:Nat->Rat},dP [] ([ak 3 (e+1) fun i=>rat (d i) ag,own 0 3 0 n,own 1 3 0 (n-e),int i64 ((↑n:Int)-((↑e:Int)+1)-(↑j:Int))],[(1,ax.mk true true 3 (n-e) fun i=>rat (q i) ag),(0,ax.mk true true 3 n fun i=>rat (x i) ag)]) (vi n e d j) (qg n e x q) 2:=⟨[(0,0),(1,1)],rfl,rfl,rfl,bk rfl rfl rfl (fun j hj=>bK rfl rfl) (bk rfl rfl rfl (fun j hj=>bK rfl rfl) trivial)⟩
  exact⟨fun h=>⟨aa,re⟩,fun h=>⟨rfl,j,aa,re⟩⟩
 ·show∃t,aH T pG [] 60 vt (before wu [1,1,1]) ⟨aB oy [_,_,_,.int .i64 ((n:Int)-((e:Int)+1)-(j:Int))],_,_⟩=some t/\_
  rw[show(n:Int)-((e:Int)+1)-(j:Int)=(R-1-j:Nat) by omega]
  refine⟨_,aec,?_⟩
  simp only[af.all,az,Nat.add_zero,bG]
  rw[show((R-1-j:Nat):Int)+((e+1:Nat):Int)-1=(R-1-j+e:Nat) by omega,show(((e+1:Nat):Int)-1).toNat=e by omega,bG]
  have hf:ck e d a R j (R-1-j+e)/d e=dG e d a R (R-1-j):=by unfold dG;rw[show R-1-(R-1-j)=j by omega]
  have hu0:fq e d (ck e d a R j) (R-1-j) (dG e d a R (R-1-j)) 0=ck e d a R j:=by funext i;unfold fq;rw[if_neg aa]
  rw[hf]
  refine⟨aa,aa,0,⟨Nat.zero_le _,by rw[hu0];exact hzR j aa⟩,[(0,0),(1,1),(2,61442)],rfl,rfl,rfl,kj rfl rfl (.inr ⟨rfl,dY hf (hzQ _ aa)⟩) (bk rfl rfl rfl (fun i hi=>.inr ⟨rfl,dM (by rw[hu0]) aT⟩) (bk rfl rfl rfl (fun i hi=>?_) trivial))⟩
  refine mC (x:=mS e d a R j) (y:=mS e d a R (j+1)) (dY ?_ ?_) fun hi=>dM ?_ aT
  ·unfold mS;rw[if_neg aa]
  ·unfold mS;rw[if_neg aa];exact hzQ _ aa
  ·unfold mS
   by_cases h:i+j<R
   ·rw[if_pos h,if_pos aa]
   ·rw[if_neg h,if_neg aa]
 ·simp only[af.all,az,bD,bI,Nat.add_zero]
  rw[show((R-1-j:Nat):Int)+(i:Int)=(R-1-j+i:Nat) by omega,bG,bG]
  refine⟨fun h=>?_,fun h=>⟨rfl,i,aa,[(0,0),(1,1),(2,2)],rfl,rfl,rfl,dx (bk rfl rfl rfl (fun j hj=>bK rfl rfl) (bk rfl rfl rfl (fun j hj=>bK rfl rfl) trivial))⟩⟩
  have hs:Sz (fq e d (ck e d a R j) (R-1-j) (dG e d a R (R-1-j)) (i+1) (R-1-j+i)) ag:=by
   have:=hzR (j+1) aa (R-1-j+i) aa
   have e1:ck e d a R (j+1) (R-1-j+i)=fq e d (ck e d a R j) (R-1-j) (dG e d a R (R-1-j)) (i+1) (R-1-j+i):=by
    show gz e d (R-1-j) (ck e d a R j) _=_
    unfold gz fq
    rw[if_pos aa,if_pos aa]
    unfold dG
    rw[show R-1-(R-1-j)=j by omega]
   rwa [e1]at this
  refine⟨aa,aa,i+1,⟨aa,fun l hl=>?_⟩,by dsimp only;omega,[(0,0),(1,1),(2,2)],rfl,by rw[show(i:Int)+1=((i+1:Nat):Int) by omega];rfl,rfl,dx (bk rfl rfl rfl (fun l hl=>?_) (bk rfl rfl rfl (fun j hj=>bK rfl rfl) trivial))⟩
  ·by_cases h3:l=R-1-j+i
   ·rw[h3];exact hs
   ·rw[<-Iy h3];exact hxi l hl
  ·exact mC (x:=fq e d (ck e d a R j) (R-1-j) (dG e d a R (R-1-j)) i) (y:=fq e d (ck e d a R j) (R-1-j) (dG e d a R (R-1-j)) (i+1)) (dY aeJ hs) fun hj=>dM (Iy hj) aT
 ·subst hi
  simp only[af.all,az]
  have hf:ck e d a R j (R-1-j+e)/d e=dG e d a R (R-1-j):=by unfold dG;rw[show R-1-(R-1-j)=j by omega]
  refine⟨aa,j+1,hG,by dsimp only;omega,[(0,0),(1,1)],rfl,?_,rfl,bk rfl rfl rfl (fun l hl=>.inr ⟨rfl,dM ?_ aT⟩) (bk rfl rfl rfl (fun j hj=>bK rfl rfl) trivial)⟩
  ·rw[show((R-1-j:Nat):Int)-1=(n:Int)-((e:Int)+1)-((j+1:Nat):Int) by omega];rfl
  ·rw[<-hf,aaz];rfl
 ·subst hj
  rw[<-hR]at hQ
  have e1:mS e d a j j=dG e d a j:=by funext k;unfold mS;rw[if_neg aa]
  show au P cx _ _ ⟨_,qg n e _ (mS e d a j j),2⟩ Q
  rw[e1]
  exact hQ
theorem VC {n e:Nat} {a d:Nat->Rat} (hn:n<2^30) (he:e<2^30) (hz:nH n e d a) (K:Nat):aS P 97 K [bp a n ag,bp d (e+1) ag] [] (aM (uP n e d a) []):=by
 refine iE (r:=aM (uP n e d a) []) hT EF rfl aZ rfl (fun _ cx h0=>?_) K []
 refine N7 hn he hz (mR h0) (au.mQ ((aF.fin hT FF hm 60 afy ah ?_).mono fun _ _ h=>.inl h))
 simp only[af.all,az,Nat.add_zero]
 exact⟨⟨aT,aa,fun j hj=>⟨rfl,.refl _⟩,aT,aa,fun j hj=>⟨rfl,.refl _⟩⟩,.refl _,.refl _,trivial⟩
theorem PV:bf P yg 97:=dO fun⟨⟨n,a⟩,⟨m,d⟩,_⟩ K hn=>by
 obtain⟨h1,h2,h3,h4,h5,h6⟩:=hn
 simp only at h1 h2 h3
 obtain⟨e,rfl⟩:∃e,m=e+1:=⟨m-1,aa⟩
 have h3:e+1<2^30:=h3
 exact VC (e:=e) h1 aa h6 K
theorem abM {args:List AV} {n e:Nat} {a d:Nat->Rat} {l:List Prop} (ha:az l->gQ (aX []) args [bp a n ag,bp d (e+1) ag]) (hl:az l->n<2^30/\e<2^30/\nH n e d a) (K:Nat):
  aS P 97 K args [] ⟨nO [.void,.own K 3 0 (bH (ck e d a (n-e) (n-e)) n)],[(K,cy n (ck e d a (n-e) (n-e)) ag)],l⟩:=by
 refine CG hT EF ha aZ fun need c hk=>?_
 obtain⟨hn,he,hz⟩:=hl need
 refine N7 hn he hz hk (au.bL hT FF hm 60 [4,5] aek ah ?_)
 simp only[af.all,az]
 exact⟨⟨aT,aa,fun j hj=>⟨rfl,.refl _⟩,aT,aa,fun j hj=>⟨rfl,.refl _⟩⟩,fun s' hs'=>⟨.inr trivial,[4,5],_,[.own 1 3 0 (bH (dG e d a (n-e)) (n-e)),.own 0 3 0 (bH (ck e d a (n-e) (n-e)) n)],_,0,_,hs',ah,⟨⟨rfl,Qm⟩,⟨rfl,ec (by simp[aX,look]) rfl rfl⟩,trivial⟩,rfl,ia rfl fun i hi=>fh rfl⟩⟩
end Go.Am.B
namespace Go.Am
def gj (a b:PP):Prop:=a.1=b.1/\∀i,i<a.1->a.2 i=b.2 i
theorem gj.refl (a:PP):gj a a:=⟨rfl,fun _ _=>rfl⟩
theorem gj.symm {a b:PP} (h:gj a b):gj b a:=⟨h.1.symm,fun i hi=>(h.2 i (by rw[h.1];exact hi)).symm⟩
theorem gj.trans {a b c:PP} (h:gj a b) (h':gj b c):gj a c:=⟨h.1.trans h'.1,fun i hi=>(h.2 i hi).trans (h'.2 i (by rw[<-h.1];exact hi))⟩
theorem LX {n e R:Nat} {d d' a a':Nat->Rat} (hR:R=n-e) (ha:∀i,i<n->a i=a' i) (hd:∀i,i<=e->d i=d' i):∀j,j<=R->∀i,i<n->ck e d a R j i=ck e d' a' R j i
 |0,_,i,hi=>ha i hi
 |j+1,hj,i,hi=>by
  have ih:=LX hR ha hd j (by omega)
  show gz e d (R-1-j) (ck e d a R j) i=gz e d' (R-1-j) (ck e d' a' R j) i
  unfold gz
  by_cases h:R-1-j<=i/\i<R-1-j+e+1
  ·rw[if_pos h,if_pos h,ih i hi,ih (R-1-j+e) (by omega),hd e (Nat.le_refl _),hd (i-(R-1-j)) (by omega)]
  ·rw[if_neg h,if_neg h,ih i hi]
theorem Mk {n e R:Nat} {d a:Nat->Rat} {l m:Rat} (hm:m≠0):∀j i,ck e (fun i=>m*d i) (fun i=>l*a i) R j i=l*ck e d a R j i
 |0,i=>rfl
 |j+1,i=>by
  have ih:=Mk (n:=n) (e:=e) (R:=R) (d:=d) (a:=a) (l:=l) hm j
  show gz e (fun i=>m*d i) (R-1-j) (ck e (fun i=>m*d i) (fun i=>l*a i) R j) i=l*gz e d (R-1-j) (ck e d a R j) i
  unfold gz
  by_cases h:R-1-j<=i/\i<R-1-j+e+1
  ·rw[if_pos h,if_pos h,ih,ih]
   show _-_/(m*d e)*(m*d (i-(R-1-j)))=_
   generalize ck e d a R j i=x
   generalize ck e d a R j (R-1-j+e)=y
   generalize d (i-(R-1-j))=z
   by_cases h0:d e=0
   ·rw[h0];simp only[Rat.mul_zero,Rat.div_def,Rat.inv_zero,Rat.zero_mul];grind
   ·have e1:l*y/(m*d e)*(m*z)=l*(y/d e*z):=by
     rw[Rat.div_def,Rat.div_def,Rat.inv_mul_rev]
     have:m⁻¹*m=1:=Rat.inv_mul_cancel _ hm
     generalize (d e)⁻¹=w
     calc l*y*(w*m⁻¹)*(m*z)=l*y*w*(m⁻¹*m)*z:=by grind
      _=l*(y*w*z):=by rw[this];grind
    rw[e1];grind
  ·rw[if_neg h,if_neg h,ih]
theorem F0 {k:Nat->Rat} {l:Rat} (hl:l≠0):∀n,bH (fun i=>l*k i) n=bH k n
 |0=>rfl
 |n+1=>by
  unfold bH
  by_cases h:k n=0
  ·rw[if_pos h,if_pos (by rw[h,Rat.mul_zero]),F0 hl n]
  ·rw[if_neg h,if_neg fun h0=>(Rat.mul_eq_zero.1 h0).elim hl h]
def lU (a b:PP):Prop:=∃l:Rat,l≠0/\a.1=b.1/\∀i,i<a.1->a.2 i=l*b.2 i
theorem D7 {a:PP} (h:Trim a):lU (dy a) a:=by
 rcases h with h|h
 ·exact⟨1,by decide,rfl,fun i hi=>absurd hi (by show¬i<a.1;omega)⟩
 ·refine⟨(a.2 (a.1-1))⁻¹,fun h0=>h (by rw[<-Rat.inv_inv (a.2 (a.1-1)),h0,Rat.inv_zero]),rfl,fun i _=>?_⟩
  show cM a.1 a.2 i=_
  unfold cM
  rw[Rat.div_def,Rat.mul_comm]
theorem lU.cM {a b:PP} (h:lU a b):gj (dy a) (dy b):=by
 obtain⟨l,hl,h1,h2⟩:=h
 refine⟨h1,fun i hi=>?_⟩
 have hi:i<a.1:=hi
 show Go.Am.cM a.1 a.2 i=Go.Am.cM b.1 b.2 i
 unfold Go.Am.cM
 rw[h2 i hi,h2 (a.1-1) (by omega),h1,Rat.div_def,Rat.div_def,Rat.inv_mul_rev]
 have:l*l⁻¹=1:=Rat.mul_inv_cancel _ hl
 generalize (b.2 (b.1-1))⁻¹=w
 calc l*b.2 i*(w*l⁻¹)=(l*l⁻¹)*(b.2 i*w):=by grind
  _=_:=by rw[this,Rat.one_mul]
theorem lU.rem {a b d f:PP} (h:lU a b) (h':lU d f) (hd:0<d.1):lU (dj a d) (dj b f):=by
 obtain⟨l,hl,h1,h2⟩:=h
 obtain⟨m,hm,g1,g2⟩:=h'
 have key:∀i,i<a.1->ck (d.1-1) d.2 a.2 (a.1-(d.1-1)) (a.1-(d.1-1)) i=l*ck (d.1-1) f.2 b.2 (a.1-(d.1-1)) (a.1-(d.1-1)) i:=fun i hi=>by
  rw[LX (a':=fun i=>l*b.2 i) (d':=fun i=>m*f.2 i) rfl h2 (fun i hi=>g2 i (by omega)) _ (Nat.le_refl _) i hi,Mk (n:=a.1) hm]
 have e1:(dj a d).1=(dj b f).1:=by
  show bH _ _=bH _ _
  rw[<-g1,<-h1,BB key,F0 hl]
 refine⟨l,hl,e1,fun i hi=>?_⟩
 have hi:i<(dj a d).1:=hi
 show ck _ _ _ _ _ i=l*ck _ _ _ _ _ i
 rw[<-g1,<-h1]
 exact key i (Nat.lt_of_lt_of_le hi fE)
theorem gj.sC {a b:PP} (h:gj a b):lU a b:=⟨1,by decide,h.1,fun i hi=>by rw[h.2 i hi,Rat.one_mul]⟩
theorem ade {a:PP} (h:Trim a):gj (dy (dy a)) (dy a):=(D7 h).cM
theorem Pc {s t:PP×PP} (h1:Trim t.1) (h2:Trim t.2) (g1:gj s.1 (dy t.1)) (g2:gj s.2 (dy t.2)):∀j,gj (bQ s j).1 (dy (bQ t j).1)/\gj (bQ s j).2 (dy (bQ t j).2)
 |0=>⟨g1,g2⟩
 |j+1=>by
  obtain⟨i1,i2⟩:=Pc h1 h2 g1 g2 j
  obtain⟨t1,t2⟩:=lW h1 h2 j
  show gj (fL _).1 (dy (fL _).1)/\gj (fL _).2 (dy (fL _).2)
  have hl:(bQ s j).2.1=(bQ t j).2.1:=i2.1
  unfold fL
  by_cases h0:(bQ t j).2.1=0
  ·rw[if_pos h0,if_pos (hl.trans h0)];exact⟨i1,i2⟩
  ·rw[if_neg h0,if_neg (by rw[hl];exact h0)]
   refine⟨i2,?_⟩
   have hs1:lU (bQ s j).1 (bQ t j).1:=by
    obtain⟨l,a1,a2,a3⟩:=D7 t1
    exact⟨l,a1,i1.1,fun i hi=>by rw[i1.2 i hi,a3 i (by rw[<-i1.1];exact hi)]⟩
   have hs2:lU (bQ s j).2 (bQ t j).2:=by
    obtain⟨l,a1,a2,a3⟩:=D7 t2
    exact⟨l,a1,i2.1,fun i hi=>by rw[i2.2 i hi,a3 i (by rw[<-i2.1];exact hi)]⟩
   have:=(lU.rem hs1 hs2 (by omega)).cM
   exact this.trans (ade rD).symm
def ahR (a b:PP):PP:=(bQ (dy a,dy b) b.1).1
theorem ae7 {a b:PP} (h1:Trim a) (h2:Trim b):gj (ahR a b) (bR a b):=(Pc (s:=(dy a,dy b)) (t:=(a,b)) h1 h2 (gj.refl _) (gj.refl _) b.1).1
end Go.Am
namespace Go.Am.B
open Go Go.Am.N AV af aq IntKind Proofs.Tryz
def AU:bz:=zG::(97,yg)::(152,Fx)::iK
abbrev xx:Code:=aI f100
def tY (a b:PP):Prop:=cN a.1 (cM a.1 a.2)/\cN b.1 (cM b.1 b.2)/\p7 (dy a,dy b)
def Ho:Spec:=en (kC (kL ag) (kC (kL ag) kN)) (fun a=>aG (bR a.1 a.2.1)) fun a=>[a.1.1<2^30,a.2.1.1<2^30,Trim a.1,Trim a.2.1,tY a.1 a.2.1]
def Vy (a:PP):Prop:=a.1≠0->tY a (aW a)/\mw a (bR a (aW a))/\cN (bh a).1 (bh a).2
def wF (a:PP):Prop:=a.1≠0/\a.1<2^30/\Trim a/\cN (a.1-1) (cO a.2)/\Vy a
def LW:Spec:=en (kC (kL ag) kN) (fun a=>aG (bh a.1)) fun a=>[wF a.1]
def Kc:bz:=zG::(97,yg)::(152,Fx)::(125,qq)::(100,Ho)::iK
theorem Tn:br 100 f100:=bu func100
theorem WK:br 99 f99:=bu func99
theorem acp {a b:PP}:aH T AU [] 60 nX (before xx [1,1,0]) ⟨aU 0 [aG a,aG b],[],0⟩=
  some (aj [aR a,a.1<2^40,Trim a,cN a.1 (cM a.1 a.2),aR b,b.1<2^40,Trim b,cN b.1 (cM b.1 b.2)] (leaf normal ([aG (dy a),aG (dy b)],[]))):=ah
theorem af8 {a b:PP}:aH T AU [13] 60 nX [part xx [1,1,0,0,0]] ⟨aB nX [aG a,aG b],[],0⟩=
  some (fork (decide ((b.1:Int)>0)) (aj [aR a,aR b,a.1<2^30,1<=b.1,b.1<2^30,Trim a,Trim b,mw a b] (aj [aR (dj a b),(dj a b).1<2^40,Trim (dj a b),cN (dj a b).1 (cM (dj a b).1 (dj a b).2)] (leaf normal ([aG b,aG (dy (dj a b))],[])))) (leaf (exit 0) ([aG a,aG b],[]))):=ah
theorem Vm {a b:PP}:cR T AU [] 60 f100 [part xx [1,1,1]] ⟨aB nX [aG a,aG b],[],0⟩=some (leaf ret [aG a]):=ah
theorem UQ {a:PP}:cB T Kc [] 60 f99 (aI f99) ⟨aU 0 [aG a],[],0⟩=
  some (aj [aR a,a.1<2^40,cN (a.1-1) (cO a.2),aR a,aR (aW a),a.1<2^30,(aW a).1<2^30,Trim a,Trim (aW a),tY a (aW a),aR a,aR (bR a (aW a)),a.1<2^30,1<=(bR a (aW a)).1,(bR a (aW a)).1<2^30,Trim a,Trim (bR a (aW a)),mw a (bR a (aW a))] (aj [aR (fA a (bR a (aW a))),(fA a (bR a (aW a))).1<2^40,Trim (fA a (bR a (aW a))),cN (fA a (bR a (aW a))).1 (cM (fA a (bR a (aW a))).1 (fA a (bR a (aW a))).2)] (leaf ret [aG (dy (fA a (bR a (aW a))))]))):=ah
theorem QM:bU P AU:=gH (aL PV (aL J4 iP))
theorem adg {a b:PP} (ha:a.1<2^30) (hb:b.1<2^30) (ta:Trim a) (tb:Trim b) (hz:tY a b) (K:Nat):aS P 100 K [aG a,aG b] [] (aM (aG (bR a b)) []):=by
 obtain⟨za,zb,hz⟩:=hz
 obtain⟨s,hs⟩:∃s,s=(dy a,dy b):=⟨_,rfl⟩
 have t1:Trim s.1:=by rw[hs];exact ov ta
 have t2:Trim s.2:=by rw[hs];exact ov tb
 have hT1:=lW t1 t2
 have hL:=y9 t1 t2
 have hB:=v5 (s:=s) (B:=2^30-1) (by rw[hs];show a.1<=_;omega) (by rw[hs];show b.1<=_;omega) t1 t2
 have hb2:s.2.1=b.1:=by rw[hs];rfl
 rw[<-hs]at hz
 refine iW (r:=aM (aG (bR a b)) []) hT QM hm Tn rfl aZ rfl [1,1,0] (i:=0) (y:=part xx [1,1,0,0,0]) (z:=part xx [1,1,1]) ah ah ah (f1:=[]) (f2:=[13]) (f3:=[]) 60 nX 0
  (fun j:Nat=>uA (bQ s j)) (fun _=>[]) (fun j=>j<=b.1) (fun j=>j<=b.1/\(bQ s j).2.1=0) (fun j=>(bQ s j).2.1) (fun _=>⟨⟨_,acp (a:=a) (b:=b),?_⟩,fun j hj=>⟨_,af8,?_⟩,fun j hj=>⟨_,Vm,?_⟩⟩) K []
 ·simp only[af.all,az]
  exact⟨⟨eF,aa,ta,za,eF,aa,tb,zb⟩,0,Nat.zero_le _,by rw[hs];exact dP.vals rfl⟩
 ·have h1:=hT1 j
  have h2:=hL j
  have h3:=hB j
  have h4:=hB (j+1)
  have h5:=hz.1 j
  have e1:(bQ s j).2.1≠0->bQ s (j+1)=((bQ s j).2,dy (dj (bQ s j).1 (bQ s j).2)):=fun h=>if_neg h
  have e2:=hL (j+1)
  obtain⟨x,y,hx⟩:∃x y,bQ s j=(x,y):=⟨_,_,rfl⟩
  rw[hx]at h1 h2 h3 h5 e1
  dsimp only at h1 h2 h3 h5 e1
  simp only[af.all,az,bD,bI,hx]
  refine⟨fun h=>?_,fun h=>⟨rfl,j,⟨hj,by rw[hx];dsimp only;omega⟩,by show dP _ _ (uA (bQ s j)) _ _;rw[hx];exact dP.vals rfl⟩⟩
  have hy:y.1≠0:=aa
  have e1:=e1 hy
  rw[e1]at h4 e2
  have hr:(dj x y).1<y.1:=nY aa h1.2
  refine⟨⟨eF,eF,aa,aa,aa,h1.1,h1.2,(h5 hy).1⟩,⟨eF,aa,rD,(h5 hy).2⟩,j+1,aa,?_,?_⟩
  ·show(bQ s (j+1)).2.1<(bQ s j).2.1
   rw[e1,hx];exact hr
  ·show dP _ _ (uA (bQ s (j+1))) _ _
   rw[e1];exact dP.vals rfl
 ·obtain⟨hj,h0⟩:=hj
  have hst:=EU h0 (b.1-j)
  rw[show j+(b.1-j)=b.1 by omega]at hst
  have hg:gj (bQ s j).1 (bR a b):=by rw[<-hst,hs];exact ae7 ta tb
  simp only[af.all]
  obtain⟨g1,g2⟩:=hg
  show bg (bp _ _ _) (bp _ _ _)
  rw[<-g1]
  exact ir fun i hi=>dM (g2 i hi) aT
theorem Oh:bf P Ho 100:=dO fun⟨a,b,_⟩ K hn=>adg hn.1 hn.2.1 hn.2.2.1 hn.2.2.2.1 hn.2.2.2.2 K
theorem ahb:bU P Kc:=gH (aL PV (aL J4 (aL D9 (aL Oh iP))))
theorem XN {a:PP} (hz:wF a) (K:Nat):aS P 99 K [aG a] [] (aM (aG (bh a)) []):=by
 obtain⟨h0,ha,ta,hd,hz⟩:=hz
 refine cF hT ahb hm WK rfl aZ rfl 60 UQ (fun _=>?_) K []
 simp only[af.all,az]
 obtain⟨z1,z2,z3⟩:=hz h0
 have e0:bh a=dy (fA a (bR a (aW a))):=if_neg h0
 rw[e0]at z3 ⊢
 have hd1:(aW a).1<=a.1-1:=fE
 have hg:=v5 (s:=(a,aW a)) (B:=a.1) aT (by dsimp only;omega) ta dI (aW a).1
 have hgl:(bR a (aW a)).1<=a.1:=hg
 have hgp:0<(bR a (aW a)).1:=mM aa
 have tg:Trim (bR a (aW a)):=j8 ta dI
 have hq:(fA a (bR a (aW a))).1<=a.1:=Nat.le_trans fE (Nat.sub_le _ _)
 exact⟨⟨eF,aa,hd,eF,eF,ha,aa,ta,dI,z1,eF,eF,ha,hgp,aa,ta,tg,z2⟩,⟨eF,aa,yM,z3⟩,.refl _⟩
theorem QA:bf P LW 99:=dO fun⟨a,_⟩ K hn=>XN hn K
def Jh:Spec:=rJ fun K l=>match l with
 |[u,v]=>match(kL ag).read u,(kL ag).read v with
  |some (a,q1),some (d,q2)=>some ⟨.tuple [.void,.own K 3 0 (dj a d).1],[(K,cy a.1 (dj a d).2 ag)],q1++(q2++[a.1<2^30,1<=d.1,d.1<2^30,mw a d])⟩
  |_,_=>none
 |_=>none
def ud:bz:=zG::(97,Jh)::(125,qq)::(99,LW)::(52,Ac)::iK
abbrev vv:Code:=aI f63
abbrev DL:Code:=part vv [1,1,1,1,0,0,0]
abbrev uh:Code:=part DL [1,0]
abbrev rm:List Nat:=[3,4,5]
abbrev vR:List Nat:=[4,5,7,8]
abbrev Ck (y:PP) (j n i:Nat):List AV:=[.own 0 1 0 (j+1+1),aG y,.own 1 3 0 n,.int .i64 i]
abbrev Cd (s:PP×PP) (j m:Nat) (r:Nat->Rat):aE:=[(0,mK (j+1+1) s),(1,cy m r ag)]
theorem ID:br 63 f63:=bu func63
theorem WU {a:PP}:aH T ud [] 60 rm (before vv [1,1,1,1,0]) ⟨aU 0 [aG a],[],0⟩=
  some (aj [aR a,wF a] (aj [(1:Nat)*1<=2^24] (aj [aR (bh a),(bh a).1<2^40,cN ((bh a).1-1) (cO (bh a).2)] (leaf normal ([aG (bh a),own 20480 1 0 1,aG (aW (bh a))],[(20480,ax.mk true true 1 1 fun i=>nth [aG (bh a)] nil i)]))))):=ah
theorem aaR {x y:PP} {s:PP×PP} {j:Nat}:aH T ud [17] 60 rm (before DL [1]) ⟨aB rm [aG x,.own 0 1 0 (j+1),aG y],[(0,mK (j+1) s)],1⟩=
  some (fork (decide ((y.1:Int)>0)) (leaf normal ([aG x,own 0 1 0 (j+1),aG y],[((0:Nat),mK (j+1) s)])) (leaf (exit 0) ([aG x,own 0 1 0 (j+1),aG y],[((0:Nat),mK (j+1) s)]))):=ah
theorem adZ {x y:PP} {s:PP×PP} {j:Nat}:aH T ud [] 60 vR (before uh [1,1,0,1]) ⟨aB rm [aG x,.own 0 1 0 (j+1),aG y],[(0,mK (j+1) s)],1⟩=
  let c3:Nat:=y.fst-1;let c2:Nat:=j+1;let c4:Nat:=c2+1;let c1:Nat:=x.fst-c3;some (aj [(1:Nat)*1<=2^24,c4*((24:Nat)+1)*2<=2^47] (aj [cZ (fun i=>rat (x.snd i) ag) x.fst ag,cZ (fun i=>rat (y.snd i) ag) y.fst ag,x.fst<2^30,(1:Nat)<=y.fst,y.fst<2^30,mw (x.fst,fun i=>aQ (rat (x.snd i) ag)) (y.fst,fun i=>aQ (rat (y.snd i) ag))] (leaf normal ([own 12289 1 0 c4,ak 3 y.fst fun i=>rat (y.snd i) ag,own 28673 3 0 (bH (ck c3 (fun i=>aQ (rat (y.snd i) ag)) (fun i=>aQ (rat (x.snd i) ag)) c1 c1) x.fst),int i64 0],[(28673,ax.mk true true 3 x.fst fun i=>rat (ck c3 (fun i=>aQ (rat (y.snd i) ag)) (fun i=>aQ (rat (x.snd i) ag)) c1 c1 i) ag),(12289,ax.mk true true 1 c4 fun i=>if i<c2 then aG (bJ s i).fst else nth [ak 3 y.fst fun i=>rat (y.snd i) ag] nil (i-c2+0))])))):=ah
theorem aak {y:PP} {s:PP×PP} {j m n i:Nat} {r:Nat->Rat}:aH T ud [31] 60 vR [part uh [1,1,0,1,0,0]] ⟨aB vR (Ck y j n i),Cd s j m r,2⟩=
  let c8:Nat:=j+1+1;let c6:AV:=own 1 3 0 n;let c4:AV:=ak 3 y.fst fun i=>rat (y.snd i) ag;let c3:Int:=(↑i:Int);let c9:Int:=c3+1;let c7:Prop:=(0:Int)<=c3/\c3.toNat<n;let c5:AV:=own 0 1 0 c8;let c2:Nat:=c3.toNat+0;let c1:Nat×ax:=(0,ax.mk true true 1 c8 fun i=>ak 3 (bJ s i).fst.fst fun i_1=>rat ((bJ s i).fst.snd i_1) ag);some (fork (decide (c3<(↑n:Int))) (aj [c7,c2<m,c7,c2<m] (aj [-(2:Int)^63<=c9/\c9<2^63] (leaf normal ([c5,c4,c6,int i64 c9],[(1,ax.mk true true 3 m fun j=>rat (bif j==c2 then-r c2 else r j) (bif j==c2 then ag else ag)),c1])))) (leaf (exit 2) ([c5,c4,c6,int i64 c3],[(1,ax.mk true true 3 m fun i=>rat (r i) ag),c1]))):=ah
theorem Qs {y z:PP} {s:PP×PP} {j i m:Nat} {r:Nat->AV}:aH T ud [] 60 rm [part uh [1,1,1]] ⟨qC (some 7) (.ak 3 z.1 r) (aB vR (Ck y j z.1 i)),put 1 ⟨true,false,3,m,r⟩ (Cd s j m z.2),2⟩=
  let c1:Nat:=j+1+1;some (leaf normal ([ak 3 y.fst fun i=>rat (y.snd i) ag,own 0 1 0 c1,ak 3 z.fst fun a=>r a],[(0,ax.mk true true 1 c1 fun i=>ak 3 (bJ s i).fst.fst fun i_1=>rat ((bJ s i).fst.snd i_1) ag)])):=ah
theorem Yi {x y:PP} {s:PP×PP} {j:Nat}:cR T ud [] 60 f63 [part vv [1,1,1,1,1]] ⟨aB rm [aG x,.own 0 1 0 (j+1),aG y],[(0,mK (j+1) s)],1⟩=
  some (leaf ret [ak 1 (j+1) fun i=>ak 3 (bJ s (i+0)).fst.fst fun i_1=>rat ((bJ s (i+0)).fst.snd i_1) ag]):=ah
theorem ahf:bf P Jh 97:=by
 refine wv fun K args r hk hs=>?_
 split at hs
 ·rename_i u v
  split at hs
  ·rename_i a q1 d q2 hu hv
   simp only[ay]at hs
   subst hs
   intro need
   obtain⟨n1,n2⟩:=gB.1 need
   obtain⟨n2,h1,h2,h3,h4⟩:=gB.1 n2
   have e1:bp d.2 (d.1-1+1) ag=aG d:=by rw[show d.1-1+1=d.1 by omega]
   refine(abM (e:=d.1-1) (a:=a.2) (d:=d.2) (n:=a.1) (l:=q1++(q2++[a.1<2^30,1<=d.1,d.1<2^30,mw a d])) (fun _=>?_) (fun _=>⟨h1,aa,h4⟩) K) need
   rw[e1]
   exact C6 hk (by cases u<;>first|(exfalso;simp[kL,rW]at hu;done)|(cases v<;>first|rfl|(exfalso;simp[kL,rW]at hv;done))) ⟨(kL ag).ok hu n1,(kL ag).ok hv n2,trivial⟩
  ·simp at hs
 ·simp at hs
theorem HN:bU P ud:=gH (aL ahf (aL D9 (aL QA (aL BT iP))))
def og (a:PP):Prop:=wF a/\cN ((bh a).1-1) (cO (bh a).2)/\wT (dQ a)
def oM (x:Nat->Rat) (i j:Nat):Rat:=if j<i then-x j else x j
theorem ZO (q:Rat):((-1:Int):Rat)*q=-q:=by
 rw[show((-1:Int):Rat)=-1 by rfl,Rat.neg_mul,Rat.one_mul]
theorem adl {a:PP} (hz:og a) (K:Nat):aS P 63 K [aG a] [] (aM (fK (b7 a) (bS a)) []):=by
 obtain⟨hz0,hd2,hs⟩:=hz
 have ha:=hz0.2.1
 obtain⟨s,hss⟩:∃s,s=dQ a:=⟨_,rfl⟩
 have t1:Trim s.1:=by rw[hss];exact kn
 have t2:Trim s.2:=by rw[hss];exact dI
 have hTr:=ot t1 t2
 obtain⟨g1,g2,g3⟩:=mY t1 t2
 have hfl:(bh a).1<=a.1:=by
  unfold bh;split
  ·exact Nat.zero_le _
  ·exact Nat.le_trans fE (Nat.sub_le _ _)
 have hdl:(aW (bh a)).1<=(bh a).1-1:=fE
 have hB:=GB (s:=s) (B:=2^30-1) (by rw[hss];show(bh a).1<=_;omega) (by rw[hss];show(aW (bh a)).1<=_;omega) t1 t2
 have hg0:s.2.1=(aW (bh a)).1:=by rw[hss];rfl
 have hg:eV s<2^30:=aa
 have hW:=cY
 show aS P 63 K [aG a] [] (aM (CE (eV (dQ a)+1) (dQ a)) [])
 rw[<-hss]at hs ⊢
 refine iE (r:=aM (CE (eV s+1) s) []) hT ID rfl aZ rfl (fun _ cx h0=>?_) K []
 have hk:=mR h0
 have hj0:∀{j},j<=eV s->(bJ s j).2.1≠0->j<eV s:=fun {j} hj h=>by
  rcases Nat.lt_or_ge j (eV s)with h'|h'
  ·exact h'
  ·exact absurd (by rw[show j=eV s by omega];exact g2) h
 refine au.ag5 hT HN hm (x:=vv) [1,1,1,1,0] (i:=0) (y:=DL) ah ah ID.dst [1] (j:=1) (x1:=uh) ah ah ah [1,1,0,1] (i2:=2) (y2:=part uh [1,1,0,1,0,0]) ah ah rfl ah hk
  (f1:=[]) (f2:=[17]) (f3:=[]) (f4:=[31]) 60 rm vR 1 2 (fun j:Nat=>Bx s j) (fun j=>[(0,mK (j+1) s)]) (fun j=>j<=eV s) (fun j=>j=eV s) (fun j=>eV s-j) (fun j=>j<eV s) (fun _=>False) (fun _=>False)
  (fun j (i:Nat)=>Ck (bJ s j).2 j (dj (bJ s j).1 (bJ s j).2).1 i) (fun j i=>Cd s j (bJ s j).1.1 (oM (dj (bJ s j).1 (bJ s j).2).2 i)) (fun j i=>i<=(dj (bJ s j).1 (bJ s j).2).1) (fun j i=>i=(dj (bJ s j).1 (bJ s j).2).1) (fun j i=>(dj (bJ s j).1 (bJ s j).2).1-i)
  ⟨_,WU,?_⟩ (fun j hj=>⟨_,aaR,?_⟩) (fun j hj hG=>⟨_,adZ,?_⟩) (fun j hj hG i hi=>⟨_,aak,?_⟩) (fun j hj hG i hi=>?_) (fun j s' hj hs'=>?_) (fun _ _ h=>h.elim) (fun _ _ h=>h.elim)
 ·simp only[af.all,az]
  refine⟨⟨eF,hz0⟩,aa,⟨eF,Nat.lt_of_le_of_lt hfl aa,hd2⟩,0,Nat.zero_le _,[(0,20480)],rfl,by rw[hss];rfl,rfl,bk rfl rfl rfl (fun i hi=>?_) trivial⟩
  obtain rfl:i=0:=aa
  rw[hss];exact bK rfl rfl
 ·simp only[af.all,bD,bI]
  have re:dP [] ([aG (bJ s j).1,own 0 1 0 (j+1),aG (bJ s j).2],[((0:Nat),mK (j+1) s)]) (Bx s j) [(0,mK (j+1) s)] 1:=⟨[(0,0)],rfl,rfl,rfl,bk rfl rfl rfl (fun i hi=>bK rfl rfl) trivial⟩
  refine⟨fun h=>⟨hj0 hj aa,re⟩,fun h=>⟨rfl,j,?_,re⟩⟩
  rcases Nat.lt_or_ge j (eV s)with h'|h'
  ·have:=g3 j h';omega
  ·omega
 ·have h1:=hTr j
  have h3:=hB j hj
  have hy:=g3 j hG
  simp only[af.all,az]
  refine⟨⟨aa,aa⟩,⟨eF,eF,aa,aa,aa,(hs j hG).1⟩,0,Nat.zero_le _,[(0,12289),(1,28673)],rfl,rfl,rfl,bk rfl rfl rfl (fun i hi=>?_) (bk rfl rfl rfl (fun i hi=>bK rfl ?_) trivial)⟩
  ·by_cases hi2:i<j+1
   ·rw[if_pos hi2];exact bK rfl rfl
   ·rw[if_neg hi2,show i-(j+1)+0=0 by omega,show i=j+1 by omega];exact bK rfl rfl
  ·show AV.rat ((dj (bJ s j).1 (bJ s j).2).2 i) ag=AV.rat (oM _ 0 i) ag
   unfold oM;rw[if_neg (Nat.not_lt_zero i)]
 ·have h3:=hB j hj
  have hrl:(dj (bJ s j).1 (bJ s j).2).1<=(bJ s j).1.1:=fE
  simp only[af.all,az,bD,bI,bG,Nat.add_zero]
  refine⟨fun h=>⟨aa,aa,i+1,aa,by dsimp only;omega,[(0,0),(1,1)],rfl,by rw[show(i:Int)+1=((i+1:Nat):Int) by omega];rfl,rfl,bk rfl rfl rfl (fun l hl=>bK rfl rfl) (bk rfl rfl rfl (fun l hl=>?_) trivial)⟩,fun h=>⟨rfl,i,aa,[(0,0),(1,1)],rfl,rfl,rfl,bk rfl rfl rfl (fun l hl=>bK rfl rfl) (bk rfl rfl rfl (fun l hl=>bK rfl rfl) trivial)⟩⟩
  refine mC (x:=oM _ i) (y:=oM _ (i+1)) (dM ?_ aT) fun hl=>dM (Dk hl).symm aT
  unfold oM;rw[if_neg (Nat.lt_irrefl i),if_pos (Nat.lt_succ_self i)]
 ·subst hi
  obtain⟨z,hzz⟩:∃z:PP,z=((dj (bJ s j).1 (bJ s j).2).1,oM (dj (bJ s j).1 (bJ s j).2).2 (dj (bJ s j).1 (bJ s j).2).1):=⟨_,rfl⟩
  have e1:behind uh [1,1,0,1]=[part uh [1,1,1]]:=ah
  rw[e1]
  show aF P cx _ _ ⟨aB vR (Ck (bJ s j).2 j _ _),Cd s j _ _,2⟩ _
  rw[show(dj (bJ s j).1 (bJ s j).2).1=z.1 by rw[hzz],show oM (dj (bJ s j).1 (bJ s j).2).2 z.1=z.2 by rw[hzz]]
  refine aF.one (au.dF (t:=7) (k:=1) (es:=3) (s0:=0) (n:=z.1) (o:=cy (bJ s j).1.1 z.2 ag) rfl rfl rfl rfl (au.bL hT HN hm 60 rm Qs ah ?_))
  simp only[af.all,az]
  refine fun s' hs'=>⟨j+1,hG,by dsimp only;omega,C8 [(0,0)] hs' (fun k x h=>absurd (hk k x h) List.not_mem_nil) rfl ⟨aP,⟨rfl,ec (by simp[aX,look]) rfl rfl⟩,⟨rfl,iS rfl ?_⟩,trivial⟩ (uL (bk rfl rfl rfl (fun i hi=>bK rfl rfl) trivial))⟩
  show bg (bp (fun i=>z.2 (i+0)) z.1 ag) (aG (bJ s (j+1)).2)
  rw[hzz]
  refine ir fun i hi=>dM ?_ aT
  show oM _ _ i=((-1:Int):Rat)*_
  unfold oM
  rw[if_pos hi,ZO]
 ·subst hj
  rw[show behind vv [1,1,1,1,0]=[part vv [1,1,1,1,1]]from by kernel_rfl]
  exact aF.weak rfl hs' (aF.mono (fun _ _ h=>.inl h) (aF.fin hT HN hm 60 Yi ah (.refl _)))
end Go.Am.B
