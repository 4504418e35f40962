/- roots.gcd, free. -/
import Derived.Test.YtolopdkjjlfgjaaGreatY37
import Derived.Test.YtolopdkjjlfgjaaGreatZ2
set_option linter.unusedVariables false
noncomputable section
namespace Go.Am.B
open Go Go.Am.N AV ag aq IntKind Proofs.Tryz
abbrev aA (a:PP):AV:=bz a.2 a.1 af
def BR:bk:=zG::(88,C8)::(135,GL)::gL
abbrev wY:Code:=aH f72
abbrev oy:List Nat:=[0,1]
abbrev uy (s:PP×PP):List AV:=[aA s.1,aA s.2]
def mQ (a d:PP):Prop:=nR a.1 (d.1-1) d.2 a.2
def pK (s:PP×PP):Prop:=(∀j,(bT s j).2.1≠0->mQ (bT s j).1 (bT s j).2/\cN (dx (bT s j).1 (bT s j).2).1 (cL (dx (bT s j).1 (bT s j).2).1 (dx (bT s j).1 (bT s j).2).2))/\cN (bW s.1 s.2).1 (bW s.1 s.2).2
def A5:Spec:=dD (kC (kL af) (kC (kL af) kN)) (fun a=>aA (bW a.1 a.2.1)) fun a=>[a.1.1<2^30,a.2.1.1<2^30,Trim a.1,Trim a.2.1,pK (a.1,a.2.1)]
def w8 (a:PP):Prop:=a.1≠0->pK (a,bC a)/\mQ a (bW a (bC a))/\cN (bQ a).1 (bQ a).2
def Kw:bk:=zG::(88,C8)::(135,GL)::(73,rR)::(72,A5)::gL
theorem agj:bf 72 f72:=bg func72
theorem aag:bf 80 f80:=bg func80
theorem abA {s:PP×PP}:aI T BR [] 60 oy (before wY [1,0]) ⟨aU 0 [aA s.1,aA s.2],[],0⟩=
  some (leaf normal ([ak 3 s.fst.fst fun i=>rat (s.fst.snd i) af,ak 3 s.snd.fst fun i=>rat (s.snd.snd i) af],[])):=ah
theorem Zn {a b:PP}:aI T BR [9] 60 oy [part wY [1,0,0,0]] ⟨aC oy [aA a,aA b],[],0⟩=
  let c3:AV:=ak 3 b.fst fun i=>rat (b.snd i) af;let c2:Nat:=b.fst-1;let c4:Nat:=a.fst-c2;let c1:Nat:=bK (ct c2 (fun i=>aM (rat (b.snd i) af)) (fun i=>aM (rat (a.snd i) af)) c4 c4) a.fst;some (fork (decide ((↑b.fst:Int)>0)) (aj [cP (fun i=>rat (a.snd i) af) a.fst af,cP (fun i=>rat (b.snd i) af) b.fst af,a.fst<2^30,(1:Nat)<=b.fst,b.fst<2^30,a.fst=0\/aM (rat (a.snd (a.fst-1)) af)≠0,aM (rat (b.snd c2) af)≠0,nR a.fst c2 (fun i=>aM (rat (b.snd i) af)) fun i=>aM (rat (a.snd i) af)] (aj [cP (fun i=>rat (ct c2 (fun i=>aM (rat (b.snd i) af)) (fun i=>aM (rat (a.snd i) af)) c4 c4 i) af) c1 af,c1<2^40,cN c1 (cL c1 fun i=>aM (rat (ct c2 (fun i=>aM (rat (b.snd i) af)) (fun i=>aM (rat (a.snd i) af)) c4 c4 i) af))] (leaf normal ([c3,ak 3 c1 fun i=>rat (cL c1 (fun i=>aM (rat (ct c2 (fun i=>aM (rat (b.snd i) af)) (fun i=>aM (rat (a.snd i) af)) c4 c4 i) af)) i) af],[])))) (leaf (exit 0) ([ak 3 a.fst fun i=>rat (a.snd i) af,c3],[]))):=ah
theorem XD {a b:PP}:cQ T BR [] 60 f72 [part wY [1,1]] ⟨aC oy [aA a,aA b],[],0⟩=
  some (aj [cP (fun i=>rat (a.snd i) af) a.fst af,a.fst<2^40,cN a.fst (cL a.fst fun i=>aM (rat (a.snd i) af))] (leaf ret [ak 3 a.fst fun i=>rat (cL a.fst (fun i=>aM (rat (a.snd i) af)) i) af])):=ah
theorem adZ {a:PP}:b9 T Kw [7] 60 f80 (aH f80) ⟨aU 0 [aA a],[],0⟩=
  let c9:Nat:=a.fst;let c8:Nat:=2^30;let c11:Nat:=c9-1;let c7:Nat×(Nat->Rat):=(c9,fun i=>aM (rat (a.snd i) af));let c6:Prop:=cP (fun i=>rat (a.snd i) af) c9 af;let c3:Nat:=bK (cR fun i=>aM (rat (a.snd i) af)) c11;let c5:Nat×(Nat->Rat):=(c3,fun i=>aM (rat (cR (fun i=>aM (rat (a.snd i) af)) i) af));let c1:PP:=(bT (c7,c5) c3).fst;let c10:Nat:=c1.fst;let c4:Nat:=c10-1;let c2:Nat:=bK (dM c4 (fun i=>aM (rat (cL c10 c1.snd i) af)) (fun i=>aM (rat (a.snd i) af)) (c9-c4)) (c9-c4);some (fork ((↑c9:Int)==0) (leaf ret [nil]) (aj [c6,c9<2^40,cN c11 (cR fun i=>aM (rat (a.snd i) af)),c6,cP (fun i=>rat (cR (fun i=>aM (rat (a.snd i) af)) i) af) c3 af,c9<c8,c3<c8,Trim c7,Trim c5,pK (c7,c5),c6,cP (fun i=>rat (cL c10 c1.snd i) af) c10 af,c9<c8,(1:Nat)<=c10,c10<c8,c9=0\/aM (rat (a.snd c11) af)≠0,aM (rat (cL c10 c1.snd c4) af)≠0,nR c9 c4 (fun i=>aM (rat (cL c10 c1.snd i) af)) fun i=>aM (rat (a.snd i) af)] (aj [cP (fun i=>rat (dM c4 (fun i=>aM (rat (cL c10 c1.snd i) af)) (fun i=>aM (rat (a.snd i) af)) (c9-c4) i) af) c2 af,c2<2^40,cN c2 (cL c2 fun i=>aM (rat (dM c4 (fun i=>aM (rat (cL c10 c1.snd i) af)) (fun i=>aM (rat (a.snd i) af)) (c9-c4) i) af))] (leaf ret [ak 3 c2 fun i=>rat (cL c2 (fun i=>aM (rat (dM c4 (fun i=>aM (rat (cL c10 c1.snd i) af)) (fun i=>aM (rat (a.snd i) af)) (c9-c4) i) af)) i) af])))):=ah
theorem ZG:bR P BR:=gY (aJ Ih (aJ Ki gQ))
theorem UK {a b:PP} (ha:a.1<2^30) (hb:b.1<2^30) (ta:Trim a) (tb:Trim b) (hz:pK (a,b)) (K:Nat):aQ P 72 K [aA a,aA b] [] (aL (aA (bW a b)) []):=by
 obtain⟨s,hs⟩:∃s,s=(a,b):=⟨_,rfl⟩
 have hT1:=mI (s:=s) (by rw[hs];exact ta) (by rw[hs];exact tb)
 have hL:=ze (s:=s) (by rw[hs];exact ta) (by rw[hs];exact tb)
 have hB:=wB (s:=s) (B:=2^30-1) (by rw[hs];dsimp only;omega) (by rw[hs];dsimp only;omega) (by rw[hs];exact ta) (by rw[hs];exact tb)
 have hb2:s.2.1=b.1:=by rw[hs]
 rw[<-hs]at hz
 refine jc (r:=aL (aA (bW a b)) []) hT ZG hm agj rfl aX rfl [1,0] (i:=0) (y:=part wY [1,0,0,0]) (z:=part wY [1,1]) ah ah ah (f1:=[]) (f2:=[9]) (f3:=[]) 60 oy 0
  (fun j:Nat=>uy (bT s j)) (fun _=>[]) (fun j=>j<=b.1) (fun j=>j<=b.1/\(bT s j).2.1=0) (fun j=>(bT s j).2.1) (fun _=>⟨⟨_,abA (s:=(a,b)),?_⟩,fun j hj=>⟨_,Zn,?_⟩,fun j hj=>⟨_,XD,?_⟩⟩) K []
 ·simp only[ag.all,az]
  exact⟨0,Nat.zero_le _,by rw[hs];exact dS.vals rfl⟩
 ·have h1:=hT1 j
  have h2:=hL j
  have h3:=hB j
  have h4:=hB (j+1)
  have h5:=hz.1 j
  have e1:(bT s j).2.1≠0->bT s (j+1)=((bT s j).2,dI (dx (bT s j).1 (bT s j).2)):=fun h=>if_neg h
  have e2:=hL (j+1)
  obtain⟨x,y,hx⟩:∃x y,bT s j=(x,y):=⟨_,_,rfl⟩
  rw[hx]at h1 h2 h3 h5 e1
  dsimp only at h1 h2 h3 h5 e1
  simp only[ag.all,az,bB,bD,hx]
  refine⟨fun h=>?_,fun h=>⟨rfl,j,⟨hj,by rw[hx];dsimp only;omega⟩,by show dS _ _ (uy (bT s j)) _ _;rw[hx];exact dS.vals rfl⟩⟩
  have hy:y.1≠0:=aa
  have e1:=e1 hy
  rw[e1]at h4 e2
  have hr:(dx x y).1<y.1:=oM aa h1.2
  have ty:y.2 (y.1-1)≠0:=by rcases h1.2 with h|h;omega;exact h
  refine⟨⟨ek aT,ek aT,aa,aa,aa,h1.1,ty,(h5 hy).1⟩,⟨ek aT,by show(dx x y).1<_;omega,(h5 hy).2⟩,j+1,aa,?_,?_⟩
  ·show(bT s (j+1)).2.1<(bT s j).2.1
   rw[e1,hx];exact hr
  ·show dS _ _ (uy (bT s (j+1))) _ _
   rw[e1];exact dS.vals rfl
 ·obtain⟨hj,h0⟩:=hj
  have hg:dI (bT s j).1=bW a b:=by rw[hs]at h0 ⊢;exact aey ta tb hj h0
  have h3:=hB j
  have hz2:=hz.2
  rw[show s.1=a by rw[hs],show s.2=b by rw[hs],<-hg]at hz2
  rw[<-hg]
  simp only[ag.all,az]
  exact⟨⟨ek aT,aa,hz2⟩,.refl _⟩
theorem HH:aY P A5 72:=cO fun⟨a,b,_⟩ K hn=>UK hn.1 hn.2.1 hn.2.2.1 hn.2.2.2.1 hn.2.2.2.2 K
theorem abv:bR P Kw:=gY (aJ Ih (aJ Ki (aJ Iw (aJ HH gQ))))
theorem O5 {a:PP} (ha:a.1<2^30) (ta:Trim a) (hd:cN (a.1-1) (cR a.2)) (hz:w8 a) (K:Nat):aQ P 80 K [aA a] [] (aL (aA (bQ a)) []):=by
 refine ck hT abv hm aag rfl aX rfl 60 adZ (fun _=>?_) K []
 simp only[ag.all,az,beq_iff_eq,beq_eq_false_iff_ne]
 refine⟨fun h=>?_,fun h=>?_⟩
 ·have h0:a.1=0:=aa
  unfold bQ
  rw[if_pos h0];exact lZ aa
 ·have h0:a.1≠0:=aa
  obtain⟨z1,z2,z3⟩:=hz h0
  have e0:bQ a=dI (fF a (bW a (bC a))):=if_neg h0
  rw[e0]at z3 ⊢
  have hd1:(bC a).1<=a.1-1:=fN
  have hg:=wB (s:=(a,bC a)) (B:=a.1) aT (by dsimp only;omega) ta dZ (bC a).1
  have hgp:0<(bW a (bC a)).1:=nF aa
  have tg:Trim (bW a (bC a)):=kH ta dZ
  have tg':(bW a (bC a)).2 ((bW a (bC a)).1-1)≠0:=by rcases tg with h|h;omega;exact h
  have hq:(fF a (bW a (bC a))).1<=a.1:=Nat.le_trans fN (Nat.sub_le _ _)
  exact⟨⟨ek aT,aa,hd,ek aT,ek aT,ha,Nat.lt_of_le_of_lt hd1 aa,ta,dZ,z1,ek aT,ek aT,ha,hgp,Nat.lt_of_le_of_lt hg ha,ta,tg',z2⟩,⟨ek aT,Nat.lt_of_le_of_lt hq aa,z3⟩,.refl _⟩
def Kb:Spec:=dD (kC (kL af) kN) (fun a=>aA (bQ a.1)) fun a=>[a.1.1<2^30,Trim a.1,cN (a.1.1-1) (cR a.1.2),w8 a.1]
theorem af6:aY P Kb 80:=cO fun⟨a,_⟩ K hn=>O5 hn.1 hn.2.1 hn.2.2.1 hn.2.2.2 K
abbrev CN (n:Nat) (s:PP×PP):AV:=.ak 1 n fun i=>aA (bM s i).1
abbrev mS (n:Nat) (s:PP×PP):au:=⟨true,true,1,n,fun i=>aA (bM s i).1⟩
def Da:bk:=zG::(88,C8)::(121,DV)::(73,rR)::(80,Kb)::gL
abbrev yW:Code:=aH f59
abbrev yC:List Nat:=[3,4,5]
abbrev BJ (s:PP×PP) (j:Nat):List AV:=[aA (bM s j).1,.own 0 1 0 (j+1),aA (bM s j).2]
def xU (s:PP×PP):Prop:=∀j,j<fo s->mQ (bM s j).1 (bM s j).2/\cN (bM s (j+1)).2.1 (bM s (j+1)).2.2
theorem adi:bf 59 f59:=bg func59
theorem adw {a:PP}:aI T Da [] 60 yC (before yW [1,1,1,0,1]) ⟨aU 0 [aA a],[],0⟩=
  let c2:Nat×(Nat->Rat):=(a.fst,fun i=>aM (rat (a.snd i) af));let c1:PP:=bQ c2;some (aj [cP (fun i=>rat (a.snd i) af) a.fst af,a.fst<2^30,Trim c2,cN (a.fst-1) (cR fun i=>aM (rat (a.snd i) af)),w8 c2] (aj [(1:Nat)*1<=2^24] (aj [cP (fun i=>rat (c1.snd i) af) c1.fst af,c1.fst<2^40,cN (c1.fst-1) (cR fun i=>aM (rat (c1.snd i) af))] (leaf normal ([ak 3 c1.fst fun i=>rat (c1.snd i) af,own 20480 1 0 1,ak 3 (bK (cR fun i=>aM (rat (c1.snd i) af)) (c1.fst-1)) fun i=>rat (cR (fun i=>aM (rat (c1.snd i) af)) i) af],[(20480,au.mk true true 1 1 fun i=>nth [ak 3 c1.fst fun i=>rat (c1.snd i) af] nil i)]))))):=ah
theorem aaE {x y:PP} {s:PP×PP} {j:Nat}:aI T Da [16] 60 yC [part yW [1,1,1,0,1,0,0]] ⟨aC yC [aA x,.own 0 1 0 (j+1),aA y],[(0,mS (j+1) s)],1⟩=
  let c6:Int:=(-1:Int);let c4:AV:=ak 3 y.fst fun i=>rat (y.snd i) af;let c3:Nat:=j+1;let c2:Nat:=y.fst-1;let c7:Nat:=c3+1;let c5:Nat:=x.fst-c2;let c1:Nat:=bK (ct c2 (fun i=>aM (rat (y.snd i) af)) (fun i=>aM (rat (x.snd i) af)) c5 c5) x.fst;some (fork (decide ((↑y.fst:Int)>0)) (aj [(1:Nat)*1<=2^24,c7*((24:Nat)+1)*2<=2^47] (aj [cP (fun i=>rat (x.snd i) af) x.fst af,cP (fun i=>rat (y.snd i) af) y.fst af,x.fst<2^30,(1:Nat)<=y.fst,y.fst<2^30,x.fst=0\/aM (rat (x.snd (x.fst-1)) af)≠0,aM (rat (y.snd c2) af)≠0,nR x.fst c2 (fun i=>aM (rat (y.snd i) af)) fun i=>aM (rat (x.snd i) af)] (aj [-(2:Int)^63<=c6,c6<2^63,cP (fun i=>rat (ct c2 (fun i=>aM (rat (y.snd i) af)) (fun i=>aM (rat (x.snd i) af)) c5 c5 i) af) c1 af,Max.max 1 (bV c6.natAbs)<=eu,c1<2^40,cN c1 fun i=>(↑c6:Rat)*aM (rat (ct c2 (fun i=>aM (rat (y.snd i) af)) (fun i=>aM (rat (x.snd i) af)) c5 c5 i) af)] (leaf normal ([c4,own 24577 1 0 c7,ak 3 c1 fun i=>rat ((↑c6:Rat)*aM (rat (ct c2 (fun i=>aM (rat (y.snd i) af)) (fun i=>aM (rat (x.snd i) af)) c5 c5 i) af)) af],[(24577,au.mk true true 1 c7 fun i=>if i<c3 then aA (bM s i).fst else nth [ak 3 y.fst fun i=>rat (y.snd i) af] nil (i-c3+0))]))))) (leaf (exit 0) ([ak 3 x.fst fun i=>rat (x.snd i) af,own 0 1 0 c3,c4],[(0,au.mk true true 1 c3 fun i=>ak 3 (bM s i).fst.fst fun i_1=>rat ((bM s i).fst.snd i_1) af)]))):=ah
theorem SN {s:PP×PP} {j:Nat}:cQ T Da [] 60 f59 [part yW [1,1,1,1]] ⟨aC yC (BJ s j),[(0,mS (j+1) s)],1⟩=
  some (leaf ret [ak 1 (j+1) fun i=>ak 3 (bM s (i+0)).fst.fst fun i_1=>rat ((bM s (i+0)).fst.snd i_1) af]):=ah
theorem YX:bR P Da:=gY (aJ Ih (aJ L5 (aJ Iw (aJ af6 gQ))))
theorem aaT {a:PP} (ha:a.1<2^30) (ta:Trim a) (hd:cN (a.1-1) (cR a.2)) (hz:w8 a) (hd2:cN ((bQ a).1-1) (cR (bQ a).2)) (hs:xU (en a)) (K:Nat):aQ P 59 K [aA a] [] (aL (CN (fo (en a)+1) (en a)) []):=by
 obtain⟨s,hss⟩:∃s,s=en a:=⟨_,rfl⟩
 have t1:Trim s.1:=by rw[hss];exact mM
 have t2:Trim s.2:=by rw[hss];exact dZ
 have hTr:=oO t1 t2
 obtain⟨g1,g2,g3⟩:=oS t1 t2
 have hfl:(bQ a).1<=a.1:=by
  unfold bQ;split
  ·exact Nat.zero_le _
  ·exact Nat.le_trans fN (Nat.sub_le _ _)
 have hdl:(bC (bQ a)).1<=(bQ a).1-1:=fN
 have hB:=Il (s:=s) (B:=2^30-1) (by rw[hss];show(bQ a).1<=_;omega) (by rw[hss];show(bC (bQ a)).1<=_;omega) t1 t2
 have hg0:s.2.1=(bC (bQ a)).1:=by rw[hss];rfl
 have hg:fo s<2^30:=aa
 rw[<-hss]at hs ⊢
 refine jc (r:=aL (CN (fo s+1) s) []) hT YX hm adi rfl aX rfl [1,1,1,0,1] (i:=0) (y:=part yW [1,1,1,0,1,0,0]) (z:=part yW [1,1,1,1]) ah ah ah (f1:=[]) (f2:=[16]) (f3:=[]) 60 yC 1
  (fun j:Nat=>BJ s j) (fun j=>[(0,mS (j+1) s)]) (fun j=>j<=fo s) (fun j=>j=fo s) (fun j=>fo s-j) (fun _=>⟨⟨_,adw,?_⟩,fun j hj=>⟨_,aaE (x:=(bM s j).1) (y:=(bM s j).2),?_⟩,fun j hj=>⟨_,SN,?_⟩⟩) K []
 ·simp only[ag.all,az]
  refine⟨⟨ek aT,ha,ta,hd,hz⟩,aa,⟨ek aT,Nat.lt_of_le_of_lt hfl aa,hd2⟩,0,Nat.zero_le _,[(0,20480)],rfl,by rw[hss];rfl,rfl,br rfl rfl rfl (fun i hi=>?_) trivial⟩
  obtain rfl:i=0:=aa
  rw[hss];exact bN rfl rfl
 ·have h1:=hTr j
  have h3:=hB j hj
  have hb:bV (Int.natAbs (-1))=1:=by decide
  have hW:=cF
  have hX:=uQ
  simp only[ag.all,az,bB,bD]
  refine⟨fun h=>?_,fun h=>?_⟩
  ·have hy:(bM s j).2.1≠0:=aa
   have hjl:j<fo s:=by
    rcases Nat.lt_or_ge j (fo s)with h|h
    ·exact h
    ·exact absurd (by rw[show j=fo s by omega];exact g2) hy
   have hr:(dx (bM s j).1 (bM s j).2).1<(bM s j).2.1:=oM aa h1.2
   have ty:(bM s j).2.2 ((bM s j).2.1-1)≠0:=by rcases h1.2 with h|h;omega;exact h
   refine⟨⟨aa,aa⟩,⟨ek aT,ek aT,aa,aa,aa,h1.1,ty,(hs j hjl).1⟩,⟨aa,aa,ek aT,by rw[hb,Nat.max_self];omega,by show(dx (bM s j).1 (bM s j).2).1<_;omega,(hs j hjl).2⟩,j+1,hjl,by dsimp only;omega,[(0,24577)],rfl,rfl,rfl,br rfl rfl rfl (fun i hi=>?_) trivial⟩
   by_cases hi2:i<j+1
   ·rw[if_pos hi2];exact bN rfl rfl
   ·rw[if_neg hi2,show i-(j+1)+0=0 by omega,show i=j+1 by omega];exact bN rfl rfl
  ·have hjl:j=fo s:=by
    rcases Nat.lt_or_ge j (fo s)with h'|h'
    ·have:=g3 j h';omega
    ·omega
   exact⟨rfl,j,hjl,[(0,0)],rfl,rfl,rfl,br rfl rfl rfl (fun i hi=>bN rfl rfl) trivial⟩
 ·subst hj
  exact .refl _
abbrev sK:Nat:=4096
abbrev ls (k:Nat->Rat) (n:Nat):AV:=bz k n sK
abbrev K2 (n:Nat) (k:Nat->Rat) (i:Nat):List AV:=[ls k n,.ptr 0 0 3 0 [],.int .i64 i,.int .i64 0,.int .i64 0]
theorem VJ {a b:Rat}:fV a b>=0↔b<=a:=by
 have:=@Dn a b
 constructor
 ·intro h
  have:¬a<b:=fun h'=>by have:=Dn.2 h';omega
  grind
 ·intro h
  have:¬fV a b<0:=fun h'=>by have:=Dn.1 h';grind
  omega
def Nq (n:Nat) (k:Nat->Rat) (t:Rat):Prop:=t<k 0\/k (n-1)<t
instance {n:Nat} {k:Nat->Rat} {t:Rat}:Decidable (Nq n k t):=inferInstanceAs (Decidable (t<k 0\/k (n-1)<t))
def JF (k:Nat->Rat) (i:Nat) (t:Rat) (d j:Nat):Rat:=if j=0 then 0 else fr (k (i-d+(j-1))) (k (i-d+(j-1)+(d+1))) t*vB k i t d (j-1)
theorem We:bf 56 f56:=bg func56
theorem aaO:bf 113 f113:=bg func113
def xA (k:Nat->Rat) (t:Rat):Nat->Nat
 |0=>0
 |i+1=>xA k t i+if k i=t then 1 else 0
def R6 (k:Nat->Rat) (i:Nat):Prop:=i=0\/k i≠k (i-1)
instance {k:Nat->Rat} {i:Nat}:Decidable (R6 k i):=inferInstanceAs (Decidable (i=0\/k i≠k (i-1)))
def aeO (n:Nat) (k:Nat->Rat) (p:Nat) (t:Rat):Prop:=((t=k 0\/t=k (n-1))/\xA k t n≠p+1)\/(¬(t=k 0\/t=k (n-1))/\p<xA k t n)
instance {n:Nat} {k:Nat->Rat} {p:Nat} {t:Rat}:Decidable (aeO n k p t):=inferInstanceAs (Decidable (((t=k 0\/t=k (n-1))/\xA k t n≠p+1)\/(¬(t=k 0\/t=k (n-1))/\p<xA k t n)))
def loadT (o:Oper):Nat:=match o.op with
 |.load t _=>t
 |_=>0
def ZS (o:Oper):Nat:=match o.op with
 |.binOp _ t _ _ _=>t
 |_=>0
def Wy (o:Oper):Array TypeId:=match o.op with
 |.call c=>c.argTypes
 |_=>#[]
def unT (o:Oper):Nat:=match o.op with
 |.unOp _ t _=>t
 |_=>0
def Rs:Code->Code×Code
 |.block _ (.rangeFunc _ _ x y)=>(x,y)
 |_=>(.skip,.skip)
def gb (a:PP) (t:Rat):Prop:=∀m,m<=a.1->Sz (fP a.1 a.2 t m) af
abbrev JY:FuncId:=127
abbrev AQ:FuncId:=163
abbrev wq:Code:=aH f163
def bu (v:AV):PP:=match sN v with
 |some (n,f)=>(n,fun i=>aM (f i))
 |none=>(0,fun _=>0)
abbrev eO (n:Nat) (c:Nat->PP):AV:=.ak 1 n fun i=>aA (c i)
def mG:Kind (Nat×(Nat->PP)):=⟨fun v=>match v with
 |.ak 1 n f=>some ((n,fun i=>bu (f i)),[∀i,i<n->aW (f i) (aA (bu (f i)))])
 |_=>none,fun a=>eO a.1 a.2,fun {v a q} h hq=>by
  split at h
  ·simp only[ay,Prod.mk.injEq]at h
   obtain⟨rfl,rfl⟩:=h
   exact iH hq
  ·simp at h⟩
def mB:Spec:=dD (kC (kL af) (kC (eU af) kN)) (fun a=>.rat (cr a.1 a.2.1) af) fun a=>[a.1.1<2^40,gb a.1 a.2.1]
def cX (c:Nat->PP) (t:Rat) (i:Nat):Int:=bL (cr (c i) t)
def Dx:bk:=zG::(66,mB)::gL
abbrev yz:Code:=aH f122
abbrev xQ:List Nat:=[3,5,6,10,11,12]
abbrev CF (n:Nat) (c:Nat->PP) (l:Int) (m i:Nat):List AV:=[.ptr 0 0 3 0 [],.int .i64 l,.int .i64 m,eO n c,.int .i64 n,.int .i64 i]
def cq (n:Nat) (c:Nat->PP) (t:Rat):Prop:=∀i,i<n->(c i).1<2^40/\gb (c i) t
def NX:Spec:=dD (kC mG (kC (eU af) kN)) (fun a=>.int .i64 ((bX (cX a.1.2 a.2.1) a.1.1).2:Nat)) fun a=>[a.1.1<2^40,cq a.1.1 a.1.2 a.2.1]
def O0:bk:=nG::(122,NX)::(66,mB)::gL
def dG (n:Nat) (c:Nat->PP) (a b:Rat):Int:=if a>=b then 0 else((bX (cX c a) n).2:Int)-((bX (cX c b) n).2:Int)-(if cr (c 0) b=0 then 1 else 0)
theorem WQ:bf JY f127:=bg func127
theorem FQ:bf AQ f163:=bg func163
theorem IS:bf 66 f66:=bg func66
theorem aaW:bf 122 f122:=bg func122
theorem agk:bf 60 f60:=bg func60
abbrev Nm:Nat:=loadT (fh wq [0] 0)
abbrev M3:Nat:=loadT (fh wq [1,0,0,1,0,0,0] 5)
abbrev Vw:Nat:=ZS (fh wq [0] 2)
theorem aiv:JH wq Nm M3 Vw:=⟨ah,⟨ah,ah,ah⟩,⟨ah,ah,ah⟩,⟨ah,ah,ah⟩,⟨ah,ah,ah⟩,⟨ah,ah,ah⟩,⟨ah,ah,ah⟩,⟨ah,ah,ah⟩,⟨ah,ah,ah⟩,⟨ah,ah,ah⟩,⟨ah,ah,ah⟩,⟨ah,ah,ah⟩,⟨ah,ah,ah⟩,
 ⟨Wy (fh wq [1,0,0,1,0,0,0] 6),ah,ah,ah⟩,⟨unT (fh wq [1,0,0,1,0,0,0] 7),ah,ah,ah⟩,⟨ah,ah,ah⟩,⟨ah,ah,ah⟩,⟨ah,ah,ah⟩⟩
theorem aez {n s:Nat} {k:Nat->Rat} (hn:n<2^62):DH P AQ [.b7 (bz k n s)] n (fun i=>.int .i64 ((n:Int)-1-i)) (fun i=>.rat (k (n-1-i)) s):=
 akn hT (tiS:=(look Nm T).getD ⟨.bool,0,0,.nil⟩) (tiE:=(look M3 T).getD ⟨.bool,0,0,.nil⟩) ah ah ah ah FQ.get FQ.body ah ah aiv (f:=fun i=>.rat (k i) s) hn ah fun i hi=>⟨rfl,rfl⟩
def x9:bk:=nG::(JY,FJ T [sG] [] 20 f127)::gL
abbrev yO:List Nat:=[3,4,5,9]
abbrev GV (a:PP):List AV:=[.ptr 0 0 3 0 [],.ptr 1 0 3 0 [],.ptr 2 0 3 0 [],.func AQ [.b7 (aA a)]]
abbrev tR (q:Rat) (s:Nat):au:=⟨false,true,3,1,fun _=>.rat q s⟩
abbrev rG (t x:Rat):aE:=[(2,tR x af),(1,tR 0 1),(0,tR t af)]
abbrev E9:List Nat:=[3,4,5,9,7]
abbrev Mq (a:PP):List AV:=[.ptr 0 0 3 0 [],.ptr 1 0 3 0 [],.ptr 2 0 3 0 [],.func AQ [.b7 (aA a)],.ptr 3 0 3 0 []]
abbrev tM:Code:=aH f66
abbrev JC:Code:=(Rs (part tM [1,1,0,1])).1
abbrev KL:Code:=(Rs (part tM [1,1,0,1])).2
theorem UQ {a:PP} {t:Rat}:aI T x9 [] 60 yO (before tM [1,1,0,1]) ⟨aU 0 [aA a,.rat t af],[],0⟩=
  let c1:au:=gA fun x=>rat 0 1;some (leaf normal ([ptr 0 0 (de (rat t af)).size 0 [],ptr 4096 0 3 0 [],ptr 8192 0 3 0 [],func 163 [(ak 3 a.fst fun i=>rat (a.snd i) af).b7]],[((8192:Nat),c1),((4096:Nat),c1),(0,au.mk false true (de (rat t af)).size 1 fun x=>rat t af)])):=ah
theorem ae0 {a:PP} {t x v:Rat} {u:Int}:aI T x9 [] 60 E9 [JC] ⟨aC (yO++[10,11]) (GV a++[.int .i64 u,.rat v af]),rG t x,3⟩=
  let c1:AV:=rat 0 1;some (aj [(0:Nat)<1] (leaf normal ([ptr 0 0 3 0 [],ptr 1 0 3 0 [],ptr 2 0 3 0 [],func 163 [(ak 3 a.fst fun i=>rat (a.snd i) af).b7],ptr 3 0 3 0 []],[((3:Nat),gA fun j=>if(j==0)=true then de (rat v af)else c1),((2:Nat),gA fun x_1=>rat x af),((1:Nat),gA fun x=>c1),((0:Nat),gA fun x=>rat t af)]))):=ah
theorem aiU {a:PP} {t x v:Rat}:aI T x9 [] 60 yO [KL] ⟨aC E9 (Mq a),(3,tR v af)::rG t x,4⟩=
  let c2:Prop:=0<1;let c1:Nat:=2^42;some (aj [c2,c2,af<c1,af<c1,c2,af+af<c1,af<c1,c2] (leaf normal ([ptr 0 0 3 0 [],ptr 1 0 3 0 [],ptr 2 0 3 0 [],func 163 [(ak 3 a.fst fun i=>rat (a.snd i) af).b7]],[((2:Nat),gA fun j=>if(j==0)=true then de (xI (x*t,af+af) (v,af))else rat x af),((1:Nat),gA fun x=>rat 0 1),((0:Nat),gA fun x=>rat t af)]))):=ah
theorem Ss {a:PP} {t x:Rat}:cQ T x9 [] 60 f66 [part tM [1,1,1]] ⟨aC yO (GV a),rG t x,3⟩=
  let c1:Prop:=0<1;some (aj [c1,c1] (aj [c1] (leaf ret [rat x af]))):=ah
theorem agm {n:Nat} {c:Nat->PP} {t:Rat}:aI T Dx [] 60 xQ (before yz [1,1,0,1]) ⟨aU 0 [eO n c,.rat t af],[],0⟩=
  let c1:AV:=int i64 0;some (leaf normal ([ptr 0 0 (de (rat t af)).size 0 [],c1,c1,ak 1 n fun i=>ak 3 (c i).fst fun i_1=>rat ((c i).snd i_1) af,int i64 (↑n:Int),c1],[(0,au.mk false true (de (rat t af)).size 1 fun x=>rat t af)])):=ah
theorem UO {n m i:Nat} {c:Nat->PP} {l:Int} {t:Rat}:aI T Dx [13,23,27] 60 xQ [part yz [1,1,0,1,0,0]] ⟨aC xQ (CF n c l m i),[(0,tR t af)],1⟩=
  let c14:Int:=(↑n:Int);let c11:AV:=int i64 (↑m:Int);let c9:Int:=(↑m:Int)+1;let c8:AV:=ak 1 n fun i=>ak 3 (c i).fst fun i_1=>rat ((c i).snd i_1) af;let c7:Int:=(2:Int)^63;let c6:Int:=(↑i:Int);let c5:AV:=ptr 0 0 3 0 [];let c3:List (Nat×au):=[((0:Nat),gA fun x=>rat t af)];let c13:Int:=c6+1;let c12:PP:=c c6.toNat;let c10:Nat×(Nat->Rat):=(c12.fst,fun i=>aM (rat (c12.snd i) af));let c4:List Prop:=[-c7<=c13/\c13<c7];let c2:List AV:=[c8,int i64 c14,int i64 c13];let c1:Int:=bL (cr c10 t);some (fork (decide (c6<c14)) (aj [(0:Int)<=c6/\c6.toNat<n] (aj [(0:Nat)<1,cP (fun i=>rat (c12.snd i) af) c12.fst af,af<=af,c12.fst<2^40,gb c10 t,af<2^42] (aj [-c7<=c1*l/\c1*l<c7] (fork (decide (c1*l<0)) (aj [-c7<=c9/\c9<c7] (fork (c1 !=(0:Int)) (aj c4 (leaf normal (c5::int i64 c1::int i64 c9::c2,c3))) (aj c4 (leaf normal (c5::int i64 l::int i64 c9::c2,c3))))) (fork (c1 !=(0:Int)) (aj c4 (leaf normal (c5::int i64 c1::c11::c2,c3))) (aj c4 (leaf normal (c5::int i64 l::c11::c2,c3)))))))) (leaf (exit 0) ([c5,int i64 l,c11,c8,int i64 c14,int i64 c6],c3))):=ah
theorem Ut {n m i:Nat} {c:Nat->PP} {l:Int} {t:Rat}:cQ T Dx [] 60 f122 [part yz [1,1,1]] ⟨aC xQ (CF n c l m i),[(0,tR t af)],1⟩=
  some (leaf ret [int i64 (↑m:Int)]):=ah
theorem adQ {n:Nat} {c:Nat->PP} {x y:Rat}:b9 T O0 [11,25] 60 f60 (aH f60) ⟨aU 0 [eO n c,.rat x af,.rat y af],[],0⟩=
  let c6:Nat:=2^40;let c5:Prop:=af<2^42;let c4:Int:=(2:Int)^63;let c3:Prop:=0<1;let c2:PP:=c (Int.toNat (0:Int));let c1:Int:=(↑(bX (cX (fun i=>bu (aA (c i))) x) n).snd:Int)-(↑(bX (cX (fun i=>bu (aA (c i))) y) n).snd:Int);let c8:Int:=c1-1;let c7:Nat×(Nat->Rat):=(c2.fst,fun i=>aM (rat (c2.snd i) af));some (aj [c3,c3,c5,c5] (fork (decide (fV x y>=0)) (leaf ret [int i64 0]) (aj [c3,∀(i:Nat),i<n->aW (aA (c i)) (aA (bu (aA (c i)))),af<=af,n<c6,cq n (fun i=>bu (aA (c i))) x,c3,∀(i:Nat),i<n->aW (aA (c i)) (aA (bu (aA (c i)))),af<=af,n<c6,cq n (fun i=>bu (aA (c i))) y,-c4<=c1/\c1<c4] (aj [(0:Int)<=0/\Int.toNat (0:Int)<n,c3,cP (fun i=>rat (c2.snd i) af) c2.fst af,af<=af,c2.fst<c6,gb c7 y,c5] (fork (bL (cr c7 y)==0) (aj [-c4<=c8/\c8<c4] (leaf ret [int i64 c8])) (leaf ret [int i64 c1])))))):=ah
theorem Oh:bR P x9:=gi (aJ (Q1 hT (BT cz) hm WQ _ _) gQ)
theorem Tl {a:PP} {t:Rat} (hn:a.1<2^40) (hz:gb a t) (K:Nat):aQ P 66 K [aA a,.rat t af] [] (aL (.rat (cr a t) af) []):=by
 have hW:=cF
 refine abD (r:=aL (.rat (cr a t) af) []) hT IS rfl aX rfl (fun _ cx hro hk=>?_) K []
 refine ax.SX hT Oh hm (x:=tM) (assign:=JC) (body:=KL) (g:=9) (p0:=10) (p1:=11) [1,1,0,1] (i:=0) ah ah IS.dst hro hk FQ.enters (aez (s:=af) (k:=a.2) (n:=a.1) aa) aX aX (by decide) (f1:=[]) (f2:=[]) (f3:=[])
  60 yO E9 (GV a) (fun _=>rfl) rfl (fun i=>rG t (fP a.1 a.2 t i)) 3 4 (fun _=>Mq a) (fun i=>(3,tR (a.2 (a.1-1-i)) af)::rG t (fP a.1 a.2 t i)) [0,1,2] ⟨_,UQ,?_⟩ (fun i hi=>⟨_,ae0,?_⟩) (fun i hi=>⟨_,aiU,?_⟩) ?_
 ·simp only[ag.all,az]
  exact⟨trivial,[(0,0),(1,4096),(2,8192)],rfl,rfl,rfl,kg rfl rfl (.inr ⟨rfl,dy rfl aa⟩) (cG (cG trivial))⟩
 ·simp only[ag.all,az]
  exact⟨aa,trivial,[(0,0),(1,1),(2,2),(3,3)],rfl,rfl,rfl,cG (cG (cG (cG trivial)))⟩
 ·simp only[ag.all,az]
  exact⟨aa,trivial,[(0,0),(1,1),(2,2)],rfl,rfl,rfl,kg rfl rfl (.inr ⟨rfl,ej rfl (hz (i+1) hi)⟩) (cG (cG trivial))⟩
 ·rw[show behind tM [1,1,0,1]=[part tM [1,1,1]]from by kernel_rfl]
  exact(aG.fin hT Oh hm 60 Ss ah (by simp only[ag.all,az];exact⟨aa,aa,.refl _⟩)).mono fun _ _ h=>.inl h
theorem xh:aY P mB 66:=cO fun⟨a,t,_⟩ K hn=>Tl hn.1 hn.2 K
theorem Rm (q:Rat):-1<=bL q/\bL q<=1:=by unfold bL;split<;>(try split)<;>omega
theorem uh {s:Nat->Int} (h:∀i,-1<=s i/\s i<=1):∀i,(-1<=(bX s i).1/\(bX s i).1<=1)/\(bX s i).2<=i
 |0=>⟨⟨show(-1:Int)<=0 by decide,show(0:Int)<=1 by decide⟩,aT⟩
 |i+1=>by
  have ih:=uh h i
  have hi:=h i
  refine⟨?_,?_⟩
  ·show-1<=(if s i=0 then(bX s i).1 else s i)/\(if s i=0 then(bX s i).1 else s i)<=1
   split
   ·exact ih.1
   ·exact hi
  ·show(if s i*(bX s i).1<0 then(bX s i).2+1 else(bX s i).2)<=i+1
   split<;>omega
theorem we {c:Nat->PP} {t:Rat} (i:Nat):-1<=cX c t i/\cX c t i<=1:=Rm _
theorem afI {a b:Int} (ha:-1<=a/\a<=1) (hb:-1<=b/\b<=1):-1<=a*b/\a*b<=1:=by
 rcases(show a=-1\/a=0\/a=1 by omega)with rfl|rfl|rfl<;>omega
theorem aiO:bR P Dx:=gY (aJ xh gQ)
theorem ajj {n:Nat} {c:Nat->PP} {t:Rat} (hn:n<2^40) (hz:cq n c t) (K:Nat):aQ P 122 K [eO n c,.rat t af] [] (aL (.int .i64 ((bX (cX c t) n).2:Nat)) []):=by
 have hW:=cF
 refine jc (r:=aL (.int .i64 ((bX (cX c t) n).2:Nat)) []) hT aiO hm aaW rfl aX rfl [1,1,0,1] (i:=0) (y:=part yz [1,1,0,1,0,0]) (z:=part yz [1,1,1]) ah ah ah (f1:=[]) (f2:=[13,23,27]) (f3:=[]) 60 xQ 1
  (fun i:Nat=>CF n c (bX (cX c t) i).1 (bX (cX c t) i).2 i) (fun _=>[(0,tR t af)]) (fun i=>i<=n) (fun i=>i=n) (fun i=>n-i) (fun _=>⟨⟨_,agm,?_⟩,fun i hi=>⟨_,UO,?_⟩,fun i hi=>⟨_,Ut,?_⟩⟩) K []
 ·simp only[ag.all,az]
  exact⟨0,Nat.zero_le _,[(0,0)],rfl,rfl,rfl,cG trivial⟩
 ·obtain⟨h1,h2⟩:=uh (s:=cX c t) we i
  have h3:=we (c:=c) (t:=t) i
  have h4:=afI h3 h1
  have e1:bL (cr (c i) t)=cX c t i:=rfl
  have e2:(bX (cX c t) (i+1)).1=if cX c t i=0 then(bX (cX c t) i).1 else cX c t i:=rfl
  have e3:(bX (cX c t) (i+1)).2=if cX c t i*(bX (cX c t) i).1<0 then(bX (cX c t) i).2+1 else(bX (cX c t) i).2:=rfl
  simp only[ag.all,az,bB,bD,bJ,bne_iff_ne,ne_eq,bne_eq_false_iff_eq]
  show((i:Int)<n->_/\(_/\cP _ _ _/\_/\_/\gb (c i) t/\_)/\(-2^63<=cX c t i*_/\cX c t i*_<2^63)/\(cX c t i*_<0->_/\(¬cX c t i=0->_)/\(cX c t i=0->_))/\(¬cX c t i*_<0->(¬cX c t i=0->_)/\(cX c t i=0->_)))/\_
  have re:∀{l:Int} {m:Int},l=(bX (cX c t) (i+1)).1->m=((bX (cX c t) (i+1)).2:Nat)->dS [] ([.ptr 0 0 3 0 [],.int .i64 l,.int .i64 m,eO n c,.int .i64 n,.int .i64 ((i:Int)+1)],[((0:Nat),tR t af)]) (CF n c (bX (cX c t) (i+1)).1 (bX (cX c t) (i+1)).2 (i+1)) [(0,tR t af)] 1:=fun {l m} hl hm=>by
   subst hl hm
   exact⟨[(0,0)],rfl,by rw[show(i:Int)+1=((i+1:Nat):Int) by omega];rfl,rfl,cG trivial⟩
  refine⟨fun h=>⟨aa,⟨aa,ek aT,aT,(hz i aa).1,(hz i aa).2,aa⟩,aa,fun h5=>⟨aa,fun h6=>⟨aa,i+1,aa,by dsimp only;omega,re (by rw[e2,if_neg h6];rfl) (by rw[e3,if_pos h5];omega)⟩,fun h6=>⟨aa,i+1,aa,by dsimp only;omega,re (by rw[e2,if_pos h6]) (by rw[e3,if_pos h5];omega)⟩⟩,
   fun h5=>⟨fun h6=>⟨aa,i+1,aa,by dsimp only;omega,re (by rw[e2,if_neg h6];rfl) (by rw[e3,if_neg h5])⟩,fun h6=>⟨aa,i+1,aa,by dsimp only;omega,re (by rw[e2,if_pos h6]) (by rw[e3,if_neg h5])⟩⟩⟩,fun h=>⟨rfl,i,aa,[(0,0)],rfl,rfl,rfl,cG trivial⟩⟩
 ·subst hi;exact .refl _
theorem Wr:aY P NX 122:=cO fun⟨⟨n,c⟩,t,_⟩ K hn=>ajj hn.1 hn.2 K
theorem acu:bR P O0:=gi (aJ Wr (aJ xh gQ))
theorem ahw {n:Nat} {c:Nat->PP} {x y:Rat} (h0:0<n) (hn:n<2^40) (hx:cq n c x) (hy:cq n c y) (K:Nat):aQ P 60 K [eO n c,.rat x af,.rat y af] [] (aL (.int .i64 (dG n c x y)) []):=by
 have hW:=cF
 refine ck hT acu hm agk rfl aX rfl 60 adQ (fun _=>?_) K []
 have hbx:=(uh (s:=cX c x) we n).2
 have hby:=(uh (s:=cX c y) we n).2
 simp only[ag.all,az,VJ,bB,bD,od]
 show _/\(x>=y->_)/\(¬x>=y->(_/\(∀i,i<n->aW (aA (c i)) (aA (c i)))/\_/\_/\cq n c x/\_/\_/\_/\_/\cq n c y/\(-2^63<=((bX (cX c x) n).2:Int)-((bX (cX c y) n).2:Int)/\((bX (cX c x) n).2:Int)-((bX (cX c y) n).2:Int)<2^63))/\(_/\_/\_/\_/\_/\gb (c 0) y/\_)/\(cr (c 0) y=0->_)/\(¬cr (c 0) y=0->_))
 refine⟨aa,fun h=>?_,fun h=>⟨⟨aa,fun i _=>.refl _,aT,hn,hx,aa,fun i _=>.refl _,aT,hn,hy,aa⟩,⟨aa,aa,ek aT,aT,(hy 0 h0).1,(hy 0 h0).2,aa⟩,fun h2=>⟨?_,?_⟩,fun h2=>?_⟩⟩
 ·exact cw (if_pos h).symm
 ·show-2^63<=((bX (cX c x) n).2:Int)-((bX (cX c y) n).2:Int)-1/\((bX (cX c x) n).2:Int)-((bX (cX c y) n).2:Int)-1<2^63
  omega
 ·exact cw (by unfold dG;rw[if_neg h,if_pos h2];rfl)
 ·exact cw (by unfold dG;rw[if_neg h,if_neg h2,Int.sub_zero];rfl)
def vI:Spec:=dD (kC mG (kC (eU af) (kC (eU af) kN))) (fun a=>.int .i64 (dG a.1.1 a.1.2 a.2.1 a.2.2.1)) fun a=>[0<a.1.1,a.1.1<2^40,cq a.1.1 a.1.2 a.2.1,cq a.1.1 a.1.2 a.2.2.1]
theorem xx:aY P vI 60:=cO fun⟨⟨n,c⟩,x,y,_⟩ K hn=>ahw hn.1 hn.2.1 hn.2.2.1 hn.2.2.2 K
def aF (p:PP):PP:=(bK (fG p.1 p.2) p.1,fG p.1 p.2)
def agK (a:PP):PP:=(EM a.1,KT a.1 a.2)
def kD (p:PP):Prop:=1<=p.1/\p.1<=41/\sL p.1 p.2
def Y6 (a:PP):Prop:=a.1<=41/\jR a.1 a.2
abbrev aR (a:PP):Prop:=cP (fun i=>.rat (a.2 i) af) a.1 af
def uu:Spec:=dD (kC (kL af) kN) (fun a=>aA (aF a.1)) fun a=>[kD a.1]
def JG:Spec:=dD (kC (kL af) kN) (fun a=>aA (agK a.1)) fun a=>[Y6 a.1]
def yh:Spec:=dD (kC (kL af) (kC (kL af) kN)) (fun a=>.tuple [aA (fF a.1 a.2.1),aA (dx a.1 a.2.1)]) fun a=>[a.1.1<2^30,1<=a.2.1.1,a.2.1.1<2^30,Trim a.1,Trim a.2.1,mQ a.1 a.2.1]
def Cf (a:PP):Prop:=a.1<2^30/\Trim a/\cN (a.1-1) (cR a.2)/\w8 a
def nO (a:PP):Prop:=Cf a/\cN ((bQ a).1-1) (cR (bQ a).2)/\xU (en a)
def Pw:Spec:=dD (kC (kL af) kN) (fun a=>aA (bQ a.1)) fun a=>[Cf a.1]
def bh (a:PP) (i:Nat):PP:=(bM (en a) i).1
def bA (a:PP):Nat:=fo (en a)+1
def CE:Spec:=dD (kC (kL af) kN) (fun a=>eO (bA a.1) (bh a.1)) fun a=>[nO a.1]
def Mg:bk:=zG::(57,uu)::(88,yh)::(81,JG)::(80,Pw)::(72,A5)::(59,CE)::(60,vI)::gL
def pG (p:PP) (a b:Rat):Int:=if(aF p).1=0 then 3 else if a>b then 7 else 0
def uK (p:PP) (a b:Rat):Int:=if pG p a b=0 then dG (bA (aF p)) (bh (aF p)) a b else 0
theorem Vp:bf 16 f16:=bg func16
theorem aa1 {p:PP} {a b:Rat}:b9 T Mg [11,15] 60 f16 (aH f16) ⟨aU 0 [aA p,.rat a af,.rat b af],[],0⟩=
  some (aj [aR p,kD p] (fork (((aF p).1:Int)==0) (leaf ret [int i64 0,int i64 3]) (aj [(0:Nat)<1,(0:Nat)<1,af<2^42,af<2^42] (fork (decide (fV a b>0)) (leaf ret [int i64 0,int i64 7]) (aj [aR (aF p),nO (aF p),(0:Nat)<1,(0:Nat)<1,∀i,i<bA (aF p)->aW (aA (bh (aF p) i)) (aA (bh (aF p) i)),af<=af,af<=af,0<bA (aF p),bA (aF p)<2^40,cq (bA (aF p)) (bh (aF p)) a,cq (bA (aF p)) (bh (aF p)) b] (leaf ret [int i64 (dG (bA (aF p)) (bh (aF p)) a b),int i64 0])))))):=ah
theorem HF:aY P uu 57:=cO fun⟨a,_⟩ K hn=>XK hn.1 hn.2.1 hn.2.2 K
theorem ad0:aY P JG 81:=cO fun⟨a,_⟩ K hn=>XP hn.1 hn.2 K
theorem afu:aY P yh 88:=cO fun⟨⟨n,a⟩,⟨m,d⟩,_⟩ K hn=>by
 obtain⟨h1,h2,h3,h4,h5,h6⟩:=hn
 simp only at h1 h2 h3
 obtain⟨e,rfl⟩:∃e,m=e+1:=⟨m-1,aa⟩
 have hd:d e≠0:=h5.resolve_left (Nat.succ_ne_zero e)
 cases n with
 |zero=>exact Om aa K
 |succ n=>exact QG h1 aa (h4.resolve_left (Nat.succ_ne_zero n)) hd h6 K
theorem ahM:aY P Pw 80:=cO fun⟨a,_⟩ K hn=>O5 hn.1 hn.2.1 hn.2.2.1 hn.2.2.2 K
theorem Hy:aY P CE 59:=cO fun⟨a,_⟩ K hn=>aaT hn.1.1 hn.1.2.1 hn.1.2.2.1 hn.1.2.2.2 hn.2.1 hn.2.2 K
theorem aac:bR P Mg:=gY (aJ HF (aJ afu (aJ ad0 (aJ ahM (aJ HH (aJ Hy (aJ xx gQ)))))))
theorem dQ {a:PP}:aR a:=ek aT
def Bs (p:PP) (a b:Rat):Prop:=kD p/\((aF p).1≠0->nO (aF p)/\bA (aF p)<2^40/\cq (bA (aF p)) (bh (aF p)) a/\cq (bA (aF p)) (bh (aF p)) b)
theorem ab7 {p:PP} {a b:Rat} (hz:Bs p a b) (K:Nat):aQ P 16 K [aA p,.rat a af,.rat b af] [] (aL (.tuple [.int .i64 (uK p a b),.int .i64 (pG p a b)]) []):=by
 obtain⟨hp,hz⟩:=hz
 have hW:=cF
 refine ck hT aac hm Vp rfl aX rfl 60 aa1 (fun _=>?_) K []
 have hgt:∀{x y:Rat},fV x y>0↔x>y:=OR
 simp only[ag.all,az,beq_iff_eq,beq_eq_false_iff_ne,bB,bD,hgt]
 refine⟨⟨dQ,hp⟩,fun h=>?_,fun h=>⟨aa,fun h2=>?_,fun h2=>?_⟩⟩
 ·have h0:(aF p).1=0:=aa
  have e1:pG p a b=3:=if_pos h0
  exact⟨cw (by unfold uK;rw[e1];rfl),cw e1.symm,trivial⟩
 ·have h0:¬(aF p).1=0:=aa
  have e1:pG p a b=7:=by unfold pG;rw[if_neg h0,if_pos h2]
  exact⟨cw (by unfold uK;rw[e1];rfl),cw e1.symm,trivial⟩
 ·have h0:¬(aF p).1=0:=aa
  have e1:pG p a b=0:=by unfold pG;rw[if_neg h0,if_neg h2]
  obtain⟨z1,z2,z3,z4⟩:=hz h0
  exact⟨⟨dQ,z1,aa,aa,fun i _=>.refl _,aT,aT,Nat.succ_pos _,z2,z3,z4⟩,cw (by unfold uK;rw[if_pos e1]),cw e1.symm,trivial⟩
def mA:bk:=zG::gN
def xH:bk:=zG::(46,zk)::gN
abbrev yx:Code:=aH f91
abbrev wZ:List Nat:=[0,1,4,5,6]
abbrev G7 (n k i:Nat):List AV:=[.int .i64 n,.int .i64 k,.ptr 0 0 3 0 [],.ptr 1 0 3 0 [],.int .i64 i]
abbrev Gs (x:Rat):aE:=[(1,tR x 64),(0,tR 0 1)]
def A7:Spec:=cu fun l=>match l with
 |[.int .i64 n,.int .i64 k]=>some (aL (.rat ((bn n.toNat k.toNat:Int):Rat) 64) [0<=k,k<=n,n<=40])
 |_=>none
def uw:bk:=zG::(91,A7)::gN
abbrev yY:Code:=aH f123
abbrev Ax:Code:=part yY [1,1,1,1,0,1,0,0]
abbrev xO:Code:=part Ax [1,0,0]
abbrev tJ:List Nat:=[3,4,5,6]
abbrev BP (m k:Nat):List AV:=[.int .i64 m,.own 0 3 0 (m+1-k),.own 1 3 0 k,.int .i64 k]
abbrev z7:List Nat:=[3,4,5,6,7]
abbrev IJ (m k i:Nat):List AV:=[.int .i64 m,.own 0 3 0 (m+1-k),.own 1 3 0 (k+1),.int .i64 k,.int .i64 i]
def Cc:bk:=zG::(123,A2)::gN
abbrev zS:Code:=aH f61
abbrev nv:Code:=aH f151
theorem aee:bf 91 f91:=bg func91
theorem On:bf 123 f123:=bg func123
theorem abl:bf 61 f61:=bg func61
theorem EX:bf 151 f151:=bg func151
theorem ahC {n k:Nat}:aI T xH [] 60 wZ (before yx [1,1,0,1]) ⟨aU 0 [.int .i64 n,.int .i64 k],[],0⟩=
  let c1:AV:=rat 0 1;some (aj [-(2:Int)^63<=(1:Int),(1:Int)<2^63,(0:Nat)<1] (leaf normal ([int i64 (↑n:Int),int i64 (↑k:Int),ptr 0 0 3 0 [],ptr 8192 0 3 0 [],int i64 0],[((8192:Nat),gA fun j=>if(j==0)=true then de (rat (↑(1:Int):Rat) (Max.max 1 (bV (Int.natAbs (1:Int)))))else c1),((0:Nat),gA fun x=>c1)]))):=ah
theorem ajX {n k i:Nat} {x:Rat}:aI T xH [10] 60 wZ [part yx [1,1,0,1,0,0]] ⟨aC wZ (G7 n k i),Gs x,2⟩=
  let c9:Int:=(↑k:Int);let c8:Int:=(↑i:Int);let c7:Prop:=64<2^41;let c6:AV:=ptr 1 0 3 0 [];let c5:AV:=ptr 0 0 3 0 [];let c4:Nat×au:=((0:Nat),gA fun x=>rat 0 1);let c1:Int:=(2:Int)^63;let c3:Int:=(↑n:Int)-c8;let c2:Int:=c8+1;some (fork (decide (c8<c9)) (aj [(0:Nat)<1,-c1<=c3/\c3<c1,-c1<=c2/\c2<c1,-c1<=c3,c3<c1,-c1<=c2,c2<c1,c7,c7,(0:Nat)<1] (aj [-c1<=c2/\c2<c1] (leaf normal ([int i64 (↑n:Int),int i64 c9,c5,c6,int i64 c2],[((1:Nat),gA fun j=>if(j==0)=true then de (Ie (x,(64:Nat)) ((↑c3:Rat)/(↑c2:Rat),(64:Nat)))else rat x 64),c4])))) (leaf (exit 0) ([int i64 (↑n:Int),int i64 c9,c5,c6,int i64 c8],[((1:Nat),gA fun x_1=>rat x 64),c4]))):=ah
theorem Tv {n k i:Nat} {x:Rat}:cQ T xH [] 60 f91 [part yx [1,1,1]] ⟨aC wZ (G7 n k i),Gs x,2⟩=
  let c1:Prop:=0<1;some (aj [c1,c1] (aj [c1] (leaf ret [rat x 64]))):=ah
theorem ZY {m:Nat} {p:Nat->Rat}:aI T uw [] 60 tJ (before yY [1,1,1,1,0,1]) ⟨aU 0 [bz p (m+1) af],[],0⟩=
  let c2:Nat:=0+(m+1);let c1:Int:=(↑(m+1):Int)-1;some (aj [-(2:Int)^63<=c1/\c1<2^63] (aj [(0:Nat)*3<=2^24,c2*((56:Nat)+1)*2<=2^47] (leaf normal ([int i64 c1,own 28672 3 0 c2,nil,int i64 0],[(28672,au.mk true true 3 c2 fun i=>rat (p (i-0)) af)])))):=ah
theorem ahl {m k:Nat} {d x:Nat->Rat}:aI T uw [16] 60 tJ (before Ax [1,0]) ⟨aC tJ (BP m k),lR m d x k,2⟩=
  let c1:List AV×aE:=([int i64 (↑m:Int),own 0 3 0 (m+1-k),own 1 3 0 k,int i64 (↑k:Int)],[(1,au.mk true true 3 k fun i=>rat (x i) af),(0,au.mk true true 3 (m+1) fun i=>rat (d i) af)]);some (fork (decide ((↑k:Int)<=(↑m:Int))) (leaf normal c1) (leaf (exit 0) c1)):=ah
theorem Vh {m k:Nat} {d x:Nat->Rat}:aI T uw [] 60 z7 (before xO [1,0,1]) ⟨aC tJ (BP m k),lR m d x k,2⟩=
  let c4:Int:=(↑m:Int);let c3:Int:=(↑k:Int);let c2:Nat:=m+1;let c1:Nat:=Int.toNat (0:Int);some (aj [(0:Int)<=c3,c3<=c4,c4<=40,(0:Int)<=0/\c1<c2-k,c1+0<c2,(64:Nat)<2^41,af<2^41,(1:Nat)*3<=2^24,(k+1)*((56:Nat)+1)*2<=2^47] (leaf normal ([int i64 c4,own 0 3 0 (c2-k),own 36866 3 0 (k+1),int i64 c3,int i64 0],[(36866,au.mk true true 3 (k+1) fun i=>if i<k then rat (x i) af else nth [rat ((↑(↑(bn c4.toNat c3.toNat):Int):Rat)*d (c1+0)) ((64:Nat)+af)] (rat 0 1) (i-k+0)),(0,au.mk true true 3 c2 fun i=>rat (d i) af)]))):=ah
theorem YC {m k i:Nat} {d x:Nat->Rat}:aI T uw [33] 60 z7 [part xO [1,0,1,0,0]] ⟨aC z7 (IJ m k i),lR m d x (k+1),2⟩=
  let c10:Prop:=af<2^41;let c9:Int:=(↑i:Int);let c6:AV:=own 1 3 0 (k+1);let c5:Nat×au:=(1,au.mk true true 3 (k+1) fun i=>rat (x i) af);let c2:Nat:=m+1;let c8:AV:=own 0 3 0 (c2-k);let c7:Prop:=(0:Int)<=c9/\c9.toNat<c2-k;let c4:Nat:=c9.toNat+0;let c1:Int:=c9+1;let c3:Prop:=-(2:Int)^63<=c1/\c1<2^63;some (aj [c3] (fork (decide (c1<(↑(c2-k):Int))) (aj [c3,(0:Int)<=c1/\c1.toNat<c2-k,c1.toNat+0<c2,c7,c4<c2,c10,c10,c7,c4<c2] (aj [c3] (leaf normal ([int i64 (↑m:Int),c8,c6,int i64 (↑k:Int),int i64 c1],[c5,(0,au.mk true true 3 c2 fun j=>rat (bif j==c4 then d (c1.toNat+0)-d c4 else d j) (bif j==c4 then af+af+1 else af))])))) (leaf (exit 2) ([int i64 (↑m:Int),c8,c6,int i64 (↑k:Int),int i64 c9],[c5,(0,au.mk true true 3 c2 fun i=>rat (d i) af)])))):=ah
theorem aiG {m k i:Nat} {d x:Nat->Rat}:aI T uw [] 60 tJ (behind xO [1,0,1]++[part Ax [1,1]]) ⟨aC z7 (IJ m k i),lR m d x (k+1),2⟩=
  let c4:Int:=(↑(m+1-k):Int);let c3:Int:=(↑k:Int)+1;let c2:Int:=(2:Int)^63;let c1:Int:=c4-1;some (aj [-c2<=c1/\c1<c2,(0:Int)<=0/\(0:Int)<=c1/\c1<=c1/\c1<=c4] (aj [-c2<=c3/\c3<c2] (leaf normal ([int i64 (↑m:Int),own 0 3 0 (c1.toNat-Int.toNat (0:Int)),own 1 3 0 (k+1),int i64 c3],[(1,au.mk true true 3 (k+1) fun i=>rat (x i) af),(0,au.mk true true 3 (m+1) fun i=>rat (d i) af)])))):=ah
theorem aif {m k:Nat} {d x:Nat->Rat}:cQ T uw [] 60 f123 [part yY [1,1,1,1,1]] ⟨aC tJ (BP m k),lR m d x k,2⟩=
  some (leaf ret [ak 3 k fun i=>rat (x (i+0)) af]):=ah
theorem Tw {n:Nat} {p:Nat->Rat}:aI T Cc [] 60 [3] (before zS [1,1,0]) ⟨aU 0 [bz p n af],[],0⟩=
  some (aj [cP (fun i=>rat (p i) af) n af,(1:Nat)<=n,n<=41,sL n fun i=>aM (rat (p i) af)] (leaf normal ([ak 3 n fun i=>rat (fG n (fun i=>aM (rat (p i) af)) i) af],[]))):=ah
theorem WA {n:Nat} {k:Nat->Rat}:aI T Cc [9,18] 60 [3] [part zS [1,1,0,0,0]] ⟨aC [3] [bz k n af],[],0⟩=
  let c6:Int:=(↑n:Int);let c4:Int:=(2:Int)^63;let c3:ag (List AV×aE):=leaf (exit 0) ([ak 3 n fun i=>rat (k i) af],[]);let c5:Bool:=decide (c6>0);let c2:Int:=c6-1;let c1:ag (List AV×aE):=aj [-c4<=c2/\c2<c4,(0:Int)<=0/\(0:Int)<=c2/\c2<=c2/\c2<=c6] (leaf normal ([ak 3 (c2.toNat-Int.toNat (0:Int)) fun i=>rat (k (i+Int.toNat (0:Int))) af],[]));some (fork c5 (aj [c5=true,-c4<=c2/\c2<c4,(0:Int)<=c2/\c2.toNat<n,af<2^41] (fork (bif true then bL (k c2.toNat)==0 else false) c1 c3)) (aj [c5=false] (fork false c1 c3))):=ah
theorem ajw {n:Nat} {k:Nat->Rat}:cQ T Cc [] 60 f61 [part zS [1,1,1]] ⟨aC [3] [bz k n af],[],0⟩=
  some (leaf ret [ak 3 n fun i=>rat (k i) af]):=ah
theorem VE {n:Nat} {k:Nat->Rat}:aI T mA [] 60 [0] (before nv [1,0]) ⟨aU 0 [bz k n af],[],0⟩=
  some (leaf normal ([ak 3 n fun i=>rat (k i) af],[])):=ah
theorem af7 {n:Nat} {k:Nat->Rat}:aI T mA [6,15] 60 [0] [part nv [1,0,0,0]] ⟨aC [0] [bz k n af],[],0⟩=
  let c6:Int:=(↑n:Int);let c4:Int:=(2:Int)^63;let c3:ag (List AV×aE):=leaf (exit 0) ([ak 3 n fun i=>rat (k i) af],[]);let c5:Bool:=decide (c6>0);let c2:Int:=c6-1;let c1:ag (List AV×aE):=aj [-c4<=c2/\c2<c4,(0:Int)<=0/\(0:Int)<=c2/\c2<=c2/\c2<=c6] (leaf normal ([ak 3 (c2.toNat-Int.toNat (0:Int)) fun i=>rat (k (i+Int.toNat (0:Int))) af],[]));some (fork c5 (aj [c5=true,-c4<=c2/\c2<c4,(0:Int)<=c2/\c2.toNat<n,af<2^41] (fork (bif true then bL (k c2.toNat)==0 else false) c1 c3)) (aj [c5=false] (fork false c1 c3))):=ah
theorem Zr {n:Nat} {k:Nat->Rat}:cQ T mA [] 60 f151 [part nv [1,1]] ⟨aC [0] [bz k n af],[],0⟩=
  some (leaf ret [ak 3 n fun i=>rat (k i) af]):=ah
theorem xb:bR P mA:=gY gM
theorem Hw:bR P xH:=gY (aJ A8 gM)
theorem ab4 {n i:Nat} (h:i<n):((bn n i:Int):Rat)*((((n:Int)-(i:Int):Int):Rat)/(((i:Int)+1:Int):Rat))=((bn n (i+1):Int):Rat):=by
 have h1:=A4 n i
 have h2:(((i:Int)+1:Int):Rat)≠0:=by
  intro h0
  have:((i:Int)+1:Int)=0:=by exact_mod_cast h0
  omega
 have h3:((bn n (i+1):Int):Rat)*(((i:Int)+1:Int):Rat)=((bn n i:Int):Rat)*(((n:Int)-(i:Int):Int):Rat):=by
  rw[<-Rat.intCast_mul,<-Rat.intCast_mul]
  congr 1
  have:((bn n (i+1)*(i+1):Nat):Int)=((bn n i*(n-i):Nat):Int):=by rw[Nat.mul_comm,h1,Nat.mul_comm]
  rw[Int.natCast_mul,Int.natCast_mul,Int.natCast_sub aa]at this
  exact this
 rw[Rat.div_def,<-Rat.mul_assoc,<-h3,Rat.mul_assoc,Rat.mul_inv_cancel _ h2,Rat.mul_one]
theorem agF {n k:Nat} (hk0:k<=n) (hn:n<=40) (K:Nat):aQ P 91 K [.int .i64 n,.int .i64 k] [] (aL (.rat ((bn n k:Int):Rat) 64) []):=by
 refine jc (r:=aL (.rat ((bn n k:Int):Rat) 64) []) hT Hw hm aee rfl aX rfl [1,1,0,1] (i:=0) (y:=part yx [1,1,0,1,0,0]) (z:=part yx [1,1,1]) ah ah ah (f1:=[]) (f2:=[10]) (f3:=[]) 60 wZ 2
  (fun i:Nat=>G7 n k i) (fun i=>Gs ((bn n i:Int):Rat)) (fun i=>i<=k) (fun i=>i=k) (fun i=>k-i) (fun _=>⟨⟨_,ahC,?_⟩,fun i hi=>⟨_,ajX,?_⟩,fun i hi=>⟨_,Tv,?_⟩⟩) K []
 ·simp only[ag.all,az]
  exact⟨⟨aa,aa,aa⟩,0,Nat.zero_le _,[(0,0),(1,8192)],rfl,rfl,rfl,kg rfl rfl (.inr ⟨rfl,dy (by rw[qx];rfl) (by decide)⟩) (cG trivial)⟩
 ·have h1:=DO (n:=n) (k:=i+1) hn
  simp only[ag.all,az,bB,bD]
  refine⟨fun h=>⟨⟨aa,aa,aa,aa,aa,aa,aa,aa,aa,aa⟩,aa,i+1,aa,by dsimp only;omega,[(0,0),(1,1)],rfl,by rw[show(i:Int)+1=((i+1:Nat):Int) by omega];rfl,rfl,kg rfl rfl (.inr ⟨rfl,ej (ab4 aa) (AK (y:=0) aa aa)⟩) (cG trivial)⟩,fun h=>⟨rfl,i,aa,[(0,0),(1,1)],rfl,rfl,rfl,cG (cG trivial)⟩⟩
 ·subst hi
  simp only[ag.all,az]
  exact⟨⟨aa,aa⟩,aa,.refl _⟩
theorem F4:aY P A7 91:=by
 refine cW fun K args r hk hs _=>?_
 split at hs
 ·rename_i n k
  simp only[ay]at hs
  subst hs
  intro hn
  have h1:0<=k:=hn.1
  have h2:k<=n:=hn.2.1
  have h3:n<=40:=hn.2.2
  have:=agF (n:=n.toNat) (k:=k.toNat) aa aa K
  rw[Int.toNat_of_nonneg h1,Int.toNat_of_nonneg aa]at this
  exact this trivial
 ·simp at hs
theorem Ku:bR P uw:=gY (aJ F4 gM)
theorem acI {m:Nat} {p:Nat->Rat} (hm1:m<=40) (hz:sL (m+1) p) (K:Nat):aQ P 123 K [bz p (m+1) af] [] (aL (bz (fG (m+1) p) (m+1) af) []):=by
 refine iw (r:=aL (bz (fG (m+1) p) (m+1) af) []) hT On rfl aX rfl (fun _ cx h0=>?_) K []
 have hk:=lX h0
 have hW:=cF
 have hd:∀k i,k+i<=m->Sz (fT p k i) af:=fun k i h=>hz.1 k i aa
 refine ax.qH hT Ku hm (x:=yY) [1,1,1,1,0,1] (i:=0) (y:=Ax) (z:=part yY [1,1,1,1,1]) ah ah ah On.dst [1,0] (j:=1) (x1:=xO) (zb:=part Ax [1,1]) ah ah ah [1,0,1] (i2:=2) (y2:=part xO [1,0,1,0,0]) ah ah rfl hk
  (f1:=[]) (f2:=[16]) (f3:=[]) (f4:=[33]) (f5:=[]) 60 tJ z7 2 2 (fun k:Nat=>BP m k) (fun k=>lR m (kW m p k) (fG (m+1) p) k) (fun k=>k<=m+1) (fun k=>k=m+1) (fun k=>m+1-k) (fun k=>k<m+1) (fun _=>False) (fun _=>False)
  (fun k (i:Nat)=>IJ m k i) (fun k i=>lR m (iZ m p k i) (fG (m+1) p) (k+1)) (fun k i=>i<=m-k) (fun k i=>i=m-k) (fun k i=>m-k-i)
  ⟨_,ZY,?_⟩ (fun k hk=>⟨_,ahl,?_⟩) (fun k hk hG=>⟨_,Vh,?_⟩) (fun k hk hG i hi=>⟨_,YC,?_⟩) (fun k hk hG i hi=>⟨_,aiG,?_⟩) (fun k hk=>?_) (fun _ _ h=>h.elim) (fun _ _ h=>h.elim)
 ·simp only[ag.all,az]
  refine⟨aa,aa,0,aa,[(0,28672)],rfl,?_,rfl,kZ rfl aa aa (br rfl rfl aa (fun i hi=>bN rfl ?_) trivial)⟩
  ·rw[show((m+1:Nat):Int)-1=(m:Nat) by omega,show 0+(m+1)=m+1-0 by omega];rfl
  ·show AV.rat (p i) af=AV.rat (kW m p 0 i) af
   unfold kW;rw[Nat.zero_min];rfl
 ·simp only[ag.all,az,bB,bD]
  exact⟨fun h=>⟨aa,[(0,0),(1,1)],rfl,rfl,rfl,br rfl rfl rfl (fun i hi=>bN rfl rfl) (br rfl rfl rfl (fun i hi=>bN rfl rfl) trivial)⟩,fun h=>⟨rfl,k,aa,[(0,0),(1,1)],rfl,rfl,rfl,br rfl rfl rfl (fun i hi=>bN rfl rfl) (br rfl rfl rfl (fun i hi=>bN rfl rfl) trivial)⟩⟩
 ·simp only[ag.all,az,bJ]
  have e0:(0:Int).toNat=0:=rfl
  refine⟨aa,0,aa,[(0,0),(1,36866)],rfl,rfl,rfl,br rfl rfl rfl (fun i hi=>?_) (br rfl rfl rfl (fun i hi=>bN rfl ?_) trivial)⟩
  ·refine .inr ⟨?_,?_⟩
   ·split
    ·rfl
    ·rw[show i-k+0=0 by omega];rfl
   ·split
    ·exact .refl _
    ·rw[show i-k+0=0 by omega,show i=k by omega]
     exact ej (by rw[CZ aa];rfl) (hz.2 k hG)
  ·show AV.rat (kW m p k i) af=AV.rat (iZ m p k 0 i) af
   unfold iZ;rw[if_neg (Nat.not_lt_zero i)]
 ·simp only[ag.all,az,bB,bD,bJ,Nat.add_zero]
  have e1:((i:Int)+1).toNat=i+1:=aa
  rw[e1]
  refine⟨aa,fun h=>⟨aa,aa,i+1,aa,by dsimp only;omega,[(0,0),(1,1)],rfl,rfl,rfl,br rfl rfl rfl (fun j hj=>bN rfl rfl) (br rfl rfl rfl (fun j hj=>?_) trivial)⟩,fun h=>⟨rfl,i,aa,[(0,0),(1,1)],rfl,rfl,rfl,br rfl rfl rfl (fun j hj=>bN rfl rfl) (br rfl rfl rfl (fun j hj=>bN rfl rfl) trivial)⟩⟩
  have h3:=fun j=>Pr (m:=m) (k:=k) (i:=i) (j:=j) (p:=p) aa
  exact nh (x:=iZ m p k i) (y:=iZ m p k (i+1)) (ej ((if_pos rfl).symm.trans (h3 i)) (by unfold iZ;rw[if_pos (Nat.lt_succ_self i)];exact hd _ _ aa)) fun hj=>dy ((if_neg hj).symm.trans (h3 j)) aT
 ·subst hi
  simp only[ag.all,az]
  refine⟨aa,aa,k+1,aa,by dsimp only;omega,[(0,0),(1,1)],rfl,?_,rfl,br rfl rfl rfl (fun j hj=>bN rfl rfl) (br rfl rfl rfl (fun j hj=>bN rfl ?_) trivial)⟩
  ·rw[show(((m+1-k:Nat):Int)-1).toNat-(0:Int).toNat=m+1-(k+1) by omega];rfl
  ·show AV.rat (iZ m p k (m-k) j) af=AV.rat (kW m p (k+1) j) af
   rw[Kh]
 ·subst hk
  exact ax.lH ((aG.fin hT Ku hm 60 aif ah (iH fun _ _=>.refl _)).mono fun _ _ h=>.inl h)
theorem Vc:aY P A2 123:=cO fun⟨⟨n,p⟩,_⟩ K hn=>by
 obtain⟨h1,h2,h3⟩:=hn
 simp only at h1 h2 h3
 obtain⟨m,rfl⟩:∃m,n=m+1:=⟨n-1,aa⟩
 exact acI aa h3 K
theorem Yn:bR P Cc:=gY (aJ Vc gM)
theorem Ur {n:Nat} {k:Nat->Rat} (hn:n<2^40) (K:Nat):aQ P 151 K [bz k n af] [] (aL (bz k (bK k n) af) []):=by
 have hW:=cF
 refine jc (r:=aL (bz k (bK k n) af) []) hT xb hm EX rfl aX rfl [1,0] (i:=0) (y:=part nv [1,0,0,0]) (z:=part nv [1,1]) ah ah ah (f1:=[]) (f2:=[6,15]) (f3:=[]) 60 [0] 0
  (fun j:Nat=>[bz k j af]) (fun _=>[]) (fun j=>j<=n/\bK k j=bK k n) (fun j=>j=bK k n) (fun j=>j) (fun _=>⟨⟨_,VE,?_⟩,fun j hj=>⟨_,af7,?_⟩,fun j hj=>⟨_,Zr,?_⟩⟩) K []
 ·simp only[ag.all,az]
  exact⟨n,⟨aT,rfl⟩,dS.vals rfl⟩
 ·obtain⟨h1,h2⟩:=hj
  simp only[ag.all,az,cond_true,od,bB,bD]
  refine⟨fun h=>⟨⟨aa,aa,aa,aa⟩,fun h3=>⟨aa,j-1,⟨aa,?_⟩,by dsimp only;omega,?_⟩,fun h3=>⟨rfl,j,?_,dS.vals rfl⟩⟩,fun h=>⟨aa,fun h3=>absurd h3 (by decide),fun _=>⟨rfl,j,?_,dS.vals rfl⟩⟩⟩
  ·rw[<-h2]
   obtain⟨m,rfl⟩:∃m,j=m+1:=⟨j-1,aa⟩
   rw[show(((m+1:Nat):Int)-1).toNat=m by omega]at h3
   show bK k m=_
   rw[bK,if_pos h3]
  ·rw[show((j:Int)-1).toNat-(0:Int).toNat=j-1 by omega]
   exact dS.vals rfl
  ·rw[<-h2]
   obtain⟨m,rfl⟩:∃m,j=m+1:=⟨j-1,aa⟩
   rw[show(((m+1:Nat):Int)-1).toNat=m by omega]at h3
   exact(pS (.inr h3)).symm
  ·rw[<-h2,show j=0 by omega];rfl
 ·rw[hj];exact .refl _
theorem MF:aY P wv 151:=cO fun⟨⟨n,k⟩,_⟩ K hn=>Ur hn K
theorem UA {p:PP} (hp:kD p) (K:Nat):aQ P 61 K [aA p] [] (aL (aA (aF p)) []):=by
 have hW:=cF
 obtain⟨n,hn⟩:∃n,n=p.1:=⟨_,rfl⟩
 obtain⟨k,hk⟩:∃k,k=fG p.1 p.2:=⟨_,rfl⟩
 have e0:aF p=(bK k n,k):=by rw[hk,hn];rfl
 have h2:=hp.2.1
 rw[e0]
 refine jc (r:=aL (aA (bK k n,k)) []) hT Yn hm abl rfl aX rfl [1,1,0] (i:=0) (y:=part zS [1,1,0,0,0]) (z:=part zS [1,1,1]) ah ah ah (f1:=[]) (f2:=[9,18]) (f3:=[]) 60 [3] 0
  (fun j:Nat=>[bz k j af]) (fun _=>[]) (fun j=>j<=n/\bK k j=bK k n) (fun j=>j=bK k n) (fun j=>j) (fun _=>⟨⟨_,Tw,?_⟩,fun j hj=>⟨_,WA,?_⟩,fun j hj=>⟨_,ajw,?_⟩⟩) K []
 ·simp only[ag.all,az]
  exact⟨⟨ek aT,hp.1,hp.2.1,hp.2.2⟩,n,⟨aT,rfl⟩,by rw[hk,hn];exact dS.vals rfl⟩
 ·obtain⟨h1,h2⟩:=hj
  simp only[ag.all,az,cond_true,od,bB,bD]
  refine⟨fun h=>⟨⟨aa,aa,aa,aa⟩,fun h3=>⟨aa,j-1,⟨aa,?_⟩,by dsimp only;omega,?_⟩,fun h3=>⟨rfl,j,?_,dS.vals rfl⟩⟩,fun h=>⟨aa,fun h3=>absurd h3 (by decide),fun _=>⟨rfl,j,?_,dS.vals rfl⟩⟩⟩
  ·rw[<-h2]
   obtain⟨m,rfl⟩:∃m,j=m+1:=⟨j-1,aa⟩
   rw[show(((m+1:Nat):Int)-1).toNat=m by omega]at h3
   show bK k m=_
   rw[bK,if_pos h3]
  ·rw[show((j:Int)-1).toNat-(0:Int).toNat=j-1 by omega]
   exact dS.vals rfl
  ·rw[<-h2]
   obtain⟨m,rfl⟩:∃m,j=m+1:=⟨j-1,aa⟩
   rw[show(((m+1:Nat):Int)-1).toNat=m by omega]at h3
   exact(pS (.inr h3)).symm
  ·rw[<-h2,show j=0 by omega];rfl
 ·rw[hj];exact .refl _
theorem OV:aY P uu 61:=cO fun⟨a,_⟩ K hn=>UA hn K
def um:bk:=zG::(91,A7)::(93,ju kR kR zn pq)::gN
abbrev Al:Code:=aH f96
abbrev zK:Code:=part Al [1,1,1,1,0,1,0,0]
abbrev zU:Code:=part zK [1,0,0]
abbrev uo:List Nat:=[0,4,5,6]
abbrev Cq (m:Nat) (c:Nat->Rat) (i:Nat):List AV:=[bz c (m+1) af,.int .i64 m,.own 0 3 0 i,.int .i64 i]
abbrev x7:List Nat:=[0,4,5,6,7,8]
abbrev Gw (m:Nat) (c:Nat->Rat) (i k:Nat):List AV:=[bz c (m+1) af,.int .i64 m,.own 0 3 0 i,.int .i64 i,.ptr 1 0 3 0 [],.int .i64 k]
def L6:Spec:=dD (kC (kL af) kN) (fun a=>.tuple [bz (ga a.1.1 a.1.2) a.1.1 af,.int .i64 0]) fun a=>[1<=a.1.1,a.1.1<=41,jR a.1.1 a.1.2]
theorem Pn:bf 96 f96:=bg func96
theorem aiq {m:Nat} {c:Nat->Rat}:aI T um [200014,200017] 60 uo (before Al [1,1,1,1,0,1]) ⟨aU 0 [bz c (m+1) af],[],0⟩=
  let c1:Int:=(↑(m+1):Int)-1;some (aj [-(2:Int)^63<=c1/\c1<2^63] (aj [decide (c1<0)=false] (aj [(bif false then true else decide (c1>40))=false] (leaf normal ([ak 3 (m+1) fun i=>rat (c i) af,int i64 c1,nil,int i64 0],[]))))):=ah
theorem aaB {m i:Nat} {c x:Nat->Rat}:aI T um [20] 60 uo (before zK [1,0]) ⟨aC uo (Cq m c i),[(0,cC i x af)],1⟩=
  let c1:List AV×aE:=([ak 3 (m+1) fun i=>rat (c i) af,int i64 (↑m:Int),own 0 3 0 i,int i64 (↑i:Int)],[(0,au.mk true true 3 i fun i=>rat (x i) af)]);some (fork (decide ((↑i:Int)<=(↑m:Int))) (leaf normal c1) (leaf (exit 0) c1)):=ah
theorem ahF {m i:Nat} {c x:Nat->Rat}:aI T um [] 60 x7 (before zU [1,0,1]) ⟨aC uo (Cq m c i),[(0,cC i x af)],1⟩=
  some (leaf normal ([ak 3 (m+1) fun i=>rat (c i) af,int i64 (↑m:Int),own 0 3 0 i,int i64 (↑i:Int),ptr 1 0 3 0 [],int i64 0],[((1:Nat),gA fun x=>rat 0 1),(0,au.mk true true 3 i fun i=>rat (x i) af)])):=ah
theorem SF {m i k:Nat} {c x:Nat->Rat} {q:Rat}:aI T um [25] 60 x7 [part zU [1,0,1,0,0]] ⟨aC x7 (Gw m c i k),[(1,tR q af),(0,cC i x af)],2⟩=
  let c9:Int:=(↑m:Int);let c8:AV:=own 0 3 0 i;let c7:Nat:=64+64;let c6:Int:=(↑i:Int);let c5:AV:=ptr 1 0 3 0 [];let c4:AV:=ak 3 (m+1) fun i=>rat (c i) af;let c3:Nat×au:=(0,au.mk true true 3 i fun i=>rat (x i) af);let c2:Nat:=2^41;let c1:Int:=(↑k:Int);let c11:Prop:=(0:Int)<=c1;let c10:Int:=c1+1;some (fork (decide (c1<=c6)) (aj [(0:Nat)<1,c11,c1<=c6,c6<=40,c11,c1<=c9,c9<=40,(64:Nat)<c2,(64:Nat)<c2,c11/\c1.toNat<m+1,c7<c2,af<c2,af<c2,c7+af<c2,(0:Nat)<1] (aj [-(2:Int)^63<=c10/\c10<2^63] (leaf normal ([c4,int i64 c9,c8,int i64 c6,c5,int i64 c10],[((1:Nat),gA fun j=>if(j==0)=true then de (xI (q,af) ((↑(↑(bn c6.toNat c1.toNat):Int):Rat)/(↑(↑(bn c9.toNat c1.toNat):Int):Rat)*c c1.toNat,c7+af))else rat q af),c3])))) (leaf (exit 2) ([c4,int i64 c9,c8,int i64 c6,c5,int i64 c1],[((1:Nat),gA fun x=>rat q af),c3]))):=ah
theorem ags {m i k:Nat} {c x:Nat->Rat} {q:Rat}:aI T um [] 60 uo (behind zU [1,0,1]++[part zK [1,1]]) ⟨aC x7 (Gw m c i k),[(1,tR q af),(0,cC i x af)],2⟩=
  let c1:Int:=(↑i:Int)+1;some (aj [(0:Nat)<1,(1:Nat)*3<=2^24,(i+1)*((56:Nat)+1)*2<=2^47] (aj [-(2:Int)^63<=c1/\c1<2^63] (leaf normal ([ak 3 (m+1) fun i=>rat (c i) af,int i64 (↑m:Int),own 12290 3 0 (i+1),int i64 c1],[(12290,au.mk true true 3 (i+1) fun i_1=>if i_1<i then rat (x i_1) af else nth [rat q af] (rat 0 1) (i_1-i+0))])))):=ah
theorem Yv {m i:Nat} {c x:Nat->Rat}:cQ T um [] 60 f96 [part Al [1,1,1,1,1]] ⟨aC uo (Cq m c i),[(0,cC i x af)],1⟩=
  some (leaf ret [ak 3 i fun i=>rat (x (i+0)) af,int i64 0]):=ah
theorem Oq:bR P um:=gY (aJ F4 (aJ (jG fun _ _ K hn=>CX hn.1 hn.2 K) gM))
theorem aao {m:Nat} {c:Nat->Rat} (hm1:m<=40) (hz:jR (m+1) c) (K:Nat):aQ P 96 K [bz c (m+1) af] [] (aL (.tuple [bz (ga (m+1) c) (m+1) af,.int .i64 0]) []):=by
 refine iw (r:=aL (.tuple [bz (ga (m+1) c) (m+1) af,.int .i64 0]) []) hT Pn rfl aX rfl (fun _ cx h0=>?_) K []
 have hk:=lX h0
 have hW:=cF
 refine ax.qH hT Oq hm (x:=Al) [1,1,1,1,0,1] (i:=0) (y:=zK) (z:=part Al [1,1,1,1,1]) ah ah ah Pn.dst [1,0] (j:=1) (x1:=zU) (zb:=part zK [1,1]) ah ah ah [1,0,1] (i2:=2) (y2:=part zU [1,0,1,0,0]) ah ah rfl hk
  (f1:=[200014,200017]) (f2:=[20]) (f3:=[]) (f4:=[25]) (f5:=[]) 60 uo x7 1 2 (fun i:Nat=>Cq m c i) (fun i=>[(0,cC i (ga (m+1) c) af)]) (fun i=>i<=m+1) (fun i=>i=m+1) (fun i=>m+1-i) (fun i=>i<m+1) (fun _=>False) (fun _=>False)
  (fun i (k:Nat)=>Gw m c i k) (fun i k=>[(1,tR (kJ (m+1) c i k) af),(0,cC i (ga (m+1) c) af)]) (fun i k=>k<=i+1) (fun i k=>k=i+1) (fun i k=>i+1-k)
  ⟨_,aiq,?_⟩ (fun i hi=>⟨_,aaB,?_⟩) (fun i hi hG=>⟨_,ahF,?_⟩) (fun i hi hG k hk=>⟨_,SF,?_⟩) (fun i hi hG k hk=>⟨_,ags,?_⟩) (fun i hi=>?_) (fun _ _ h=>h.elim) (fun _ _ h=>h.elim)
 ·simp only[ag.all,az,cond_false,bD]
  exact⟨aa,aa,aa,0,aa,[],rfl,by rw[show((m+1:Nat):Int)-1=(m:Nat) by omega];rfl,rfl,kZ rfl aa aa trivial⟩
 ·simp only[ag.all,az,bB,bD]
  exact⟨fun h=>⟨aa,[(0,0)],rfl,rfl,rfl,br rfl rfl rfl (fun i hi=>bN rfl rfl) trivial⟩,fun h=>⟨rfl,i,aa,[(0,0)],rfl,rfl,rfl,br rfl rfl rfl (fun i hi=>bN rfl rfl) trivial⟩⟩
 ·simp only[ag.all,az]
  exact⟨0,aa,[(0,0),(1,1)],rfl,rfl,rfl,kg rfl rfl (.inr ⟨rfl,dy rfl aa⟩) (br rfl rfl rfl (fun i hi=>bN rfl rfl) trivial)⟩
 ·simp only[ag.all,az,bB,bD,bJ]
  exact⟨fun h=>⟨aa,aa,k+1,aa,by dsimp only;omega,[(0,0),(1,1)],rfl,rfl,rfl,kg rfl rfl (.inr ⟨rfl,ej rfl (hz i (k+1) hG aa)⟩) (br rfl rfl rfl (fun i hi=>bN rfl rfl) trivial)⟩,fun h=>⟨rfl,k,aa,[(0,0),(1,1)],rfl,rfl,rfl,cG (br rfl rfl rfl (fun i hi=>bN rfl rfl) trivial)⟩⟩
 ·subst hk
  simp only[ag.all,az]
  refine⟨aa,aa,i+1,aa,by dsimp only;omega,[(0,12290)],rfl,rfl,rfl,br rfl rfl rfl (fun j hj=>?_) trivial⟩
  by_cases h:j<i
  ·rw[if_pos h];exact bN rfl rfl
  ·rw[if_neg h,show j-i+0=0 by omega,show j=i by omega];exact bN rfl rfl
 ·subst hi
  refine ax.lH ((aG.fin hT Oq hm 60 Yv ah ?_).mono fun _ _ h=>.inl h)
  exact⟨.refl _,.refl _,trivial⟩
theorem aeI:aY P L6 96:=cO fun⟨⟨n,p⟩,_⟩ K hn=>by
 obtain⟨h1,h2,h3⟩:=hn
 simp only at h1 h2 h3
 obtain⟨m,rfl⟩:∃m,n=m+1:=⟨n-1,aa⟩
 exact aao aa h3 K
def sA:bk:=zG::(151,wv)::(93,ju kR kR zn pq)::gN
abbrev AF:Code:=aH f152
abbrev Aa:List Nat:=[0,3,4]
abbrev Iv (n:Nat) (c:Nat->Rat) (i:Nat):List AV:=[bz c n af,.own 0 3 0 i,.int .i64 i]
abbrev xM:Code:=aH f125
theorem Vg:bf 152 f152:=bg func152
theorem aff:bf 125 f125:=bg func125
theorem aeJ {n:Nat} {c:Nat->Rat}:aI T sA [] 60 Aa (before AF [1,1,1,0,1]) ⟨aU 0 [bz c n af],[],0⟩=
  some (aj [cP (fun i=>rat (c i) af) n af,n<2^40] (leaf normal ([ak 3 (bK (fun i=>aM (rat (c i) af)) n) fun i=>rat (aM (rat (c i) af)) af,nil,int i64 0],[]))):=ah
theorem SG {n i:Nat} {c x:Nat->Rat}:aI T sA [10] 60 Aa [part AF [1,1,1,0,1,0,0]] ⟨aC Aa (Iv n c i),[(0,cC i x af)],1⟩=
  let c5:Prop:=af<2^41;let c4:AV:=ak 3 n fun i=>rat (c i) af;let c3:Int:=(↑i:Int);let c2:Int:=(2:Int)^63;let c1:Int:=(↑n:Int)-1;let c6:Int:=c3+1;some (fork (decide (c3<(↑n:Int))) (aj [(0:Int)<=c3/\c3.toNat<n,-c2<=c1/\c1<c2,(0:Int)<=c1/\c1.toNat<n,c5,c5,(1:Nat)*3<=2^24,(i+1)*((56:Nat)+1)*2<=2^47] (aj [-c2<=c6/\c6<c2] (leaf normal ([c4,own 69633 3 0 (i+1),int i64 c6],[(69633,au.mk true true 3 (i+1) fun i_1=>if i_1<i then rat (x i_1) af else nth [rat (c c3.toNat/c c1.toNat) (af+af)] (rat 0 1) (i_1-i+0))])))) (leaf (exit 0) ([c4,own 0 3 0 i,int i64 c3],[(0,au.mk true true 3 i fun i=>rat (x i) af)]))):=ah
theorem Sc {n i:Nat} {c x:Nat->Rat}:cQ T sA [] 60 f152 [part AF [1,1,1,1]] ⟨aC Aa (Iv n c i),[(0,cC i x af)],1⟩=
  some (leaf ret [ak 3 i fun i=>rat (x (i+0)) af]):=ah
theorem ajN {n:Nat} {c:Nat->Rat}:aI T sA [] 60 oo (before xM [1,1,0,1]) ⟨aU 0 [bz c n af],[],0⟩=
  some (leaf normal ([ak 3 n fun i=>rat (c i) af,nil,int i64 1],[])):=ah
theorem WN {n i:Nat} {c x:Nat->Rat}:aI T sA [8] 60 oo [part xM [1,1,0,1,0,0]] ⟨aC oo (uG n c i),[(0,cC i x af)],1⟩=
  let c5:Nat:=i+1;let c3:AV:=ak 3 n fun i=>rat (c i) af;let c2:Int:=(2:Int)^63;let c1:Int:=(↑c5:Int);let c6:Int:=c1+1;let c4:Nat:=Max.max 1 (bV c1.natAbs);some (fork (decide (c1<(↑n:Int))) (aj [-c2<=c1,c1<c2,(0:Int)<=c1/\c1.toNat<n,c4<2^41,af<2^41,(1:Nat)*3<=2^24,c5*((56:Nat)+1)*2<=2^47] (aj [-c2<=c6/\c6<c2] (leaf normal ([c3,own 53249 3 0 c5,int i64 c6],[(53249,au.mk true true 3 c5 fun i_1=>if i_1<i then rat (x i_1) af else nth [rat ((↑c1:Rat)*c c1.toNat) (c4+af)] (rat 0 1) (i_1-i+0))])))) (leaf (exit 0) ([c3,own 0 3 0 i,int i64 c1],[(0,au.mk true true 3 i fun i=>rat (x i) af)]))):=ah
theorem ahs {n i:Nat} {c x:Nat->Rat}:cQ T sA [] 60 f125 [part xM [1,1,1]] ⟨aC oo (uG n c i),[(0,cC i x af)],1⟩=
  some (aj [cP (fun i=>rat (x (i+0)) af) i af,i<2^40] (leaf ret [ak 3 (bK (fun i=>aM (rat (x (i+0)) af)) i) fun i=>rat (aM (rat (x (i+0)) af)) af])):=ah
theorem acN {n m:Nat} {x:Nat->Rat}:aI T mA [] 60 [0] (before nv [1,0]) ⟨aU 0 [.own 0 3 0 n],[(0,cC m x af)],1⟩=
  some (leaf normal ([own 0 3 0 n],[(0,au.mk true true 3 m fun i=>rat (x i) af)])):=ah
theorem Uz {n m:Nat} {x:Nat->Rat}:aI T mA [6,15] 60 [0] [part nv [1,0,0,0]] ⟨aC [0] [.own 0 3 0 n],[(0,cC m x af)],1⟩=
  let c7:Int:=(↑n:Int);let c4:Int:=(2:Int)^63;let c3:Nat×au:=(0,au.mk true true 3 m fun i=>rat (x i) af);let c6:ag (List AV×aE):=leaf (exit 0) ([own 0 3 0 n],[c3]);let c5:Bool:=decide (c7>0);let c2:Int:=c7-1;let c1:ag (List AV×aE):=aj [-c4<=c2/\c2<c4,(0:Int)<=0/\(0:Int)<=c2/\c2<=c2/\c2<=c7] (leaf normal ([own 0 3 0 (c2.toNat-Int.toNat (0:Int))],[c3]));some (fork c5 (aj [c5=true,-c4<=c2/\c2<c4,(0:Int)<=c2/\c2.toNat<n,c2.toNat+0<m,af<2^41] (fork (bif true then bL (x (c2.toNat+0))==0 else false) c1 c6)) (aj [c5=false] (fork false c1 c6))):=ah
theorem aas {n m:Nat} {x:Nat->Rat}:aI T mA [] 60 [2] [part nv [1,1]] ⟨aC [0] [.own 0 3 0 n],[(0,cC m x af)],1⟩=
  some (leaf ret ([own 0 3 0 n],[(0,au.mk true true 3 m fun i=>rat (x i) af)])):=ah
theorem QC:bR P sA:=gY (aJ MF (aJ (jG fun _ _ K hn=>CX hn.1 hn.2 K) gM))
theorem Zq {a:PP} (hn:a.1<2^40) (ta:Trim a) (hz:cN a.1 (cL a.1 a.2)) (K:Nat):aQ P 152 K [aA a] [] (aL (aA (dI a)) []):=by
 have hW:=cF
 have e0:bK a.2 a.1=a.1:=pS ta
 refine jc (r:=aL (aA (dI a)) []) hT QC hm Vg rfl aX rfl [1,1,1,0,1] (i:=0) (y:=part AF [1,1,1,0,1,0,0]) (z:=part AF [1,1,1,1]) ah ah ah (f1:=[]) (f2:=[10]) (f3:=[]) 60 Aa 1
  (fun i:Nat=>Iv a.1 a.2 i) (fun i=>[(0,cC i (cL a.1 a.2) af)]) (fun i=>i<=a.1) (fun i=>i=a.1) (fun i=>a.1-i) (fun _=>⟨⟨_,aeJ,?_⟩,fun i hi=>⟨_,SG,?_⟩,fun i hi=>⟨_,Sc,?_⟩⟩) K []
 ·simp only[ag.all,az]
  exact⟨⟨ek aT,hn⟩,0,Nat.zero_le _,[],rfl,by have e1:bK (fun i=>aM (.rat (a.2 i) af)) a.1=a.1:=e0;rw[e1];rfl,rfl,kZ rfl aa aa trivial⟩
 ·simp only[ag.all,az,bB,bD,bJ]
  refine⟨fun h=>⟨aa,aa,i+1,aa,by dsimp only;omega,[(0,69633)],rfl,?_,rfl,br rfl rfl rfl (fun j hj=>?_) trivial⟩,fun h=>⟨rfl,i,aa,[(0,0)],rfl,rfl,rfl,br rfl rfl rfl (fun j hj=>bN rfl rfl) trivial⟩⟩
  ·rw[show(i:Int)+1=((i+1:Nat):Int) by omega];rfl
  ·by_cases h2:j<i
   ·rw[if_pos h2];exact bN rfl rfl
   ·rw[if_neg h2,show j-i+0=0 by omega,show j=i by omega,show((a.1:Int)-1).toNat=a.1-1 by omega]
    exact .inr ⟨rfl,ej rfl (hz i aa)⟩
 ·subst hi;exact .refl _
def FE:Spec:=dD (kC (kL af) kN) (fun a=>aA (dI a.1)) fun a=>[a.1.1<2^40,Trim a.1,cN a.1.1 (cL a.1.1 a.1.2)]
theorem Nv:aY P FE 152:=cO fun⟨a,_⟩ K hn=>Zq hn.1 hn.2.1 hn.2.2 K
theorem YT {n:Nat} {c:Nat->Rat} (hn:n<2^40) (hz:cN (n-1) (cR c)) (K:Nat):aQ P 125 K [bz c n af] [] (aL (bz (cR c) (bK (cR c) (n-1)) af) []):=by
 have hW:=cF
 refine jc (r:=aL (bz (cR c) (bK (cR c) (n-1)) af) []) hT QC hm aff rfl aX rfl [1,1,0,1] (i:=0) (y:=part xM [1,1,0,1,0,0]) (z:=part xM [1,1,1]) ah ah ah (f1:=[]) (f2:=[8]) (f3:=[]) 60 oo 1
  (fun i:Nat=>uG n c i) (fun i=>[(0,cC i (cR c) af)]) (fun i=>i<=n-1) (fun i=>i=n-1) (fun i=>n-1-i) (fun _=>⟨⟨_,ajN,?_⟩,fun i hi=>⟨_,WN,?_⟩,fun i hi=>⟨_,ahs,?_⟩⟩) K []
 ·simp only[ag.all,az]
  exact⟨0,aa,[],rfl,rfl,rfl,kZ rfl aa aa trivial⟩
 ·have hb:(max 1 (bV ((i+1:Nat):Int).natAbs))<=64:=by
   rw[Int.natAbs_natCast]
   have:=jZ (x:=i+1) (k:=64)|>.2 aa
   omega
  simp only[ag.all,az,bB,bD,bJ]
  refine⟨fun h2=>⟨aa,aa,i+1,aa,by dsimp only;omega,[(0,53249)],rfl,?_,rfl,br rfl rfl rfl (fun j hj=>?_) trivial⟩,fun h2=>⟨rfl,i,aa,[(0,0)],rfl,rfl,rfl,br rfl rfl rfl (fun j hj=>bN rfl rfl) trivial⟩⟩
  ·rw[show((i+1:Nat):Int)+1=((i+1+1:Nat):Int) by omega];rfl
  ·refine .inr ⟨?_,?_⟩
   ·split
    ·rfl
    ·rw[show j-i+0=0 by omega];rfl
   ·split
    ·exact .refl _
    ·rw[show j-i+0=0 by omega,show j=i by omega]
     exact ej rfl (hz i aa)
 ·subst hi
  simp only[ag.all,az]
  exact⟨⟨ek aT,aa⟩,.refl _⟩
theorem Gj:aY P rR 125:=cO fun⟨⟨n,c⟩,_⟩ K hn=>YT hn.1 hn.2 K
theorem afl {kk n m:Nat} {x:Nat->Rat} (hn:n<2^40) (hnm:n<=m) (c:Ctx) (hk:Kept [0] c):ax P c f151.ntmps nv ⟨aU 0 [.own 0 3 0 n],[(0,cC m x af)],1⟩ (HG f151 kk [.own kk 3 0 (bK x n)] (cC m x af)):=by
 have hW:=cF
 have re:∀j,dS [0] ([.own 0 3 0 j],[((0:Nat),cC m x af)]) [.own 0 3 0 j] [(0,cC m x af)] 1:=fun j=>⟨[(0,0)],rfl,rfl,rfl,nJ trivial⟩
 refine ax.oD hT xb hm [1,0] (i:=0) (y:=part nv [1,0,0,0]) (z:=part nv [1,1]) ah ah ah EX.dst hk (f1:=[]) (f2:=[6,15]) 60 [0] 1
  (fun j:Nat=>[.own 0 3 0 j]) (fun _=>[(0,cC m x af)]) (fun j=>j<=n/\bK x j=bK x n) (fun j=>j=bK x n) (fun j=>j) (fun _=>False) ⟨_,acN,?_⟩ (fun j hj=>⟨_,Uz,?_⟩) (fun j hj=>?_) (fun _ _ h=>h.elim)
 ·simp only[ag.all,az]
  exact⟨n,⟨aT,rfl⟩,re n⟩
 ·obtain⟨h1,h2⟩:=hj
  simp only[ag.all,az,cond_true,od,bB,bD,Nat.add_zero]
  refine⟨fun h=>⟨⟨aa,aa,aa,aa,aa⟩,fun h3=>⟨aa,j-1,⟨aa,?_⟩,by dsimp only;omega,?_⟩,fun h3=>⟨rfl,j,?_,re j⟩⟩,fun h=>⟨aa,fun h3=>absurd h3 (by decide),fun _=>⟨rfl,j,?_,re j⟩⟩⟩
  ·rw[<-h2]
   obtain⟨m,rfl⟩:∃m,j=m+1:=⟨j-1,aa⟩
   rw[show(((m+1:Nat):Int)-1).toNat=m by omega]at h3
   show bK x m=_
   rw[bK,if_pos h3]
  ·rw[show((j:Int)-1).toNat-(0:Int).toNat=j-1 by omega]
   exact re (j-1)
  ·rw[<-h2]
   obtain⟨m,rfl⟩:∃m,j=m+1:=⟨j-1,aa⟩
   rw[show(((m+1:Nat):Int)-1).toNat=m by omega]at h3
   exact(pS (.inr h3)).symm
  ·rw[<-h2,show j=0 by omega];rfl
 ·subst hj
  exact ax.bO hT xb hm 60 [2] aas ah fun s' hs'=>⟨.inr rfl,[2],_,[.own 0 3 0 (bK x n)],_,_,hs',ah,⟨⟨rfl,eE (by simp[bp,look]) rfl rfl⟩,trivial⟩,rfl,hH rfl fun i hi=>fD rfl⟩
theorem agn:aY P Aj 151:=by
 intro K args pre r h
 unfold Aj at h
 split at h
 ·rename_i k n k' m f
  split at h
  ·rename_i hc
   have hc:=eq_of_beq hc
   subst hc
   simp only[ay]at h
   subst h
   intro need
   have h0:=need
   obtain⟨n1,n2,n3⟩:=need
   exact Oy hT EX (rest:=[]) (ws:=[.own k' 3 0 _]) (o2:=⟨true,true,3,m,f⟩) (o:=cC m (fun i=>aM (f i)) af) rfl rfl aX (fun ρ=>hH rfl fun i hi=>iV (n3 i hi).1 (n3 i hi).2) (fun _ c hk=>afl n2 n1 c hk) K h0
  ·simp at h
 ·simp at h
theorem abE:aY P wO 151:=by
 intro K args pre r h
 unfold wO at h
 split at h
 ·rename_i h1
  exact agn K args pre r (h1.trans h)
 ·exact MF K args pre r h
def pR:bk:=zG::(151,wO)::(93,ju kR kR zn pq)::gN
abbrev rH:Code:=aH f97
abbrev xz:Code:=part rH [1,1,1,1,0,1,0,0]
abbrev uZ:Code:=part xz [1,0,0]
abbrev oY:List Nat:=[1,6,7,8]
abbrev wA (n e:Nat) (d:Nat->Rat) (j:Nat):List AV:=[bz d (e+1) af,.own 0 3 0 n,.own 1 3 0 (n-e),.int .i64 ((n:Int)-((e:Int)+1)-(j:Int))]
abbrev qQ (n e:Nat) (x q:Nat->Rat):aE:=[(0,cC n x af),(1,cC (n-e) q af)]
abbrev uJ:List Nat:=[1,6,7,8,9,10]
abbrev D4 (n e:Nat) (d:Nat->Rat) (k i:Nat):List AV:=[bz d (e+1) af,.own 0 3 0 n,.own 1 3 0 (n-e),.int .i64 k,.ptr 2 0 3 0 [],.int .i64 i]
abbrev Gp (n e:Nat) (x q:Nat->Rat) (f:Rat):aE:=[(2,tR f af),(0,cC n x af),(1,cC (n-e) q af)]
theorem D8:bf 97 f97:=bg func97
theorem afZ {n e:Nat} {a d:Nat->Rat}:aI T pR [18] 60 oY (before rH [1,1,1,1,0,1]) ⟨aU 0 [bz a n af,bz d (e+1) af],[],0⟩=
  let c7:Int:=(↑(e+1):Int);let c6:AV:=own 16384 3 0 ((0:Nat)+n);let c5:AV:=ak 3 (e+1) fun i=>rat (d i) af;let c3:Nat×au:=(16384,au.mk true true 3 ((0:Nat)+n) fun i=>rat (a (i-0)) af);let c2:Int:=(2:Int)^63;let c1:Int:=(↑n:Int)-c7;let c8:Prop:=-c2<=c1/\c1<c2;let c4:Int:=c1+1;some (aj [(0:Nat)*3<=2^24,((0:Nat)+n)*((56:Nat)+1)*2<=2^47] (fork (decide ((↑n:Int)>=c7)) (aj [c8,-c2<=c4/\c4<c2,(0:Int)<=c4/\c4<=c4/\c4<=2^47/\c4*(↑(56:Nat):Int)<=2^47] (aj [c8] (leaf normal ([c5,c6,own 73728 3 0 c4.toNat,int i64 c1],[(73728,au.mk true true 3 c4.toNat fun x=>rat 0 1),c3])))) (aj [c8] (leaf normal ([c5,c6,nil,int i64 c1],[c3]))))):=ah
theorem abY {n e j:Nat} {d x q:Nat->Rat}:aI T pR [32] 60 oY (before xz [1,0]) ⟨aC oY (wA n e d j),qQ n e x q,2⟩=
  let c2:Int:=(↑n:Int)-((↑e:Int)+1)-(↑j:Int);let c1:List AV×aE:=([ak 3 (e+1) fun i=>rat (d i) af,own 0 3 0 n,own 1 3 0 (n-e),int i64 c2],[(1,au.mk true true 3 (n-e) fun i=>rat (q i) af),(0,au.mk true true 3 n fun i=>rat (x i) af)]);some (fork (decide (c2>=0)) (leaf normal c1) (leaf (exit 0) c1)):=ah
theorem ae2 {n e k:Nat} {d x q:Nat->Rat}:aI T pR [] 60 uJ (before uZ [1,1,1]) ⟨aC oY [bz d (e+1) af,.own 0 3 0 n,.own 1 3 0 (n-e),.int .i64 k],qQ n e x q,2⟩=
  let c8:Prop:=af<2^41;let c4:Int:=(↑k:Int);let c3:Int:=(2:Int)^63;let c1:Int:=(↑(e+1):Int);let c6:Nat:=c4.toNat+0;let c5:Int:=c1-1;let c2:Int:=c4+c1-1;let c7:Nat:=c2.toNat+0;some (aj [-c3<=c4+c1/\c4+c1<c3,-c3<=c2/\c2<c3,(0:Int)<=c2/\c2.toNat<n,c7<n,-c3<=c5/\c5<c3,(0:Int)<=c5/\c5.toNat<e+1,c8,c8,(0:Nat)<1] (aj [(0:Nat)<1,(0:Int)<=c4/\c4.toNat<n-e,c6<n-e] (leaf normal ([ak 3 (e+1) fun i=>rat (d i) af,own 0 3 0 n,own 1 3 0 (n-e),int i64 c4,ptr 61442 0 3 0 [],int i64 0],[((61442:Nat),gA fun j=>if(j==0)=true then de (zn (x c7,af) (d c5.toNat,af))else rat 0 1),(1,au.mk true true 3 (n-e) fun j=>rat (bif j==c6 then x c7/d c5.toNat else q j) (bif j==c6 then af+af else af)),(0,au.mk true true 3 n fun i=>rat (x i) af)])))):=ah
theorem afV {n e k i:Nat} {d x q:Nat->Rat} {f:Rat}:aI T pR [57] 60 uJ [part uZ [1,1,1,0,0]] ⟨aC uJ (D4 n e d k i),Gp n e x q f,3⟩=
  let c12:Nat:=e+1;let c11:AV:=own 0 3 0 n;let c10:AV:=own 1 3 0 (n-e);let c9:AV:=ptr 2 0 3 0 [];let c8:Nat:=2^41;let c7:Int:=(↑i:Int);let c4:Nat×au:=((2:Nat),gA fun x=>rat f af);let c3:Nat×au:=(1,au.mk true true 3 (n-e) fun i=>rat (q i) af);let c2:Int:=(2:Int)^63;let c14:Int:=c7+1;let c6:AV:=ak 3 c12 fun i=>rat (d i) af;let c1:Int:=(↑k:Int)+c7;let c13:Prop:=(0:Int)<=c1/\c1.toNat<n;let c5:Nat:=c1.toNat+0;some (fork (decide (c7<(↑c12:Int))) (aj [-c2<=c1/\c1<c2,-c2<=c1/\c1<c2,c13,c5<n,(0:Nat)<1,(0:Int)<=c7/\c7.toNat<c12,af<c8,af<c8,af<c8,af+af<c8,c13,c5<n] (aj [-c2<=c14/\c14<c2] (leaf normal ([c6,c11,c10,int i64 (↑k:Int),c9,int i64 c14],[c4,c3,(0,au.mk true true 3 n fun j=>rat (bif j==c5 then x c5-f*d c7.toNat else x j) (bif j==c5 then af+(af+af)+1 else af))])))) (leaf (exit 2) ([c6,c11,c10,int i64 (↑k:Int),c9,int i64 c7],[c4,c3,(0,au.mk true true 3 n fun i=>rat (x i) af)]))):=ah
theorem YB {n e k i:Nat} {d x q:Nat->Rat} {f:Rat}:aI T pR [] 60 oY (behind uZ [1,1,1]++[part xz [1,1]]) ⟨aC uJ (D4 n e d k i),Gp n e x q f,3⟩=
  let c1:Int:=(↑k:Int)-1;some (aj [-(2:Int)^63<=c1/\c1<2^63] (leaf normal ([ak 3 (e+1) fun i=>rat (d i) af,own 0 3 0 n,own 1 3 0 (n-e),int i64 c1],[(1,au.mk true true 3 (n-e) fun i=>rat (q i) af),(0,au.mk true true 3 n fun i=>rat (x i) af)]))):=ah
theorem VL {n e j:Nat} {d x q:Nat->Rat}:cQ T pR [] 60 f97 [part rH [1,1,1,1,1]] ⟨aC oY (wA n e d j),qQ n e x q,2⟩=
  some (aj [n-e<=n-e,n-e<2^40,sj (fun i=>rat (q i) af) (n-e) af,n<=n,n<2^40,sj (fun i=>rat (x i) af) n af] (leaf ret [ak 3 (bK (fun i=>aM (rat (q i) af)) (n-e)) fun i=>rat (aM (rat (q (i+0)) af)) af,ak 3 (bK (fun i=>aM (rat (x i) af)) n) fun i=>rat (aM (rat (x (i+0)) af)) af])):=ah
theorem TV {n e j:Nat} {d x q:Nat->Rat}:aI T pR [] 60 [4,5] [part rH [1,1,1,1,1]] ⟨aC oY (wA n e d j),qQ n e x q,2⟩=
  some (aj [n-e<=n-e,n-e<2^40,sj (fun i=>rat (q i) af) (n-e) af,n<=n,n<2^40,sj (fun i=>rat (x i) af) n af] (leaf ret ([own 1 3 0 (bK (fun i=>aM (rat (q i) af)) (n-e)),own 0 3 0 (bK (fun i=>aM (rat (x i) af)) n)],[(0,au.mk true true 3 n fun i=>rat (aM (rat (x i) af)) af),(1,au.mk true true 3 (n-e) fun i=>rat (aM (rat (q i) af)) af)]))):=ah
theorem GF:bR P pR:=gY (aJ abE (aJ (jG fun _ _ K hn=>CX hn.1 hn.2 K) gM))
def nj (e:Nat) (d a:Nat->Rat) (R j k:Nat):Rat:=if k+j<R then 0 else dM e d a R k
theorem XF {e k:Nat} {d x:Nat->Rat}:fB e d x k (x (k+e)/d e) (e+1)=gF e d k x:=by
 funext j
 unfold fB gF
 by_cases h:k<=j/\j<k+e+1
 ·rw[if_pos aa,if_pos h]
 ·rw[if_neg aa,if_neg h]
theorem Pv {e k i j:Nat} {d x:Nat->Rat} {f:Rat} (hj:j≠k+i):fB e d x k f i j=fB e d x k f (i+1) j:=by
 unfold fB
 by_cases h2:k<=j/\j<k+i
 ·rw[if_pos h2,if_pos aa]
 ·rw[if_neg h2,if_neg aa]
theorem abn {e k i:Nat} {d x:Nat->Rat} {f:Rat}:fB e d x k f i (k+i)-f*d i=fB e d x k f (i+1) (k+i):=by
 unfold fB
 rw[if_neg aa,if_pos aa,show k+i-k=i by omega]
theorem adM {ρ:Nat->Option Nat} {k es s n:Nat}:iu ρ (.own k es s n) .void:=by
 refine⟨rfl,fun M w β cs hc=>?_⟩
 cases hc with
 |own h1 h2 h3 h4 h5 h6=>cases h6;exact .void rfl .nil
 |own0 h5 h6=>cases h6;exact .void rfl .nil
theorem LL {n e:Nat} {a d:Nat->Rat} (hn:n<2^30) (he:e<2^30) (hz:nR n e d a) {cx:Ctx} (hk:Kept [] cx) {Q:aq->aN->Prop}
  (hQ:ax P cx f97.ntmps (part rH [1,1,1,1,1]) ⟨aC oY (wA n e d (n-e)),qQ n e (ct e d a (n-e) (n-e)) (dM e d a (n-e)),2⟩ Q):
  ax P cx f97.ntmps rH ⟨aU 0 [bz a n af,bz d (e+1) af],[],0⟩ Q:=by
 have hW:=cF
 obtain⟨R,hR⟩:∃R,R=n-e:=⟨_,rfl⟩
 unfold nR at hz
 rw[<-hR]at hz
 obtain⟨hzR,hzQ⟩:=hz
 have hz0:cN n a:=hzR 0 (Nat.zero_le _)
 refine ax.qH hT GF hm (x:=rH) [1,1,1,1,0,1] (i:=0) (y:=xz) (z:=part rH [1,1,1,1,1]) ah ah ah D8.dst [1,0] (j:=1) (x1:=uZ) (zb:=part xz [1,1]) ah ah ah [1,1,1] (i2:=2) (y2:=part uZ [1,1,1,0,0]) ah ah rfl hk
  (f1:=[18]) (f2:=[32]) (f3:=[]) (f4:=[57]) (f5:=[]) 60 oY uJ 2 3 (fun j:Nat=>wA n e d j) (fun j=>qQ n e (ct e d a R j) (nj e d a R j)) (fun j=>j<=R) (fun j=>j=R) (fun j=>R-j) (fun j=>j<R) (fun _=>False) (fun _=>False)
  (fun j (i:Nat)=>D4 n e d (R-1-j) i) (fun j i=>Gp n e (fB e d (ct e d a R j) (R-1-j) (dM e d a R (R-1-j)) i) (nj e d a R (j+1)) (dM e d a R (R-1-j))) (fun j i=>i<=e+1/\cN n (fB e d (ct e d a R j) (R-1-j) (dM e d a R (R-1-j)) i)) (fun j i=>i=e+1) (fun _ i=>e+1-i)
  ⟨_,afZ,?_⟩ (fun j hj=>⟨_,abY,?_⟩) (fun j hj hG=>?_) (fun j hj hG i ⟨hi,hxi⟩=>⟨_,afV,?_⟩) (fun j hj hG i hi=>⟨_,YB,?_⟩) (fun j hj=>?_) (fun _ _ h=>h.elim) (fun _ _ h=>h.elim)
 ·simp only[ag.all,az,bB,bD]
  have hq0:∀k,k<R->nj e d a R 0 k=0:=fun k hk=>by unfold nj;rw[if_pos aa]
  refine⟨aa,fun h=>⟨aa,aa,0,Nat.zero_le _,[(0,16384),(1,73728)],rfl,?_,rfl,br rfl rfl aa (fun j hj=>bN rfl rfl) (br rfl rfl aa (fun j hj=>.inr ⟨rfl,dy (hq0 j aa).symm aa⟩) trivial)⟩,fun h=>?_⟩
  ·rw[show((n:Int)-((e+1:Nat):Int)+1).toNat=n-e by omega,Nat.zero_add,show(n:Int)-((e+1:Nat):Int)=(n:Int)-((e:Int)+1)-((0:Nat):Int) by omega];rfl
  ·have h0:n-e=0:=aa
   refine⟨aa,0,Nat.zero_le _,[(0,16384)],rfl,?_,?_,?_⟩
   ·show _=([_,_,AV.own 1 3 0 (n-e),_]:List AV).map _
    rw[h0,Nat.zero_add,show(n:Int)-((e+1:Nat):Int)=(n:Int)-((e:Int)+1)-((0:Nat):Int) by omega];rfl
   ·show([_,_,AV.own 1 3 0 (n-e),_]:List AV).all _=true
    rw[h0];rfl
   ·refine br rfl rfl aa (fun j hj=>bN rfl rfl) ?_
    show jT _ _ _ [(1,cC (n-e) _ _)]
    rw[h0]
    exact kZ rfl aa aa trivial
 ·simp only[ag.all,az,bB,bD]
  have re:∀{x q:Nat->Rat},dS [] ([ak 3 (e+1) fun i=>rat (d i) af,own 0 3 0 n,own 1 3 0 (n-e),int i64 ((↑n:Int)-((↑e:Int)+1)-(↑j:Int))],[(1,au.mk true true 3 (n-e) fun i=>rat (q i) af),(0,au.mk true true 3 n fun i=>rat (x i) af)]) (wA n e d j) (qQ n e x q) 2:=⟨[(0,0),(1,1)],rfl,rfl,rfl,br rfl rfl rfl (fun j hj=>bN rfl rfl) (br rfl rfl rfl (fun j hj=>bN rfl rfl) trivial)⟩
  exact⟨fun h=>⟨aa,re⟩,fun h=>⟨rfl,j,aa,re⟩⟩
 ·show∃t,aI T pR [] 60 uJ (before uZ [1,1,1]) ⟨aC oY [_,_,_,.int .i64 ((n:Int)-((e:Int)+1)-(j:Int))],_,_⟩=some t/\_
  rw[show(n:Int)-((e:Int)+1)-(j:Int)=(R-1-j:Nat) by omega]
  refine⟨_,ae2,?_⟩
  simp only[ag.all,az,Nat.add_zero,bJ]
  rw[show((R-1-j:Nat):Int)+((e+1:Nat):Int)-1=(R-1-j+e:Nat) by omega,show(((e+1:Nat):Int)-1).toNat=e by omega,bJ]
  have hf:ct e d a R j (R-1-j+e)/d e=dM e d a R (R-1-j):=by unfold dM;rw[show R-1-(R-1-j)=j by omega]
  have hu0:fB e d (ct e d a R j) (R-1-j) (dM e d a R (R-1-j)) 0=ct e d a R j:=by funext i;unfold fB;rw[if_neg aa]
  rw[hf]
  refine⟨aa,aa,0,⟨Nat.zero_le _,by rw[hu0];exact hzR j aa⟩,[(0,0),(1,1),(2,61442)],rfl,rfl,rfl,kg rfl rfl (.inr ⟨rfl,ej hf (hzQ _ aa)⟩) (br rfl rfl rfl (fun i hi=>.inr ⟨rfl,dy (by rw[hu0]) aT⟩) (br rfl rfl rfl (fun i hi=>?_) trivial))⟩
  refine nh (x:=nj e d a R j) (y:=nj e d a R (j+1)) (ej ?_ ?_) fun hi=>dy ?_ aT
  ·unfold nj;rw[if_neg aa]
  ·unfold nj;rw[if_neg aa];exact hzQ _ aa
  ·unfold nj
   by_cases h:i+j<R
   ·rw[if_pos h,if_pos aa]
   ·rw[if_neg h,if_neg aa]
 ·simp only[ag.all,az,bB,bD,Nat.add_zero]
  rw[show((R-1-j:Nat):Int)+(i:Int)=(R-1-j+i:Nat) by omega,bJ,bJ]
  refine⟨fun h=>?_,fun h=>⟨rfl,i,aa,[(0,0),(1,1),(2,2)],rfl,rfl,rfl,cG (br rfl rfl rfl (fun j hj=>bN rfl rfl) (br rfl rfl rfl (fun j hj=>bN rfl rfl) trivial))⟩⟩
  have hs:Sz (fB e d (ct e d a R j) (R-1-j) (dM e d a R (R-1-j)) (i+1) (R-1-j+i)) af:=by
   have:=hzR (j+1) aa (R-1-j+i) aa
   have e1:ct e d a R (j+1) (R-1-j+i)=fB e d (ct e d a R j) (R-1-j) (dM e d a R (R-1-j)) (i+1) (R-1-j+i):=by
    show gF e d (R-1-j) (ct e d a R j) _=_
    unfold gF fB
    rw[if_pos aa,if_pos aa]
    unfold dM
    rw[show R-1-(R-1-j)=j by omega]
   rwa [e1]at this
  refine⟨aa,aa,i+1,⟨aa,fun l hl=>?_⟩,by dsimp only;omega,[(0,0),(1,1),(2,2)],rfl,by rw[show(i:Int)+1=((i+1:Nat):Int) by omega];rfl,rfl,cG (br rfl rfl rfl (fun l hl=>?_) (br rfl rfl rfl (fun j hj=>bN rfl rfl) trivial))⟩
  ·by_cases h3:l=R-1-j+i
   ·rw[h3];exact hs
   ·rw[<-Pv h3];exact hxi l hl
  ·exact nh (x:=fB e d (ct e d a R j) (R-1-j) (dM e d a R (R-1-j)) i) (y:=fB e d (ct e d a R j) (R-1-j) (dM e d a R (R-1-j)) (i+1)) (ej abn hs) fun hj=>dy (Pv hj) aT
 ·subst hi
  simp only[ag.all,az]
  have hf:ct e d a R j (R-1-j+e)/d e=dM e d a R (R-1-j):=by unfold dM;rw[show R-1-(R-1-j)=j by omega]
  refine⟨aa,j+1,hG,by dsimp only;omega,[(0,0),(1,1)],rfl,?_,rfl,br rfl rfl rfl (fun l hl=>.inr ⟨rfl,dy ?_ aT⟩) (br rfl rfl rfl (fun j hj=>bN rfl rfl) trivial)⟩
  ·rw[show((R-1-j:Nat):Int)-1=(n:Int)-((e:Int)+1)-((j+1:Nat):Int) by omega];rfl
  ·rw[<-hf,XF];rfl
 ·subst hj
  rw[<-hR]at hQ
  have e1:nj e d a j j=dM e d a j:=by funext k;unfold nj;rw[if_neg aa]
  show ax P cx _ _ ⟨_,qQ n e _ (nj e d a j j),2⟩ Q
  rw[e1]
  exact hQ
theorem Vs {n e:Nat} {a d:Nat->Rat} (hn:n<2^30) (he:e<2^30) (hz:nR n e d a) (K:Nat):aQ P 97 K [bz a n af,bz d (e+1) af] [] (aL (u7 n e d a) []):=by
 refine iw (r:=aL (u7 n e d a) []) hT D8 rfl aX rfl (fun _ cx h0=>?_) K []
 refine LL hn he hz (lX h0) (ax.lH ((aG.fin hT GF hm 60 VL ah ?_).mono fun _ _ h=>.inl h))
 simp only[ag.all,az,Nat.add_zero]
 exact⟨⟨aT,aa,fun j hj=>⟨rfl,.refl _⟩,aT,aa,fun j hj=>⟨rfl,.refl _⟩⟩,.refl _,.refl _,trivial⟩
theorem PI:aY P yh 97:=cO fun⟨⟨n,a⟩,⟨m,d⟩,_⟩ K hn=>by
 obtain⟨h1,h2,h3,h4,h5,h6⟩:=hn
 simp only at h1 h2 h3
 obtain⟨e,rfl⟩:∃e,m=e+1:=⟨m-1,aa⟩
 have h3:e+1<2^30:=h3
 exact Vs (e:=e) h1 aa h6 K
theorem ab8 {args:List AV} {n e:Nat} {a d:Nat->Rat} {l:List Prop} (ha:az l->g9 (bp []) args [bz a n af,bz d (e+1) af]) (hl:az l->n<2^30/\e<2^30/\nR n e d a) (K:Nat):
  aQ P 97 K args [] ⟨nW [.void,.own K 3 0 (bK (ct e d a (n-e) (n-e)) n)],[(K,cC n (ct e d a (n-e) (n-e)) af)],l⟩:=by
 refine Du hT D8 ha aX fun need c hk=>?_
 obtain⟨hn,he,hz⟩:=hl need
 refine LL hn he hz hk (ax.bO hT GF hm 60 [4,5] TV ah ?_)
 simp only[ag.all,az]
 exact⟨⟨aT,aa,fun j hj=>⟨rfl,.refl _⟩,aT,aa,fun j hj=>⟨rfl,.refl _⟩⟩,fun s' hs'=>⟨.inr trivial,[4,5],_,[.own 1 3 0 (bK (dM e d a (n-e)) (n-e)),.own 0 3 0 (bK (ct e d a (n-e) (n-e)) n)],_,0,_,hs',ah,⟨⟨rfl,adM⟩,⟨rfl,eE (by simp[bp,look]) rfl rfl⟩,trivial⟩,rfl,hH rfl fun i hi=>fD rfl⟩⟩
end Go.Am.B
namespace Go.Am
def gv (a b:PP):Prop:=a.1=b.1/\∀i,i<a.1->a.2 i=b.2 i
theorem gv.refl (a:PP):gv a a:=⟨rfl,fun _ _=>rfl⟩
theorem gv.symm {a b:PP} (h:gv a b):gv b a:=⟨h.1.symm,fun i hi=>(h.2 i (by rw[h.1];exact hi)).symm⟩
theorem gv.trans {a b c:PP} (h:gv a b) (h':gv b c):gv a c:=⟨h.1.trans h'.1,fun i hi=>(h.2 i hi).trans (h'.2 i (by rw[<-h.1];exact hi))⟩
theorem N9 {n e R:Nat} {d d' a a':Nat->Rat} (hR:R=n-e) (ha:∀i,i<n->a i=a' i) (hd:∀i,i<=e->d i=d' i):∀j,j<=R->∀i,i<n->ct e d a R j i=ct e d' a' R j i
 |0,_,i,hi=>ha i hi
 |j+1,hj,i,hi=>by
  have ih:=N9 hR ha hd j (by omega)
  show gF e d (R-1-j) (ct e d a R j) i=gF e d' (R-1-j) (ct e d' a' R j) i
  unfold gF
  by_cases h:R-1-j<=i/\i<R-1-j+e+1
  ·rw[if_pos h,if_pos h,ih i hi,ih (R-1-j+e) (by omega),hd e (Nat.le_refl _),hd (i-(R-1-j)) (by omega)]
  ·rw[if_neg h,if_neg h,ih i hi]
theorem OK {n e R:Nat} {d a:Nat->Rat} {l m:Rat} (hm:m≠0):∀j i,ct e (fun i=>m*d i) (fun i=>l*a i) R j i=l*ct e d a R j i
 |0,i=>rfl
 |j+1,i=>by
  have ih:=OK (n:=n) (e:=e) (R:=R) (d:=d) (a:=a) (l:=l) hm j
  show gF e (fun i=>m*d i) (R-1-j) (ct e (fun i=>m*d i) (fun i=>l*a i) R j) i=l*gF e d (R-1-j) (ct e d a R j) i
  unfold gF
  by_cases h:R-1-j<=i/\i<R-1-j+e+1
  ·rw[if_pos h,if_pos h,ih,ih]
   show _-_/(m*d e)*(m*d (i-(R-1-j)))=_
   generalize ct e d a R j i=x
   generalize ct e d a R j (R-1-j+e)=y
   generalize d (i-(R-1-j))=z
   by_cases h0:d e=0
   ·rw[h0];simp only[Rat.mul_zero,Rat.div_def,Rat.inv_zero,Rat.zero_mul];grind
   ·have e1:l*y/(m*d e)*(m*z)=l*(y/d e*z):=by
     rw[Rat.div_def,Rat.div_def,Rat.inv_mul_rev]
     have:m⁻¹*m=1:=Rat.inv_mul_cancel _ hm
     generalize (d e)⁻¹=w
     calc l*y*(w*m⁻¹)*(m*z)=l*y*w*(m⁻¹*m)*z:=by grind
      _=l*(y*w*z):=by rw[this];grind
    rw[e1];grind
  ·rw[if_neg h,if_neg h,ih]
theorem FL {k:Nat->Rat} {l:Rat} (hl:l≠0):∀n,bK (fun i=>l*k i) n=bK k n
 |0=>rfl
 |n+1=>by
  unfold bK
  by_cases h:k n=0
  ·rw[if_pos h,if_pos (by rw[h,Rat.mul_zero]),FL hl n]
  ·rw[if_neg h,if_neg fun h0=>(Rat.mul_eq_zero.1 h0).elim hl h]
def l8 (a b:PP):Prop:=∃l:Rat,l≠0/\a.1=b.1/\∀i,i<a.1->a.2 i=l*b.2 i
theorem FH {a:PP} (h:Trim a):l8 (dI a) a:=by
 rcases h with h|h
 ·exact⟨1,by decide,rfl,fun i hi=>absurd hi (by show¬i<a.1;omega)⟩
 ·refine⟨(a.2 (a.1-1))⁻¹,fun h0=>h (by rw[<-Rat.inv_inv (a.2 (a.1-1)),h0,Rat.inv_zero]),rfl,fun i _=>?_⟩
  show cL a.1 a.2 i=_
  unfold cL
  rw[Rat.div_def,Rat.mul_comm]
theorem l8.cL {a b:PP} (h:l8 a b):gv (dI a) (dI b):=by
 obtain⟨l,hl,h1,h2⟩:=h
 refine⟨h1,fun i hi=>?_⟩
 have hi:i<a.1:=hi
 show Go.Am.cL a.1 a.2 i=Go.Am.cL b.1 b.2 i
 unfold Go.Am.cL
 rw[h2 i hi,h2 (a.1-1) (by omega),h1,Rat.div_def,Rat.div_def,Rat.inv_mul_rev]
 have:l*l⁻¹=1:=Rat.mul_inv_cancel _ hl
 generalize (b.2 (b.1-1))⁻¹=w
 calc l*b.2 i*(w*l⁻¹)=(l*l⁻¹)*(b.2 i*w):=by grind
  _=_:=by rw[this,Rat.one_mul]
theorem l8.rem {a b d f:PP} (h:l8 a b) (h':l8 d f) (hd:0<d.1):l8 (dx a d) (dx b f):=by
 obtain⟨l,hl,h1,h2⟩:=h
 obtain⟨m,hm,g1,g2⟩:=h'
 have key:∀i,i<a.1->ct (d.1-1) d.2 a.2 (a.1-(d.1-1)) (a.1-(d.1-1)) i=l*ct (d.1-1) f.2 b.2 (a.1-(d.1-1)) (a.1-(d.1-1)) i:=fun i hi=>by
  rw[N9 (a':=fun i=>l*b.2 i) (d':=fun i=>m*f.2 i) rfl h2 (fun i hi=>g2 i (by omega)) _ (Nat.le_refl _) i hi,OK (n:=a.1) hm]
 have e1:(dx a d).1=(dx b f).1:=by
  show bK _ _=bK _ _
  rw[<-g1,<-h1,DJ key,FL hl]
 refine⟨l,hl,e1,fun i hi=>?_⟩
 have hi:i<(dx a d).1:=hi
 show ct _ _ _ _ _ i=l*ct _ _ _ _ _ i
 rw[<-g1,<-h1]
 exact key i (Nat.lt_of_lt_of_le hi fN)
theorem gv.sC {a b:PP} (h:gv a b):l8 a b:=⟨1,by decide,h.1,fun i hi=>by rw[h.2 i hi,Rat.one_mul]⟩
theorem XV {a:PP} (h:Trim a):gv (dI (dI a)) (dI a):=(FH h).cL
theorem K6 {s t:PP×PP} (h1:Trim t.1) (h2:Trim t.2) (g1:gv s.1 (dI t.1)) (g2:gv s.2 (dI t.2)):∀j,gv (bT s j).1 (dI (bT t j).1)/\gv (bT s j).2 (dI (bT t j).2)
 |0=>⟨g1,g2⟩
 |j+1=>by
  obtain⟨i1,i2⟩:=K6 h1 h2 g1 g2 j
  obtain⟨t1,t2⟩:=mI h1 h2 j
  show gv (fL _).1 (dI (fL _).1)/\gv (fL _).2 (dI (fL _).2)
  have hl:(bT s j).2.1=(bT t j).2.1:=i2.1
  unfold fL
  by_cases h0:(bT t j).2.1=0
  ·rw[if_pos h0,if_pos (hl.trans h0)];exact⟨i1,i2⟩
  ·rw[if_neg h0,if_neg (by rw[hl];exact h0)]
   refine⟨i2,?_⟩
   have hs1:l8 (bT s j).1 (bT t j).1:=by
    obtain⟨l,a1,a2,a3⟩:=FH t1
    exact⟨l,a1,i1.1,fun i hi=>by rw[i1.2 i hi,a3 i (by rw[<-i1.1];exact hi)]⟩
   have hs2:l8 (bT s j).2 (bT t j).2:=by
    obtain⟨l,a1,a2,a3⟩:=FH t2
    exact⟨l,a1,i2.1,fun i hi=>by rw[i2.2 i hi,a3 i (by rw[<-i2.1];exact hi)]⟩
   have:=(l8.rem hs1 hs2 (by omega)).cL
   exact this.trans (XV qq).symm
def X9 (a b:PP):PP:=(bT (dI a,dI b) b.1).1
theorem abB {a b:PP} (h1:Trim a) (h2:Trim b):gv (X9 a b) (bW a b):=(K6 (s:=(dI a,dI b)) (t:=(a,b)) h1 h2 (gv.refl _) (gv.refl _) b.1).1
end Go.Am
namespace Go.Am.B
open Go Go.Am.N AV ag aq IntKind Proofs.Tryz
def B4:bk:=zG::(97,yh)::(152,FE)::gN
abbrev yG:Code:=aH f100
def sJ (a b:PP):Prop:=cN a.1 (cL a.1 a.2)/\cN b.1 (cL b.1 b.2)/\pK (dI a,dI b)
def GO:Spec:=dD (kC (kL af) (kC (kL af) kN)) (fun a=>aA (bW a.1 a.2.1)) fun a=>[a.1.1<2^30,a.2.1.1<2^30,Trim a.1,Trim a.2.1,sJ a.1 a.2.1]
def ahI (a:PP):Prop:=a.1≠0->sJ a (bC a)/\mQ a (bW a (bC a))/\cN (bQ a).1 (bQ a).2
def wU (a:PP):Prop:=a.1≠0/\a.1<2^30/\Trim a/\cN (a.1-1) (cR a.2)/\ahI a
def Nr:Spec:=dD (kC (kL af) kN) (fun a=>aA (bQ a.1)) fun a=>[wU a.1]
def NS:bk:=zG::(97,yh)::(152,FE)::(125,rR)::(100,GO)::gN
theorem aeb:bf 100 f100:=bg func100
theorem ady:bf 99 f99:=bg func99
theorem agX {a b:PP}:aI T B4 [] 60 oy (before yG [1,1,0]) ⟨aU 0 [aA a,aA b],[],0⟩=
  some (aj [aR a,a.1<2^40,Trim a,cN a.1 (cL a.1 a.2),aR b,b.1<2^40,Trim b,cN b.1 (cL b.1 b.2)] (leaf normal ([aA (dI a),aA (dI b)],[]))):=ah
theorem Xr {a b:PP}:aI T B4 [13] 60 oy [part yG [1,1,0,0,0]] ⟨aC oy [aA a,aA b],[],0⟩=
  some (fork (decide ((b.1:Int)>0)) (aj [aR a,aR b,a.1<2^30,1<=b.1,b.1<2^30,Trim a,Trim b,mQ a b] (aj [aR (dx a b),(dx a b).1<2^40,Trim (dx a b),cN (dx a b).1 (cL (dx a b).1 (dx a b).2)] (leaf normal ([aA b,aA (dI (dx a b))],[])))) (leaf (exit 0) ([aA a,aA b],[]))):=ah
theorem ac8 {a b:PP}:cQ T B4 [] 60 f100 [part yG [1,1,1]] ⟨aC oy [aA a,aA b],[],0⟩=some (leaf ret [aA a]):=ah
theorem WG {a:PP}:b9 T NS [] 60 f99 (aH f99) ⟨aU 0 [aA a],[],0⟩=
  some (aj [aR a,a.1<2^40,cN (a.1-1) (cR a.2),aR a,aR (bC a),a.1<2^30,(bC a).1<2^30,Trim a,Trim (bC a),sJ a (bC a),aR a,aR (bW a (bC a)),a.1<2^30,1<=(bW a (bC a)).1,(bW a (bC a)).1<2^30,Trim a,Trim (bW a (bC a)),mQ a (bW a (bC a))] (aj [aR (fF a (bW a (bC a))),(fF a (bW a (bC a))).1<2^40,Trim (fF a (bW a (bC a))),cN (fF a (bW a (bC a))).1 (cL (fF a (bW a (bC a))).1 (fF a (bW a (bC a))).2)] (leaf ret [aA (dI (fF a (bW a (bC a))))]))):=ah
theorem aka:bR P B4:=gY (aJ PI (aJ Nv gM))
theorem akd {a b:PP} (ha:a.1<2^30) (hb:b.1<2^30) (ta:Trim a) (tb:Trim b) (hz:sJ a b) (K:Nat):aQ P 100 K [aA a,aA b] [] (aL (aA (bW a b)) []):=by
 obtain⟨za,zb,hz⟩:=hz
 obtain⟨s,hs⟩:∃s,s=(dI a,dI b):=⟨_,rfl⟩
 have t1:Trim s.1:=by rw[hs];exact oU ta
 have t2:Trim s.2:=by rw[hs];exact oU tb
 have hT1:=mI t1 t2
 have hL:=ze t1 t2
 have hB:=wB (s:=s) (B:=2^30-1) (by rw[hs];show a.1<=_;omega) (by rw[hs];show b.1<=_;omega) t1 t2
 have hb2:s.2.1=b.1:=by rw[hs];rfl
 rw[<-hs]at hz
 refine jc (r:=aL (aA (bW a b)) []) hT aka hm aeb rfl aX rfl [1,1,0] (i:=0) (y:=part yG [1,1,0,0,0]) (z:=part yG [1,1,1]) ah ah ah (f1:=[]) (f2:=[13]) (f3:=[]) 60 oy 0
  (fun j:Nat=>uy (bT s j)) (fun _=>[]) (fun j=>j<=b.1) (fun j=>j<=b.1/\(bT s j).2.1=0) (fun j=>(bT s j).2.1) (fun _=>⟨⟨_,agX (a:=a) (b:=b),?_⟩,fun j hj=>⟨_,Xr,?_⟩,fun j hj=>⟨_,ac8,?_⟩⟩) K []
 ·simp only[ag.all,az]
  exact⟨⟨dQ,aa,ta,za,dQ,aa,tb,zb⟩,0,Nat.zero_le _,by rw[hs];exact dS.vals rfl⟩
 ·have h1:=hT1 j
  have h2:=hL j
  have h3:=hB j
  have h4:=hB (j+1)
  have h5:=hz.1 j
  have e1:(bT s j).2.1≠0->bT s (j+1)=((bT s j).2,dI (dx (bT s j).1 (bT s j).2)):=fun h=>if_neg h
  have e2:=hL (j+1)
  obtain⟨x,y,hx⟩:∃x y,bT s j=(x,y):=⟨_,_,rfl⟩
  rw[hx]at h1 h2 h3 h5 e1
  dsimp only at h1 h2 h3 h5 e1
  simp only[ag.all,az,bB,bD,hx]
  refine⟨fun h=>?_,fun h=>⟨rfl,j,⟨hj,by rw[hx];dsimp only;omega⟩,by show dS _ _ (uy (bT s j)) _ _;rw[hx];exact dS.vals rfl⟩⟩
  have hy:y.1≠0:=aa
  have e1:=e1 hy
  rw[e1]at h4 e2
  have hr:(dx x y).1<y.1:=oM aa h1.2
  refine⟨⟨dQ,dQ,aa,aa,aa,h1.1,h1.2,(h5 hy).1⟩,⟨dQ,aa,qq,(h5 hy).2⟩,j+1,aa,?_,?_⟩
  ·show(bT s (j+1)).2.1<(bT s j).2.1
   rw[e1,hx];exact hr
  ·show dS _ _ (uy (bT s (j+1))) _ _
   rw[e1];exact dS.vals rfl
 ·obtain⟨hj,h0⟩:=hj
  have hst:=Gn h0 (b.1-j)
  rw[show j+(b.1-j)=b.1 by omega]at hst
  have hg:gv (bT s j).1 (bW a b):=by rw[<-hst,hs];exact abB ta tb
  simp only[ag.all]
  obtain⟨g1,g2⟩:=hg
  show aW (bz _ _ _) (bz _ _ _)
  rw[<-g1]
  exact iH fun i hi=>dy (g2 i hi) aT
theorem K7:aY P GO 100:=cO fun⟨a,b,_⟩ K hn=>akd hn.1 hn.2.1 hn.2.2.1 hn.2.2.2.1 hn.2.2.2.2 K
theorem ajF:bR P NS:=gY (aJ PI (aJ Nv (aJ Gj (aJ K7 gM))))
theorem R7 {a:PP} (hz:wU a) (K:Nat):aQ P 99 K [aA a] [] (aL (aA (bQ a)) []):=by
 obtain⟨h0,ha,ta,hd,hz⟩:=hz
 refine ck hT ajF hm ady rfl aX rfl 60 WG (fun _=>?_) K []
 simp only[ag.all,az]
 obtain⟨z1,z2,z3⟩:=hz h0
 have e0:bQ a=dI (fF a (bW a (bC a))):=if_neg h0
 rw[e0]at z3 ⊢
 have hd1:(bC a).1<=a.1-1:=fN
 have hg:=wB (s:=(a,bC a)) (B:=a.1) aT (by dsimp only;omega) ta dZ (bC a).1
 have hgl:(bW a (bC a)).1<=a.1:=hg
 have hgp:0<(bW a (bC a)).1:=nF aa
 have tg:Trim (bW a (bC a)):=kH ta dZ
 have hq:(fF a (bW a (bC a))).1<=a.1:=Nat.le_trans fN (Nat.sub_le _ _)
 exact⟨⟨dQ,aa,hd,dQ,dQ,ha,aa,ta,dZ,z1,dQ,dQ,ha,hgp,aa,ta,tg,z2⟩,⟨dQ,aa,yl,z3⟩,.refl _⟩
theorem Yj:aY P Nr 99:=cO fun⟨a,_⟩ K hn=>R7 hn K
def Pu:Spec:=rK fun K l=>match l with
 |[u,v]=>match(kL af).read u,(kL af).read v with
  |some (a,q1),some (d,q2)=>some ⟨.tuple [.void,.own K 3 0 (dx a d).1],[(K,cC a.1 (dx a d).2 af)],q1++(q2++[a.1<2^30,1<=d.1,d.1<2^30,mQ a d])⟩
  |_,_=>none
 |_=>none
def ud:bk:=zG::(97,Pu)::(125,rR)::(99,Nr)::(52,zF)::gN
abbrev wM:Code:=aH f63
abbrev Fp:Code:=part wM [1,1,1,1,0,0,0]
abbrev tL:Code:=part Fp [1,0]
abbrev rQ:List Nat:=[3,4,5]
abbrev wS:List Nat:=[4,5,7,8]
abbrev Dc (y:PP) (j n i:Nat):List AV:=[.own 0 1 0 (j+1+1),aA y,.own 1 3 0 n,.int .i64 i]
abbrev Bu (s:PP×PP) (j m:Nat) (r:Nat->Rat):aE:=[(0,mS (j+1+1) s),(1,cC m r af)]
theorem Jl:bf 63 f63:=bg func63
theorem UX {a:PP}:aI T ud [] 60 rQ (before wM [1,1,1,1,0]) ⟨aU 0 [aA a],[],0⟩=
  some (aj [aR a,wU a] (aj [(1:Nat)*1<=2^24] (aj [aR (bQ a),(bQ a).1<2^40,cN ((bQ a).1-1) (cR (bQ a).2)] (leaf normal ([aA (bQ a),own 20480 1 0 1,aA (bC (bQ a))],[(20480,au.mk true true 1 1 fun i=>nth [aA (bQ a)] nil i)]))))):=ah
theorem adN {x y:PP} {s:PP×PP} {j:Nat}:aI T ud [17] 60 rQ (before Fp [1]) ⟨aC rQ [aA x,.own 0 1 0 (j+1),aA y],[(0,mS (j+1) s)],1⟩=
  some (fork (decide ((y.1:Int)>0)) (leaf normal ([aA x,own 0 1 0 (j+1),aA y],[((0:Nat),mS (j+1) s)])) (leaf (exit 0) ([aA x,own 0 1 0 (j+1),aA y],[((0:Nat),mS (j+1) s)]))):=ah
theorem Zm {x y:PP} {s:PP×PP} {j:Nat}:aI T ud [] 60 wS (before tL [1,1,0,1]) ⟨aC rQ [aA x,.own 0 1 0 (j+1),aA y],[(0,mS (j+1) s)],1⟩=
  let c3:Nat:=y.fst-1;let c2:Nat:=j+1;let c4:Nat:=c2+1;let c1:Nat:=x.fst-c3;some (aj [(1:Nat)*1<=2^24,c4*((24:Nat)+1)*2<=2^47] (aj [cP (fun i=>rat (x.snd i) af) x.fst af,cP (fun i=>rat (y.snd i) af) y.fst af,x.fst<2^30,(1:Nat)<=y.fst,y.fst<2^30,mQ (x.fst,fun i=>aM (rat (x.snd i) af)) (y.fst,fun i=>aM (rat (y.snd i) af))] (leaf normal ([own 12289 1 0 c4,ak 3 y.fst fun i=>rat (y.snd i) af,own 28673 3 0 (bK (ct c3 (fun i=>aM (rat (y.snd i) af)) (fun i=>aM (rat (x.snd i) af)) c1 c1) x.fst),int i64 0],[(28673,au.mk true true 3 x.fst fun i=>rat (ct c3 (fun i=>aM (rat (y.snd i) af)) (fun i=>aM (rat (x.snd i) af)) c1 c1 i) af),(12289,au.mk true true 1 c4 fun i=>if i<c2 then aA (bM s i).fst else nth [ak 3 y.fst fun i=>rat (y.snd i) af] nil (i-c2+0))])))):=ah
theorem Y7 {y:PP} {s:PP×PP} {j m n i:Nat} {r:Nat->Rat}:aI T ud [31] 60 wS [part tL [1,1,0,1,0,0]] ⟨aC wS (Dc y j n i),Bu s j m r,2⟩=
  let c8:Nat:=j+1+1;let c6:AV:=own 1 3 0 n;let c4:AV:=ak 3 y.fst fun i=>rat (y.snd i) af;let c3:Int:=(↑i:Int);let c9:Int:=c3+1;let c7:Prop:=(0:Int)<=c3/\c3.toNat<n;let c5:AV:=own 0 1 0 c8;let c2:Nat:=c3.toNat+0;let c1:Nat×au:=(0,au.mk true true 1 c8 fun i=>ak 3 (bM s i).fst.fst fun i_1=>rat ((bM s i).fst.snd i_1) af);some (fork (decide (c3<(↑n:Int))) (aj [c7,c2<m,c7,c2<m] (aj [-(2:Int)^63<=c9/\c9<2^63] (leaf normal ([c5,c4,c6,int i64 c9],[(1,au.mk true true 3 m fun j=>rat (bif j==c2 then-r c2 else r j) (bif j==c2 then af else af)),c1])))) (leaf (exit 2) ([c5,c4,c6,int i64 c3],[(1,au.mk true true 3 m fun i=>rat (r i) af),c1]))):=ah
theorem Ul {y z:PP} {s:PP×PP} {j i m:Nat} {r:Nat->AV}:aI T ud [] 60 rQ [part tL [1,1,1]] ⟨qC (some 7) (.ak 3 z.1 r) (aC wS (Dc y j z.1 i)),put 1 ⟨true,false,3,m,r⟩ (Bu s j m z.2),2⟩=
  let c1:Nat:=j+1+1;some (leaf normal ([ak 3 y.fst fun i=>rat (y.snd i) af,own 0 1 0 c1,ak 3 z.fst fun a=>r a],[(0,au.mk true true 1 c1 fun i=>ak 3 (bM s i).fst.fst fun i_1=>rat ((bM s i).fst.snd i_1) af)])):=ah
theorem Zy {x y:PP} {s:PP×PP} {j:Nat}:cQ T ud [] 60 f63 [part wM [1,1,1,1,1]] ⟨aC rQ [aA x,.own 0 1 0 (j+1),aA y],[(0,mS (j+1) s)],1⟩=
  some (leaf ret [ak 1 (j+1) fun i=>ak 3 (bM s (i+0)).fst.fst fun i_1=>rat ((bM s (i+0)).fst.snd i_1) af]):=ah
theorem aht:aY P Pu 97:=by
 refine uX fun K args r hk hs=>?_
 split at hs
 ·rename_i u v
  split at hs
  ·rename_i a q1 d q2 hu hv
   simp only[ay]at hs
   subst hs
   intro need
   obtain⟨n1,n2⟩:=gJ.1 need
   obtain⟨n2,h1,h2,h3,h4⟩:=gJ.1 n2
   have e1:bz d.2 (d.1-1+1) af=aA d:=by rw[show d.1-1+1=d.1 by omega]
   refine(ab8 (e:=d.1-1) (a:=a.2) (d:=d.2) (n:=a.1) (l:=q1++(q2++[a.1<2^30,1<=d.1,d.1<2^30,mQ a d])) (fun _=>?_) (fun _=>⟨h1,aa,h4⟩) K) need
   rw[e1]
   exact C3 hk (by cases u<;>first|(exfalso;simp[kL,sN]at hu;done)|(cases v<;>first|rfl|(exfalso;simp[kL,sN]at hv;done))) ⟨(kL af).ok hu n1,(kL af).ok hv n2,trivial⟩
  ·simp at hs
 ·simp at hs
theorem Hr:bR P ud:=gY (aJ aht (aJ Gj (aJ Yj (aJ C6 gM))))
def lM (a:PP):Prop:=wU a/\cN ((bQ a).1-1) (cR (bQ a).2)/\xU (en a)
def nZ (x:Nat->Rat) (i j:Nat):Rat:=if j<i then-x j else x j
theorem abS (q:Rat):((-1:Int):Rat)*q=-q:=by
 rw[show((-1:Int):Rat)=-1 by rfl,Rat.neg_mul,Rat.one_mul]
theorem Wp {a:PP} (hz:lM a) (K:Nat):aQ P 63 K [aA a] [] (aL (eO (bA a) (bh a)) []):=by
 obtain⟨hz0,hd2,hs⟩:=hz
 have ha:=hz0.2.1
 obtain⟨s,hss⟩:∃s,s=en a:=⟨_,rfl⟩
 have t1:Trim s.1:=by rw[hss];exact mM
 have t2:Trim s.2:=by rw[hss];exact dZ
 have hTr:=oO t1 t2
 obtain⟨g1,g2,g3⟩:=oS t1 t2
 have hfl:(bQ a).1<=a.1:=by
  unfold bQ;split
  ·exact Nat.zero_le _
  ·exact Nat.le_trans fN (Nat.sub_le _ _)
 have hdl:(bC (bQ a)).1<=(bQ a).1-1:=fN
 have hB:=Il (s:=s) (B:=2^30-1) (by rw[hss];show(bQ a).1<=_;omega) (by rw[hss];show(bC (bQ a)).1<=_;omega) t1 t2
 have hg0:s.2.1=(bC (bQ a)).1:=by rw[hss];rfl
 have hg:fo s<2^30:=aa
 have hW:=cF
 show aQ P 63 K [aA a] [] (aL (CN (fo (en a)+1) (en a)) [])
 rw[<-hss]at hs ⊢
 refine iw (r:=aL (CN (fo s+1) s) []) hT Jl rfl aX rfl (fun _ cx h0=>?_) K []
 have hk:=lX h0
 have hj0:∀{j},j<=fo s->(bM s j).2.1≠0->j<fo s:=fun {j} hj h=>by
  rcases Nat.lt_or_ge j (fo s)with h'|h'
  ·exact h'
  ·exact absurd (by rw[show j=fo s by omega];exact g2) h
 refine ax.agR hT Hr hm (x:=wM) [1,1,1,1,0] (i:=0) (y:=Fp) ah ah Jl.dst [1] (j:=1) (x1:=tL) ah ah ah [1,1,0,1] (i2:=2) (y2:=part tL [1,1,0,1,0,0]) ah ah rfl ah hk
  (f1:=[]) (f2:=[17]) (f3:=[]) (f4:=[31]) 60 rQ wS 1 2 (fun j:Nat=>BJ s j) (fun j=>[(0,mS (j+1) s)]) (fun j=>j<=fo s) (fun j=>j=fo s) (fun j=>fo s-j) (fun j=>j<fo s) (fun _=>False) (fun _=>False)
  (fun j (i:Nat)=>Dc (bM s j).2 j (dx (bM s j).1 (bM s j).2).1 i) (fun j i=>Bu s j (bM s j).1.1 (nZ (dx (bM s j).1 (bM s j).2).2 i)) (fun j i=>i<=(dx (bM s j).1 (bM s j).2).1) (fun j i=>i=(dx (bM s j).1 (bM s j).2).1) (fun j i=>(dx (bM s j).1 (bM s j).2).1-i)
  ⟨_,UX,?_⟩ (fun j hj=>⟨_,adN,?_⟩) (fun j hj hG=>⟨_,Zm,?_⟩) (fun j hj hG i hi=>⟨_,Y7,?_⟩) (fun j hj hG i hi=>?_) (fun j s' hj hs'=>?_) (fun _ _ h=>h.elim) (fun _ _ h=>h.elim)
 ·simp only[ag.all,az]
  refine⟨⟨dQ,hz0⟩,aa,⟨dQ,Nat.lt_of_le_of_lt hfl aa,hd2⟩,0,Nat.zero_le _,[(0,20480)],rfl,by rw[hss];rfl,rfl,br rfl rfl rfl (fun i hi=>?_) trivial⟩
  obtain rfl:i=0:=aa
  rw[hss];exact bN rfl rfl
 ·simp only[ag.all,bB,bD]
  have re:dS [] ([aA (bM s j).1,own 0 1 0 (j+1),aA (bM s j).2],[((0:Nat),mS (j+1) s)]) (BJ s j) [(0,mS (j+1) s)] 1:=⟨[(0,0)],rfl,rfl,rfl,br rfl rfl rfl (fun i hi=>bN rfl rfl) trivial⟩
  refine⟨fun h=>⟨hj0 hj aa,re⟩,fun h=>⟨rfl,j,?_,re⟩⟩
  rcases Nat.lt_or_ge j (fo s)with h'|h'
  ·have:=g3 j h';omega
  ·omega
 ·have h1:=hTr j
  have h3:=hB j hj
  have hy:=g3 j hG
  simp only[ag.all,az]
  refine⟨⟨aa,aa⟩,⟨dQ,dQ,aa,aa,aa,(hs j hG).1⟩,0,Nat.zero_le _,[(0,12289),(1,28673)],rfl,rfl,rfl,br rfl rfl rfl (fun i hi=>?_) (br rfl rfl rfl (fun i hi=>bN rfl ?_) trivial)⟩
  ·by_cases hi2:i<j+1
   ·rw[if_pos hi2];exact bN rfl rfl
   ·rw[if_neg hi2,show i-(j+1)+0=0 by omega,show i=j+1 by omega];exact bN rfl rfl
  ·show AV.rat ((dx (bM s j).1 (bM s j).2).2 i) af=AV.rat (nZ _ 0 i) af
   unfold nZ;rw[if_neg (Nat.not_lt_zero i)]
 ·have h3:=hB j hj
  have hrl:(dx (bM s j).1 (bM s j).2).1<=(bM s j).1.1:=fN
  simp only[ag.all,az,bB,bD,bJ,Nat.add_zero]
  refine⟨fun h=>⟨aa,aa,i+1,aa,by dsimp only;omega,[(0,0),(1,1)],rfl,by rw[show(i:Int)+1=((i+1:Nat):Int) by omega];rfl,rfl,br rfl rfl rfl (fun l hl=>bN rfl rfl) (br rfl rfl rfl (fun l hl=>?_) trivial)⟩,fun h=>⟨rfl,i,aa,[(0,0),(1,1)],rfl,rfl,rfl,br rfl rfl rfl (fun l hl=>bN rfl rfl) (br rfl rfl rfl (fun l hl=>bN rfl rfl) trivial)⟩⟩
  refine nh (x:=nZ _ i) (y:=nZ _ (i+1)) (dy ?_ aT) fun hl=>dy (FV hl).symm aT
  unfold nZ;rw[if_neg (Nat.lt_irrefl i),if_pos (Nat.lt_succ_self i)]
 ·subst hi
  obtain⟨z,hzz⟩:∃z:PP,z=((dx (bM s j).1 (bM s j).2).1,nZ (dx (bM s j).1 (bM s j).2).2 (dx (bM s j).1 (bM s j).2).1):=⟨_,rfl⟩
  have e1:behind tL [1,1,0,1]=[part tL [1,1,1]]:=ah
  rw[e1]
  show aG P cx _ _ ⟨aC wS (Dc (bM s j).2 j _ _),Bu s j _ _,2⟩ _
  rw[show(dx (bM s j).1 (bM s j).2).1=z.1 by rw[hzz],show nZ (dx (bM s j).1 (bM s j).2).2 z.1=z.2 by rw[hzz]]
  refine aG.one (ax.dJ (t:=7) (k:=1) (es:=3) (s0:=0) (n:=z.1) (o:=cC (bM s j).1.1 z.2 af) rfl rfl rfl rfl (ax.bO hT Hr hm 60 rQ Ul ah ?_))
  simp only[ag.all,az]
  refine fun s' hs'=>⟨j+1,hG,by dsimp only;omega,BV [(0,0)] hs' (fun k x h=>absurd (hk k x h) List.not_mem_nil) rfl ⟨aS,⟨rfl,eE (by simp[bp,look]) rfl rfl⟩,⟨rfl,iV rfl ?_⟩,trivial⟩ (uz (br rfl rfl rfl (fun i hi=>bN rfl rfl) trivial))⟩
  show aW (bz (fun i=>z.2 (i+0)) z.1 af) (aA (bM s (j+1)).2)
  rw[hzz]
  refine iH fun i hi=>dy ?_ aT
  show nZ _ _ i=((-1:Int):Rat)*_
  unfold nZ
  rw[if_pos hi,abS]
 ·subst hj
  rw[show behind wM [1,1,1,1,0]=[part wM [1,1,1,1,1]]from by kernel_rfl]
  exact aG.weak rfl hs' (aG.mono (fun _ _ h=>.inl h) (aG.fin hT Hr hm 60 Zy ah (.refl _)))
end Go.Am.B
