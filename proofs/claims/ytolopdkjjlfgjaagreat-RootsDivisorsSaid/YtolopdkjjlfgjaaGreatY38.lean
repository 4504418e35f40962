/- roots.gcd, free. -/
import Derived.Test.YtolopdkjjlfgjaaGreatY37
import Derived.Test.YtolopdkjjlfgjaaGreatZ2
set_option linter.unusedVariables false
noncomputable section
namespace Go.Am.B
open Go Go.Am.N AV af aq IntKind Proofs.Tryz
abbrev aP (a:PP):AV:=aZ a.2 a.1 ah
def xY:bg:=zG::(88,yh)::(135,DR)::gA
abbrev xk:Code:=aG f72
abbrev vW:List Nat:=[0,1]
abbrev CS (s:PP×PP):List AV:=[aP s.1,aP s.2]
def nD (a d:PP):Prop:=rI a.1 (d.1-1) d.2 a.2
def j9 (s:PP×PP):Prop:=(∀j,(bZ s j).2.1≠0->nD (bZ s j).1 (bZ s j).2/\cu (dP (bZ s j).1 (bZ s j).2).1 (dh (dP (bZ s j).1 (bZ s j).2).1 (dP (bZ s j).1 (bZ s j).2).2))/\cu (cG s.1 s.2).1 (cG s.1 s.2).2
def yN:Spec:=dL (kC (kL ah) (kC (kL ah) kN)) (fun a=>aP (cG a.1 a.2.1)) fun a=>[a.1.1<2^30,a.2.1.1<2^30,Trim a.1,Trim a.2.1,j9 (a.1,a.2.1)]
def uG (a:PP):Prop:=a.1≠0->j9 (a,cP a)/\nD a (cG a (cP a))/\cu (dA a).1 (dA a).2
def KF:bg:=zG::(88,yh)::(135,DR)::(73,xJ)::(72,yN)::gA
theorem Nr:aX 72 f72:=aY func72
theorem Wz:aX 80 f80:=aY func80
theorem adG {s:PP×PP}:aH T xY [] 60 vW (before xk [1,0]) ⟨aS 0 [aP s.1,aP s.2],[],0⟩=
  some (leaf normal ([ak 3 s.fst.fst fun i=>rat (s.fst.snd i) ah,ak 3 s.snd.fst fun i=>rat (s.snd.snd i) ah],[])):=ag
theorem aaI {a b:PP}:aH T xY [9] 60 vW [part xk [1,0,0,0]] ⟨aD vW [aP a,aP b],[],0⟩=
  let c3:AV:=ak 3 b.fst fun i=>rat (b.snd i) ah;let c2:Nat:=b.fst-1;let c4:Nat:=a.fst-c2;let c1:Nat:=bO (cr c2 (fun i=>aU (rat (b.snd i) ah)) (fun i=>aU (rat (a.snd i) ah)) c4 c4) a.fst;some (fork (decide ((↑b.fst:Int)>0)) (aj [dc (fun i=>rat (a.snd i) ah) a.fst ah,dc (fun i=>rat (b.snd i) ah) b.fst ah,a.fst<2^30,(1:Nat)<=b.fst,b.fst<2^30,a.fst=0\/aU (rat (a.snd (a.fst-1)) ah)≠0,aU (rat (b.snd c2) ah)≠0,rI a.fst c2 (fun i=>aU (rat (b.snd i) ah)) fun i=>aU (rat (a.snd i) ah)] (aj [dc (fun i=>rat (cr c2 (fun i=>aU (rat (b.snd i) ah)) (fun i=>aU (rat (a.snd i) ah)) c4 c4 i) ah) c1 ah,c1<2^40,cu c1 (dh c1 fun i=>aU (rat (cr c2 (fun i=>aU (rat (b.snd i) ah)) (fun i=>aU (rat (a.snd i) ah)) c4 c4 i) ah))] (leaf normal ([c3,ak 3 c1 fun i=>rat (dh c1 (fun i=>aU (rat (cr c2 (fun i=>aU (rat (b.snd i) ah)) (fun i=>aU (rat (a.snd i) ah)) c4 c4 i) ah)) i) ah],[])))) (leaf (exit 0) ([ak 3 a.fst fun i=>rat (a.snd i) ah,c3],[]))):=ag
theorem Pm {a b:PP}:cN T xY [] 60 f72 [part xk [1,1]] ⟨aD vW [aP a,aP b],[],0⟩=
  some (aj [dc (fun i=>rat (a.snd i) ah) a.fst ah,a.fst<2^40,cu a.fst (dh a.fst fun i=>aU (rat (a.snd i) ah))] (leaf ret [ak 3 a.fst fun i=>rat (dh a.fst (fun i=>aU (rat (a.snd i) ah)) i) ah])):=ag
theorem abq {a:PP}:bT T KF [7] 60 f80 (aG f80) ⟨aS 0 [aP a],[],0⟩=
  let c9:Nat:=a.fst;let c8:Nat:=2^30;let c11:Nat:=c9-1;let c7:Nat×(Nat->Rat):=(c9,fun i=>aU (rat (a.snd i) ah));let c6:Prop:=dc (fun i=>rat (a.snd i) ah) c9 ah;let c3:Nat:=bO (dx fun i=>aU (rat (a.snd i) ah)) c11;let c5:Nat×(Nat->Rat):=(c3,fun i=>aU (rat (dx (fun i=>aU (rat (a.snd i) ah)) i) ah));let c1:PP:=(bZ (c7,c5) c3).fst;let c10:Nat:=c1.fst;let c4:Nat:=c10-1;let c2:Nat:=bO (fc c4 (fun i=>aU (rat (dh c10 c1.snd i) ah)) (fun i=>aU (rat (a.snd i) ah)) (c9-c4)) (c9-c4);some (fork ((↑c9:Int)==0) (leaf ret [nil]) (aj [c6,c9<2^40,cu c11 (dx fun i=>aU (rat (a.snd i) ah)),c6,dc (fun i=>rat (dx (fun i=>aU (rat (a.snd i) ah)) i) ah) c3 ah,c9<c8,c3<c8,Trim c7,Trim c5,j9 (c7,c5),c6,dc (fun i=>rat (dh c10 c1.snd i) ah) c10 ah,c9<c8,(1:Nat)<=c10,c10<c8,c9=0\/aU (rat (a.snd c11) ah)≠0,aU (rat (dh c10 c1.snd c4) ah)≠0,rI c9 c4 (fun i=>aU (rat (dh c10 c1.snd i) ah)) fun i=>aU (rat (a.snd i) ah)] (aj [dc (fun i=>rat (fc c4 (fun i=>aU (rat (dh c10 c1.snd i) ah)) (fun i=>aU (rat (a.snd i) ah)) (c9-c4) i) ah) c2 ah,c2<2^40,cu c2 (dh c2 fun i=>aU (rat (fc c4 (fun i=>aU (rat (dh c10 c1.snd i) ah)) (fun i=>aU (rat (a.snd i) ah)) (c9-c4) i) ah))] (leaf ret [ak 3 c2 fun i=>rat (dh c2 (fun i=>aU (rat (fc c4 (fun i=>aU (rat (dh c10 c1.snd i) ah)) (fun i=>aU (rat (a.snd i) ah)) (c9-c4) i) ah)) i) ah])))):=ag
theorem abe:bK P xY:=gT (aK BZ (aK Iu gJ))
theorem X9 {a b:PP} (ha:a.1<2^30) (hb:b.1<2^30) (ta:Trim a) (tb:Trim b) (hz:j9 (a,b)) (K:Nat):aO P 72 K [aP a,aP b] [] (aJ (aP (cG a b)) []):=by
 obtain⟨s,hs⟩:∃s,s=(a,b):=⟨_,rfl⟩
 have hT1:=pe (s:=s) (by rw[hs];exact ta) (by rw[hs];exact tb)
 have hL:=Ai (s:=s) (by rw[hs];exact ta) (by rw[hs];exact tb)
 have hB:=v9 (s:=s) (B:=2^30-1) (by rw[hs];dsimp only;omega) (by rw[hs];dsimp only;omega) (by rw[hs];exact ta) (by rw[hs];exact tb)
 have hb2:s.2.1=b.1:=by rw[hs]
 rw[<-hs]at hz
 refine kg (r:=aJ (aP (cG a b)) []) hT abe hm Nr rfl aW rfl [1,0] (i:=0) (y:=part xk [1,0,0,0]) (z:=part xk [1,1]) ag ag ag (f1:=[]) (f2:=[9]) (f3:=[]) 60 vW 0
  (fun j:Nat=>CS (bZ s j)) (fun _=>[]) (fun j=>j<=b.1) (fun j=>j<=b.1/\(bZ s j).2.1=0) (fun j=>(bZ s j).2.1) (fun _=>⟨⟨_,adG (s:=(a,b)),?_⟩,fun j hj=>⟨_,aaI,?_⟩,fun j hj=>⟨_,Pm,?_⟩⟩) K []
 ·simp only[af.all,az]
  exact⟨0,Nat.zero_le _,by rw[hs];exact eW.vals rfl⟩
 ·have h1:=hT1 j
  have h2:=hL j
  have h3:=hB j
  have h4:=hB (j+1)
  have h5:=hz.1 j
  have e1:(bZ s j).2.1≠0->bZ s (j+1)=((bZ s j).2,jf (dP (bZ s j).1 (bZ s j).2)):=fun h=>if_neg h
  have e2:=hL (j+1)
  obtain⟨x,y,hx⟩:∃x y,bZ s j=(x,y):=⟨_,_,rfl⟩
  rw[hx]at h1 h2 h3 h5 e1
  dsimp only at h1 h2 h3 h5 e1
  simp only[af.all,az,bz,bE,hx]
  refine⟨fun h=>?_,fun h=>⟨rfl,j,⟨hj,by rw[hx];dsimp only;omega⟩,by show eW _ _ (CS (bZ s j)) _ _;rw[hx];exact eW.vals rfl⟩⟩
  have hy:y.1≠0:=aa
  have e1:=e1 hy
  rw[e1]at h4 e2
  have hr:(dP x y).1<y.1:=mA aa h1.2
  have ty:y.2 (y.1-1)≠0:=by rcases h1.2 with h|h;omega;exact h
  refine⟨⟨cZ aQ,cZ aQ,aa,aa,aa,h1.1,ty,(h5 hy).1⟩,⟨cZ aQ,by show(dP x y).1<_;omega,(h5 hy).2⟩,j+1,aa,?_,?_⟩
  ·show(bZ s (j+1)).2.1<(bZ s j).2.1
   rw[e1,hx];exact hr
  ·show eW _ _ (CS (bZ s (j+1))) _ _
   rw[e1];exact eW.vals rfl
 ·obtain⟨hj,h0⟩:=hj
  have hg:jf (bZ s j).1=cG a b:=by rw[hs]at h0 ⊢;exact SG ta tb hj h0
  have h3:=hB j
  have hz2:=hz.2
  rw[show s.1=a by rw[hs],show s.2=b by rw[hs],<-hg]at hz2
  rw[<-hg]
  simp only[af.all,az]
  exact⟨⟨cZ aQ,aa,hz2⟩,.refl _⟩
theorem D3:bf P yN 72:=dF fun⟨a,b,_⟩ K hn=>X9 hn.1 hn.2.1 hn.2.2.1 hn.2.2.2.1 hn.2.2.2.2 K
theorem abJ:bK P KF:=gT (aK BZ (aK Iu (aK Ca (aK D3 gJ))))
theorem IE {a:PP} (ha:a.1<2^30) (ta:Trim a) (hd:cu (a.1-1) (dx a.2)) (hz:uG a) (K:Nat):aO P 80 K [aP a] [] (aJ (aP (dA a)) []):=by
 refine bW hT abJ hm Wz rfl aW rfl 60 abq (fun _=>?_) K []
 simp only[af.all,az,beq_iff_eq,beq_eq_false_iff_ne]
 refine⟨fun h=>?_,fun h=>?_⟩
 ·have h0:a.1=0:=aa
  unfold dA
  rw[if_pos h0];exact lQ aa
 ·have h0:a.1≠0:=aa
  obtain⟨z1,z2,z3⟩:=hz h0
  have e0:dA a=jf (gD a (cG a (cP a))):=if_neg h0
  rw[e0]at z3 ⊢
  have hd1:(cP a).1<=a.1-1:=eP
  have hg:=v9 (s:=(a,cP a)) (B:=a.1) aQ (by dsimp only;omega) ta gl (cP a).1
  have hgp:0<(cG a (cP a)).1:=CK aa
  have tg:Trim (cG a (cP a)):=nH ta gl
  have tg':(cG a (cP a)).2 ((cG a (cP a)).1-1)≠0:=by rcases tg with h|h;omega;exact h
  have hq:(gD a (cG a (cP a))).1<=a.1:=Nat.le_trans eP (Nat.sub_le _ _)
  exact⟨⟨cZ aQ,aa,hd,cZ aQ,cZ aQ,ha,Nat.lt_of_le_of_lt hd1 aa,ta,gl,z1,cZ aQ,cZ aQ,ha,hgp,Nat.lt_of_le_of_lt hg ha,ta,tg',z2⟩,⟨cZ aQ,Nat.lt_of_le_of_lt hq aa,z3⟩,.refl _⟩
def Hl:Spec:=dL (kC (kL ah) kN) (fun a=>aP (dA a.1)) fun a=>[a.1.1<2^30,Trim a.1,cu (a.1.1-1) (dx a.1.2),uG a.1]
theorem acZ:bf P Hl 80:=dF fun⟨a,_⟩ K hn=>IE hn.1 hn.2.1 hn.2.2.1 hn.2.2.2 K
abbrev Mr (n:Nat) (s:PP×PP):AV:=.ak 1 n fun i=>aP (ct s i).1
abbrev DI (n:Nat) (s:PP×PP):ay:=⟨true,true,1,n,fun i=>aP (ct s i).1⟩
def yJ:bg:=zG::(88,yh)::(121,Dp)::(73,xJ)::(80,Hl)::gA
abbrev xd:Code:=aG f59
abbrev tX:List Nat:=[3,4,5]
abbrev HG (s:PP×PP) (j:Nat):List AV:=[aP (ct s j).1,.own 0 1 0 (j+1),aP (ct s j).2]
def AS (s:PP×PP):Prop:=∀j,j<gQ s->nD (ct s j).1 (ct s j).2/\cu (ct s (j+1)).2.1 (ct s (j+1)).2.2
theorem ac2:aX 59 f59:=aY func59
theorem OK {a:PP}:aH T yJ [] 60 tX (before xd [1,1,1,0,1]) ⟨aS 0 [aP a],[],0⟩=
  let c2:Nat×(Nat->Rat):=(a.fst,fun i=>aU (rat (a.snd i) ah));let c1:PP:=dA c2;some (aj [dc (fun i=>rat (a.snd i) ah) a.fst ah,a.fst<2^30,Trim c2,cu (a.fst-1) (dx fun i=>aU (rat (a.snd i) ah)),uG c2] (aj [(1:Nat)*1<=2^24] (aj [dc (fun i=>rat (c1.snd i) ah) c1.fst ah,c1.fst<2^40,cu (c1.fst-1) (dx fun i=>aU (rat (c1.snd i) ah))] (leaf normal ([ak 3 c1.fst fun i=>rat (c1.snd i) ah,own 20480 1 0 1,ak 3 (bO (dx fun i=>aU (rat (c1.snd i) ah)) (c1.fst-1)) fun i=>rat (dx (fun i=>aU (rat (c1.snd i) ah)) i) ah],[(20480,ay.mk true true 1 1 fun i=>nth [ak 3 c1.fst fun i=>rat (c1.snd i) ah] nil i)]))))):=ag
theorem VM {x y:PP} {s:PP×PP} {j:Nat}:aH T yJ [16] 60 tX [part xd [1,1,1,0,1,0,0]] ⟨aD tX [aP x,.own 0 1 0 (j+1),aP y],[(0,DI (j+1) s)],1⟩=
  let c6:Int:=(-1:Int);let c4:AV:=ak 3 y.fst fun i=>rat (y.snd i) ah;let c3:Nat:=j+1;let c2:Nat:=y.fst-1;let c7:Nat:=c3+1;let c5:Nat:=x.fst-c2;let c1:Nat:=bO (cr c2 (fun i=>aU (rat (y.snd i) ah)) (fun i=>aU (rat (x.snd i) ah)) c5 c5) x.fst;some (fork (decide ((↑y.fst:Int)>0)) (aj [(1:Nat)*1<=2^24,c7*((24:Nat)+1)*2<=2^47] (aj [dc (fun i=>rat (x.snd i) ah) x.fst ah,dc (fun i=>rat (y.snd i) ah) y.fst ah,x.fst<2^30,(1:Nat)<=y.fst,y.fst<2^30,x.fst=0\/aU (rat (x.snd (x.fst-1)) ah)≠0,aU (rat (y.snd c2) ah)≠0,rI x.fst c2 (fun i=>aU (rat (y.snd i) ah)) fun i=>aU (rat (x.snd i) ah)] (aj [-(2:Int)^63<=c6,c6<2^63,dc (fun i=>rat (cr c2 (fun i=>aU (rat (y.snd i) ah)) (fun i=>aU (rat (x.snd i) ah)) c5 c5 i) ah) c1 ah,Max.max 1 (bI c6.natAbs)<=rV,c1<2^40,cu c1 fun i=>(↑c6:Rat)*aU (rat (cr c2 (fun i=>aU (rat (y.snd i) ah)) (fun i=>aU (rat (x.snd i) ah)) c5 c5 i) ah)] (leaf normal ([c4,own 24577 1 0 c7,ak 3 c1 fun i=>rat ((↑c6:Rat)*aU (rat (cr c2 (fun i=>aU (rat (y.snd i) ah)) (fun i=>aU (rat (x.snd i) ah)) c5 c5 i) ah)) ah],[(24577,ay.mk true true 1 c7 fun i=>if i<c3 then aP (ct s i).fst else nth [ak 3 y.fst fun i=>rat (y.snd i) ah] nil (i-c3+0))]))))) (leaf (exit 0) ([ak 3 x.fst fun i=>rat (x.snd i) ah,own 0 1 0 c3,c4],[(0,ay.mk true true 1 c3 fun i=>ak 3 (ct s i).fst.fst fun i_1=>rat ((ct s i).fst.snd i_1) ah)]))):=ag
theorem UJ {s:PP×PP} {j:Nat}:cN T yJ [] 60 f59 [part xd [1,1,1,1]] ⟨aD tX (HG s j),[(0,DI (j+1) s)],1⟩=
  some (leaf ret [ak 1 (j+1) fun i=>ak 3 (ct s (i+0)).fst.fst fun i_1=>rat ((ct s (i+0)).fst.snd i_1) ah]):=ag
theorem WX:bK P yJ:=gT (aK BZ (aK MF (aK Ca (aK acZ gJ))))
theorem WV {a:PP} (ha:a.1<2^30) (ta:Trim a) (hd:cu (a.1-1) (dx a.2)) (hz:uG a) (hd2:cu ((dA a).1-1) (dx (dA a).2)) (hs:AS (ia a)) (K:Nat):aO P 59 K [aP a] [] (aJ (Mr (gQ (ia a)+1) (ia a)) []):=by
 obtain⟨s,hss⟩:∃s,s=ia a:=⟨_,rfl⟩
 have t1:Trim s.1:=by rw[hss];exact uJ
 have t2:Trim s.2:=by rw[hss];exact gl
 have hTr:=tT t1 t2
 obtain⟨g1,g2,g3⟩:=uw t1 t2
 have hfl:(dA a).1<=a.1:=by
  unfold dA;split
  ·exact Nat.zero_le _
  ·exact Nat.le_trans eP (Nat.sub_le _ _)
 have hdl:(cP (dA a)).1<=(dA a).1-1:=eP
 have hB:=Kl (s:=s) (B:=2^30-1) (by rw[hss];show(dA a).1<=_;omega) (by rw[hss];show(cP (dA a)).1<=_;omega) t1 t2
 have hg0:s.2.1=(cP (dA a)).1:=by rw[hss];rfl
 have hg:gQ s<2^30:=aa
 rw[<-hss]at hs ⊢
 refine kg (r:=aJ (Mr (gQ s+1) s) []) hT WX hm ac2 rfl aW rfl [1,1,1,0,1] (i:=0) (y:=part xd [1,1,1,0,1,0,0]) (z:=part xd [1,1,1,1]) ag ag ag (f1:=[]) (f2:=[16]) (f3:=[]) 60 tX 1
  (fun j:Nat=>HG s j) (fun j=>[(0,DI (j+1) s)]) (fun j=>j<=gQ s) (fun j=>j=gQ s) (fun j=>gQ s-j) (fun _=>⟨⟨_,OK,?_⟩,fun j hj=>⟨_,VM (x:=(ct s j).1) (y:=(ct s j).2),?_⟩,fun j hj=>⟨_,UJ,?_⟩⟩) K []
 ·simp only[af.all,az]
  refine⟨⟨cZ aQ,ha,ta,hd,hz⟩,aa,⟨cZ aQ,Nat.lt_of_le_of_lt hfl aa,hd2⟩,0,Nat.zero_le _,[(0,20480)],rfl,by rw[hss];rfl,rfl,bw rfl rfl rfl (fun i hi=>?_) trivial⟩
  obtain rfl:i=0:=aa
  rw[hss];exact bP rfl rfl
 ·have h1:=hTr j
  have h3:=hB j hj
  have hb:bI (Int.natAbs (-1))=1:=by decide
  have hW:=dg
  have hX:=Cc
  simp only[af.all,az,bz,bE]
  refine⟨fun h=>?_,fun h=>?_⟩
  ·have hy:(ct s j).2.1≠0:=aa
   have hjl:j<gQ s:=by
    rcases Nat.lt_or_ge j (gQ s)with h|h
    ·exact h
    ·exact absurd (by rw[show j=gQ s by omega];exact g2) hy
   have hr:(dP (ct s j).1 (ct s j).2).1<(ct s j).2.1:=mA aa h1.2
   have ty:(ct s j).2.2 ((ct s j).2.1-1)≠0:=by rcases h1.2 with h|h;omega;exact h
   refine⟨⟨aa,aa⟩,⟨cZ aQ,cZ aQ,aa,aa,aa,h1.1,ty,(hs j hjl).1⟩,⟨aa,aa,cZ aQ,by rw[hb,Nat.max_self];omega,by show(dP (ct s j).1 (ct s j).2).1<_;omega,(hs j hjl).2⟩,j+1,hjl,by dsimp only;omega,[(0,24577)],rfl,rfl,rfl,bw rfl rfl rfl (fun i hi=>?_) trivial⟩
   by_cases hi2:i<j+1
   ·rw[if_pos hi2];exact bP rfl rfl
   ·rw[if_neg hi2,show i-(j+1)+0=0 by omega,show i=j+1 by omega];exact bP rfl rfl
  ·have hjl:j=gQ s:=by
    rcases Nat.lt_or_ge j (gQ s)with h'|h'
    ·have:=g3 j h';omega
    ·omega
   exact⟨rfl,j,hjl,[(0,0)],rfl,rfl,rfl,bw rfl rfl rfl (fun i hi=>bP rfl rfl) trivial⟩
 ·subst hj
  exact .refl _
abbrev sK:Nat:=4096
abbrev ls (k:Nat->Rat) (n:Nat):AV:=aZ k n sK
abbrev JF (n:Nat) (k:Nat->Rat) (i:Nat):List AV:=[ls k n,.ptr 0 0 3 0 [],.int .i64 i,.int .i64 0,.int .i64 0]
theorem RM {a b:Rat}:iJ a b>=0↔b<=a:=by
 have:=@AJ a b
 constructor
 ·intro h
  have:¬a<b:=fun h'=>by have:=AJ.2 h';omega
  grind
 ·intro h
  have:¬iJ a b<0:=fun h'=>by have:=AJ.1 h';grind
  omega
def ac9 (n:Nat) (k:Nat->Rat) (t:Rat):Prop:=t<k 0\/k (n-1)<t
instance {n:Nat} {k:Nat->Rat} {t:Rat}:Decidable (ac9 n k t):=inferInstanceAs (Decidable (t<k 0\/k (n-1)<t))
def LD (k:Nat->Rat) (i:Nat) (t:Rat) (d j:Nat):Rat:=if j=0 then 0 else fr (k (i-d+(j-1))) (k (i-d+(j-1)+(d+1))) t*vB k i t d (j-1)
theorem W6:aX 56 f56:=aY func56
theorem XU:aX 113 f113:=aY func113
def we (k:Nat->Rat) (t:Rat):Nat->Nat
 |0=>0
 |i+1=>we k t i+if k i=t then 1 else 0
def RX (k:Nat->Rat) (i:Nat):Prop:=i=0\/k i≠k (i-1)
instance {k:Nat->Rat} {i:Nat}:Decidable (RX k i):=inferInstanceAs (Decidable (i=0\/k i≠k (i-1)))
def Sw (n:Nat) (k:Nat->Rat) (p:Nat) (t:Rat):Prop:=((t=k 0\/t=k (n-1))/\we k t n≠p+1)\/(¬(t=k 0\/t=k (n-1))/\p<we k t n)
instance {n:Nat} {k:Nat->Rat} {p:Nat} {t:Rat}:Decidable (Sw n k p t):=inferInstanceAs (Decidable (((t=k 0\/t=k (n-1))/\we k t n≠p+1)\/(¬(t=k 0\/t=k (n-1))/\p<we k t n)))
def loadT (o:Oper):Nat:=match o.op with
 |.load t _=>t
 |_=>0
def YP (o:Oper):Nat:=match o.op with
 |.binOp _ t _ _ _=>t
 |_=>0
def Qu (o:Oper):Array TypeId:=match o.op with
 |.call c=>c.argTypes
 |_=>#[]
def QX (o:Oper):Nat:=match o.op with
 |.unOp _ t _=>t
 |_=>0
def Mq:Code->Code×Code
 |.block _ (.rangeFunc _ _ x y)=>(x,y)
 |_=>(.skip,.skip)
def m7 (a:PP) (t:Rat):Prop:=∀m,m<=a.1->Sz (fu a.1 a.2 t m) ah
abbrev HZ:FuncId:=127
abbrev zP:FuncId:=163
abbrev tv:Code:=aG f163
def de (v:AV):PP:=match rX v with
 |some (n,f)=>(n,fun i=>aU (f i))
 |none=>(0,fun _=>0)
abbrev gZ (n:Nat) (c:Nat->PP):AV:=.ak 1 n fun i=>aP (c i)
def tQ:Kind (Nat×(Nat->PP)):=⟨fun v=>match v with
 |.ak 1 n f=>some ((n,fun i=>de (f i)),[∀i,i<n->bB (f i) (aP (de (f i)))])
 |_=>none,fun a=>gZ a.1 a.2,fun {v a q} h hq=>by
  split at h
  ·simp only[ax,Prod.mk.injEq]at h
   obtain⟨rfl,rfl⟩:=h
   exact gi hq
  ·simp at h⟩
def wj:Spec:=dL (kC (kL ah) (kC (gb ah) kN)) (fun a=>.rat (fQ a.1 a.2.1) ah) fun a=>[a.1.1<2^40,m7 a.1 a.2.1]
def dG (c:Nat->PP) (t:Rat) (i:Nat):Int:=dJ (fQ (c i) t)
def yX:bg:=zG::(66,wj)::gA
abbrev ug:Code:=aG f122
abbrev vr:List Nat:=[3,5,6,10,11,12]
abbrev zf (n:Nat) (c:Nat->PP) (l:Int) (m i:Nat):List AV:=[.ptr 0 0 3 0 [],.int .i64 l,.int .i64 m,gZ n c,.int .i64 n,.int .i64 i]
def eA (n:Nat) (c:Nat->PP) (t:Rat):Prop:=∀i,i<n->(c i).1<2^40/\m7 (c i) t
def J3:Spec:=dL (kC tQ (kC (gb ah) kN)) (fun a=>.int .i64 ((ep (dG a.1.2 a.2.1) a.1.1).2:Nat)) fun a=>[a.1.1<2^40,eA a.1.1 a.1.2 a.2.1]
def IZ:bg:=nG::(122,J3)::(66,wj)::gA
def jG (n:Nat) (c:Nat->PP) (a b:Rat):Int:=if a>=b then 0 else((ep (dG c a) n).2:Int)-((ep (dG c b) n).2:Int)-(if fQ (c 0) b=0 then 1 else 0)
theorem XE:aX HZ f127:=aY func127
theorem DF:aX zP f163:=aY func163
theorem Ik:aX 66 f66:=aY func66
theorem acY:aX 122 f122:=aY func122
theorem abz:aX 60 f60:=aY func60
abbrev IW:Nat:=loadT (eo tv [0] 0)
abbrev Fa:Nat:=loadT (eo tv [1,0,0,1,0,0,0] 5)
abbrev UX:Nat:=YP (eo tv [0] 2)
theorem SA:Fv tv IW Fa UX:=⟨ag,⟨ag,ag,ag⟩,⟨ag,ag,ag⟩,⟨ag,ag,ag⟩,⟨ag,ag,ag⟩,⟨ag,ag,ag⟩,⟨ag,ag,ag⟩,⟨ag,ag,ag⟩,⟨ag,ag,ag⟩,⟨ag,ag,ag⟩,⟨ag,ag,ag⟩,⟨ag,ag,ag⟩,⟨ag,ag,ag⟩,
 ⟨Qu (eo tv [1,0,0,1,0,0,0] 6),ag,ag,ag⟩,⟨QX (eo tv [1,0,0,1,0,0,0] 7),ag,ag,ag⟩,⟨ag,ag,ag⟩,⟨ag,ag,ag⟩,⟨ag,ag,ag⟩⟩
theorem abV {n s:Nat} {k:Nat->Rat} (hn:n<2^62):Av P zP [.bL (aZ k n s)] n (fun i=>.int .i64 ((n:Int)-1-i)) (fun i=>.rat (k (n-1-i)) s):=
 Y8 hT (tiS:=(look IW T).getD ⟨.bool,0,0,.nil⟩) (tiE:=(look Fa T).getD ⟨.bool,0,0,.nil⟩) ag ag ag ag DF.get DF.body ag ag SA (f:=fun i=>.rat (k i) s) hn ag fun i hi=>⟨rfl,rfl⟩
def wW:bg:=nG::(HZ,AX T [sG] [] 20 f127)::gA
abbrev uY:List Nat:=[3,4,5,9]
abbrev D7 (a:PP):List AV:=[.ptr 0 0 3 0 [],.ptr 1 0 3 0 [],.ptr 2 0 3 0 [],.func zP [.bL (aP a)]]
abbrev tR (q:Rat) (s:Nat):ay:=⟨false,true,3,1,fun _=>.rat q s⟩
abbrev vu (t x:Rat):aE:=[(2,tR x ah),(1,tR 0 1),(0,tR t ah)]
abbrev Dl:List Nat:=[3,4,5,9,7]
abbrev IG (a:PP):List AV:=[.ptr 0 0 3 0 [],.ptr 1 0 3 0 [],.ptr 2 0 3 0 [],.func zP [.bL (aP a)],.ptr 3 0 3 0 []]
abbrev qB:Code:=aG f66
abbrev Fu:Code:=(Mq (part qB [1,1,0,1])).1
abbrev GF:Code:=(Mq (part qB [1,1,0,1])).2
theorem R4 {a:PP} {t:Rat}:aH T wW [] 60 uY (before qB [1,1,0,1]) ⟨aS 0 [aP a,.rat t ah],[],0⟩=
  let c1:ay:=g8 fun x=>rat 0 1;some (leaf normal ([ptr 0 0 (eC (rat t ah)).size 0 [],ptr 4096 0 3 0 [],ptr 8192 0 3 0 [],func 163 [(ak 3 a.fst fun i=>rat (a.snd i) ah).bL]],[((8192:Nat),c1),((4096:Nat),c1),(0,ay.mk false true (eC (rat t ah)).size 1 fun x=>rat t ah)])):=ag
theorem Vr {a:PP} {t x v:Rat} {u:Int}:aH T wW [] 60 Dl [Fu] ⟨aD (uY++[10,11]) (D7 a++[.int .i64 u,.rat v ah]),vu t x,3⟩=
  let c1:AV:=rat 0 1;some (aj [(0:Nat)<1] (leaf normal ([ptr 0 0 3 0 [],ptr 1 0 3 0 [],ptr 2 0 3 0 [],func 163 [(ak 3 a.fst fun i=>rat (a.snd i) ah).bL],ptr 3 0 3 0 []],[((3:Nat),g8 fun j=>if(j==0)=true then eC (rat v ah)else c1),((2:Nat),g8 fun x_1=>rat x ah),((1:Nat),g8 fun x=>c1),((0:Nat),g8 fun x=>rat t ah)]))):=ag
theorem aaU {a:PP} {t x v:Rat}:aH T wW [] 60 uY [GF] ⟨aD Dl (IG a),(3,tR v ah)::vu t x,4⟩=
  let c2:Prop:=0<1;let c1:Nat:=2^42;some (aj [c2,c2,ah<c1,ah<c1,c2,ah+ah<c1,ah<c1,c2] (leaf normal ([ptr 0 0 3 0 [],ptr 1 0 3 0 [],ptr 2 0 3 0 [],func 163 [(ak 3 a.fst fun i=>rat (a.snd i) ah).bL]],[((2:Nat),g8 fun j=>if(j==0)=true then eC (zC (x*t,ah+ah) (v,ah))else rat x ah),((1:Nat),g8 fun x=>rat 0 1),((0:Nat),g8 fun x=>rat t ah)]))):=ag
theorem U8 {a:PP} {t x:Rat}:cN T wW [] 60 f66 [part qB [1,1,1]] ⟨aD uY (D7 a),vu t x,3⟩=
  let c1:Prop:=0<1;some (aj [c1,c1] (aj [c1] (leaf ret [rat x ah]))):=ag
theorem Z0 {n:Nat} {c:Nat->PP} {t:Rat}:aH T yX [] 60 vr (before ug [1,1,0,1]) ⟨aS 0 [gZ n c,.rat t ah],[],0⟩=
  let c1:AV:=int i64 0;some (leaf normal ([ptr 0 0 (eC (rat t ah)).size 0 [],c1,c1,ak 1 n fun i=>ak 3 (c i).fst fun i_1=>rat ((c i).snd i_1) ah,int i64 (↑n:Int),c1],[(0,ay.mk false true (eC (rat t ah)).size 1 fun x=>rat t ah)])):=ag
theorem Xi {n m i:Nat} {c:Nat->PP} {l:Int} {t:Rat}:aH T yX [13,23,27] 60 vr [part ug [1,1,0,1,0,0]] ⟨aD vr (zf n c l m i),[(0,tR t ah)],1⟩=
  let c14:Int:=(↑n:Int);let c11:AV:=int i64 (↑m:Int);let c9:Int:=(↑m:Int)+1;let c8:AV:=ak 1 n fun i=>ak 3 (c i).fst fun i_1=>rat ((c i).snd i_1) ah;let c7:Int:=(2:Int)^63;let c6:Int:=(↑i:Int);let c5:AV:=ptr 0 0 3 0 [];let c3:List (Nat×ay):=[((0:Nat),g8 fun x=>rat t ah)];let c13:Int:=c6+1;let c12:PP:=c c6.toNat;let c10:Nat×(Nat->Rat):=(c12.fst,fun i=>aU (rat (c12.snd i) ah));let c4:List Prop:=[-c7<=c13/\c13<c7];let c2:List AV:=[c8,int i64 c14,int i64 c13];let c1:Int:=dJ (fQ c10 t);some (fork (decide (c6<c14)) (aj [(0:Int)<=c6/\c6.toNat<n] (aj [(0:Nat)<1,dc (fun i=>rat (c12.snd i) ah) c12.fst ah,ah<=ah,c12.fst<2^40,m7 c10 t,ah<2^42] (aj [-c7<=c1*l/\c1*l<c7] (fork (decide (c1*l<0)) (aj [-c7<=c9/\c9<c7] (fork (c1 !=(0:Int)) (aj c4 (leaf normal (c5::int i64 c1::int i64 c9::c2,c3))) (aj c4 (leaf normal (c5::int i64 l::int i64 c9::c2,c3))))) (fork (c1 !=(0:Int)) (aj c4 (leaf normal (c5::int i64 c1::c11::c2,c3))) (aj c4 (leaf normal (c5::int i64 l::c11::c2,c3)))))))) (leaf (exit 0) ([c5,int i64 l,c11,c8,int i64 c14,int i64 c6],c3))):=ag
theorem RF {n m i:Nat} {c:Nat->PP} {l:Int} {t:Rat}:cN T yX [] 60 f122 [part ug [1,1,1]] ⟨aD vr (zf n c l m i),[(0,tR t ah)],1⟩=
  some (leaf ret [int i64 (↑m:Int)]):=ag
theorem adT {n:Nat} {c:Nat->PP} {x y:Rat}:bT T IZ [11,25] 60 f60 (aG f60) ⟨aS 0 [gZ n c,.rat x ah,.rat y ah],[],0⟩=
  let c6:Nat:=2^40;let c5:Prop:=ah<2^42;let c4:Int:=(2:Int)^63;let c3:Prop:=0<1;let c2:PP:=c (Int.toNat (0:Int));let c1:Int:=(↑(ep (dG (fun i=>de (aP (c i))) x) n).snd:Int)-(↑(ep (dG (fun i=>de (aP (c i))) y) n).snd:Int);let c8:Int:=c1-1;let c7:Nat×(Nat->Rat):=(c2.fst,fun i=>aU (rat (c2.snd i) ah));some (aj [c3,c3,c5,c5] (fork (decide (iJ x y>=0)) (leaf ret [int i64 0]) (aj [c3,∀(i:Nat),i<n->bB (aP (c i)) (aP (de (aP (c i)))),ah<=ah,n<c6,eA n (fun i=>de (aP (c i))) x,c3,∀(i:Nat),i<n->bB (aP (c i)) (aP (de (aP (c i)))),ah<=ah,n<c6,eA n (fun i=>de (aP (c i))) y,-c4<=c1/\c1<c4] (aj [(0:Int)<=0/\Int.toNat (0:Int)<n,c3,dc (fun i=>rat (c2.snd i) ah) c2.fst ah,ah<=ah,c2.fst<c6,m7 c7 y,c5] (fork (dJ (fQ c7 y)==0) (aj [-c4<=c8/\c8<c4] (leaf ret [int i64 c8])) (leaf ret [int i64 c1])))))):=ag
theorem LV:bK P wW:=gW (aK (IU hT (xF bU) hm XE _ _) gJ)
theorem aee {a:PP} {t:Rat} (hn:a.1<2^40) (hz:m7 a t) (K:Nat):aO P 66 K [aP a,.rat t ah] [] (aJ (.rat (fQ a t) ah) []):=by
 have hW:=dg
 refine X3 (r:=aJ (.rat (fQ a t) ah) []) hT Ik rfl aW rfl (fun _ cx hro hk=>?_) K []
 refine au.Pe hT LV hm (x:=qB) (assign:=Fu) (body:=GF) (g:=9) (p0:=10) (p1:=11) [1,1,0,1] (i:=0) ag ag Ik.dst hro hk DF.enters (abV (s:=ah) (k:=a.2) (n:=a.1) aa) aW aW (by decide) (f1:=[]) (f2:=[]) (f3:=[])
  60 uY Dl (D7 a) (fun _=>rfl) rfl (fun i=>vu t (fu a.1 a.2 t i)) 3 4 (fun _=>IG a) (fun i=>(3,tR (a.2 (a.1-1-i)) ah)::vu t (fu a.1 a.2 t i)) [0,1,2] ⟨_,R4,?_⟩ (fun i hi=>⟨_,Vr,?_⟩) (fun i hi=>⟨_,aaU,?_⟩) ?_
 ·simp only[af.all,az]
  exact⟨trivial,[(0,0),(1,4096),(2,8192)],rfl,rfl,rfl,lF rfl rfl (.inr ⟨rfl,cY rfl aa⟩) (dU (dU trivial))⟩
 ·simp only[af.all,az]
  exact⟨aa,trivial,[(0,0),(1,1),(2,2),(3,3)],rfl,rfl,rfl,dU (dU (dU (dU trivial)))⟩
 ·simp only[af.all,az]
  exact⟨aa,trivial,[(0,0),(1,1),(2,2)],rfl,rfl,rfl,lF rfl rfl (.inr ⟨rfl,ee rfl (hz (i+1) hi)⟩) (dU (dU trivial))⟩
 ·rw[show behind qB [1,1,0,1]=[part qB [1,1,1]]from by kernel_rfl]
  exact(aF.fin hT LV hm 60 U8 ag (by simp only[af.all,az];exact⟨aa,aa,.refl _⟩)).mono fun _ _ h=>.inl h
theorem As:bf P wj 66:=dF fun⟨a,t,_⟩ K hn=>aee hn.1 hn.2 K
theorem Y4 (q:Rat):-1<=dJ q/\dJ q<=1:=by unfold dJ;split<;>(try split)<;>omega
theorem yB {s:Nat->Int} (h:∀i,-1<=s i/\s i<=1):∀i,(-1<=(ep s i).1/\(ep s i).1<=1)/\(ep s i).2<=i
 |0=>⟨⟨show(-1:Int)<=0 by decide,show(0:Int)<=1 by decide⟩,aQ⟩
 |i+1=>by
  have ih:=yB h i
  have hi:=h i
  refine⟨?_,?_⟩
  ·show-1<=(if s i=0 then(ep s i).1 else s i)/\(if s i=0 then(ep s i).1 else s i)<=1
   split
   ·exact ih.1
   ·exact hi
  ·show(if s i*(ep s i).1<0 then(ep s i).2+1 else(ep s i).2)<=i+1
   split<;>omega
theorem yO {c:Nat->PP} {t:Rat} (i:Nat):-1<=dG c t i/\dG c t i<=1:=Y4 _
theorem QZ {a b:Int} (ha:-1<=a/\a<=1) (hb:-1<=b/\b<=1):-1<=a*b/\a*b<=1:=by
 rcases(show a=-1\/a=0\/a=1 by omega)with rfl|rfl|rfl<;>omega
theorem Vb:bK P yX:=gT (aK As gJ)
theorem ada {n:Nat} {c:Nat->PP} {t:Rat} (hn:n<2^40) (hz:eA n c t) (K:Nat):aO P 122 K [gZ n c,.rat t ah] [] (aJ (.int .i64 ((ep (dG c t) n).2:Nat)) []):=by
 have hW:=dg
 refine kg (r:=aJ (.int .i64 ((ep (dG c t) n).2:Nat)) []) hT Vb hm acY rfl aW rfl [1,1,0,1] (i:=0) (y:=part ug [1,1,0,1,0,0]) (z:=part ug [1,1,1]) ag ag ag (f1:=[]) (f2:=[13,23,27]) (f3:=[]) 60 vr 1
  (fun i:Nat=>zf n c (ep (dG c t) i).1 (ep (dG c t) i).2 i) (fun _=>[(0,tR t ah)]) (fun i=>i<=n) (fun i=>i=n) (fun i=>n-i) (fun _=>⟨⟨_,Z0,?_⟩,fun i hi=>⟨_,Xi,?_⟩,fun i hi=>⟨_,RF,?_⟩⟩) K []
 ·simp only[af.all,az]
  exact⟨0,Nat.zero_le _,[(0,0)],rfl,rfl,rfl,dU trivial⟩
 ·obtain⟨h1,h2⟩:=yB (s:=dG c t) yO i
  have h3:=yO (c:=c) (t:=t) i
  have h4:=QZ h3 h1
  have e1:dJ (fQ (c i) t)=dG c t i:=rfl
  have e2:(ep (dG c t) (i+1)).1=if dG c t i=0 then(ep (dG c t) i).1 else dG c t i:=rfl
  have e3:(ep (dG c t) (i+1)).2=if dG c t i*(ep (dG c t) i).1<0 then(ep (dG c t) i).2+1 else(ep (dG c t) i).2:=rfl
  simp only[af.all,az,bz,bE,bu,bne_iff_ne,ne_eq,bne_eq_false_iff_eq]
  show((i:Int)<n->_/\(_/\dc _ _ _/\_/\_/\m7 (c i) t/\_)/\(-2^63<=dG c t i*_/\dG c t i*_<2^63)/\(dG c t i*_<0->_/\(¬dG c t i=0->_)/\(dG c t i=0->_))/\(¬dG c t i*_<0->(¬dG c t i=0->_)/\(dG c t i=0->_)))/\_
  have re:∀{l:Int} {m:Int},l=(ep (dG c t) (i+1)).1->m=((ep (dG c t) (i+1)).2:Nat)->eW [] ([.ptr 0 0 3 0 [],.int .i64 l,.int .i64 m,gZ n c,.int .i64 n,.int .i64 ((i:Int)+1)],[((0:Nat),tR t ah)]) (zf n c (ep (dG c t) (i+1)).1 (ep (dG c t) (i+1)).2 (i+1)) [(0,tR t ah)] 1:=fun {l m} hl hm=>by
   subst hl hm
   exact⟨[(0,0)],rfl,by rw[show(i:Int)+1=((i+1:Nat):Int) by omega];rfl,rfl,dU trivial⟩
  refine⟨fun h=>⟨aa,⟨aa,cZ aQ,aQ,(hz i aa).1,(hz i aa).2,aa⟩,aa,fun h5=>⟨aa,fun h6=>⟨aa,i+1,aa,by dsimp only;omega,re (by rw[e2,if_neg h6];rfl) (by rw[e3,if_pos h5];omega)⟩,fun h6=>⟨aa,i+1,aa,by dsimp only;omega,re (by rw[e2,if_pos h6]) (by rw[e3,if_pos h5];omega)⟩⟩,
   fun h5=>⟨fun h6=>⟨aa,i+1,aa,by dsimp only;omega,re (by rw[e2,if_neg h6];rfl) (by rw[e3,if_neg h5])⟩,fun h6=>⟨aa,i+1,aa,by dsimp only;omega,re (by rw[e2,if_pos h6]) (by rw[e3,if_neg h5])⟩⟩⟩,fun h=>⟨rfl,i,aa,[(0,0)],rfl,rfl,rfl,dU trivial⟩⟩
 ·subst hi;exact .refl _
theorem ab5:bf P J3 122:=dF fun⟨⟨n,c⟩,t,_⟩ K hn=>ada hn.1 hn.2 K
theorem ZV:bK P IZ:=gW (aK ab5 (aK As gJ))
theorem Pq {n:Nat} {c:Nat->PP} {x y:Rat} (h0:0<n) (hn:n<2^40) (hx:eA n c x) (hy:eA n c y) (K:Nat):aO P 60 K [gZ n c,.rat x ah,.rat y ah] [] (aJ (.int .i64 (jG n c x y)) []):=by
 have hW:=dg
 refine bW hT ZV hm abz rfl aW rfl 60 adT (fun _=>?_) K []
 have hbx:=(yB (s:=dG c x) yO n).2
 have hby:=(yB (s:=dG c y) yO n).2
 simp only[af.all,az,RM,bz,bE,rM]
 show _/\(x>=y->_)/\(¬x>=y->(_/\(∀i,i<n->bB (aP (c i)) (aP (c i)))/\_/\_/\eA n c x/\_/\_/\_/\_/\eA n c y/\(-2^63<=((ep (dG c x) n).2:Int)-((ep (dG c y) n).2:Int)/\((ep (dG c x) n).2:Int)-((ep (dG c y) n).2:Int)<2^63))/\(_/\_/\_/\_/\_/\m7 (c 0) y/\_)/\(fQ (c 0) y=0->_)/\(¬fQ (c 0) y=0->_))
 refine⟨aa,fun h=>?_,fun h=>⟨⟨aa,fun i _=>.refl _,aQ,hn,hx,aa,fun i _=>.refl _,aQ,hn,hy,aa⟩,⟨aa,aa,cZ aQ,aQ,(hy 0 h0).1,(hy 0 h0).2,aa⟩,fun h2=>⟨?_,?_⟩,fun h2=>?_⟩⟩
 ·exact bQ (if_pos h).symm
 ·show-2^63<=((ep (dG c x) n).2:Int)-((ep (dG c y) n).2:Int)-1/\((ep (dG c x) n).2:Int)-((ep (dG c y) n).2:Int)-1<2^63
  omega
 ·exact bQ (by unfold jG;rw[if_neg h,if_pos h2];rfl)
 ·exact bQ (by unfold jG;rw[if_neg h,if_neg h2,Int.sub_zero];rfl)
def Ac:Spec:=dL (kC tQ (kC (gb ah) (kC (gb ah) kN))) (fun a=>.int .i64 (jG a.1.1 a.1.2 a.2.1 a.2.2.1)) fun a=>[0<a.1.1,a.1.1<2^40,eA a.1.1 a.1.2 a.2.1,eA a.1.1 a.1.2 a.2.2.1]
theorem B5:bf P Ac 60:=dF fun⟨⟨n,c⟩,x,y,_⟩ K hn=>Pq hn.1 hn.2.1 hn.2.2.1 hn.2.2.2 K
def aC (p:PP):PP:=(bO (fy p.1 p.2) p.1,fy p.1 p.2)
def fF (a:PP):PP:=(fP a.1,mJ a.1 a.2)
def ej (p:PP):Prop:=1<=p.1/\p.1<=41/\qn p.1 p.2
def jq (a:PP):Prop:=a.1<=41/\iT a.1 a.2
abbrev aR (a:PP):Prop:=dc (fun i=>.rat (a.2 i) ah) a.1 ah
def Jz:PP:=(0,fun _=>0)
def zE (n:Nat):Int:=if n=0 then 3 else 0
def uE:Spec:=dL (kC (kL ah) kN) (fun a=>aP (aC a.1)) fun a=>[ej a.1]
def JW:Spec:=dL (kC (kL ah) kN) (fun a=>aP (fF a.1)) fun a=>[jq a.1]
def Gl:Spec:=dL (kC (kL ah) (kC (kL ah) kN)) (fun a=>.tuple [aP (gD a.1 a.2.1),aP (dP a.1 a.2.1)]) fun a=>[a.1.1<2^30,1<=a.2.1.1,a.2.1.1<2^30,Trim a.1,Trim a.2.1,nD a.1 a.2.1]
def Dy (a:PP):Prop:=a.1<2^30/\Trim a/\cu (a.1-1) (dx a.2)/\uG a
def pM (a:PP):Prop:=Dy a/\cu ((dA a).1-1) (dx (dA a).2)/\AS (ia a)
def Gy:Spec:=dL (kC (kL ah) kN) (fun a=>aP (dA a.1)) fun a=>[Dy a.1]
def dz (a:PP) (i:Nat):PP:=(ct (ia a) i).1
def dm (a:PP):Nat:=gQ (ia a)+1
def AW:Spec:=dL (kC (kL ah) kN) (fun a=>gZ (dm a.1) (dz a.1)) fun a=>[pM a.1]
def AR:bg:=zG::(57,uE)::(88,Gl)::(81,JW)::(80,Gy)::(72,yN)::(59,AW)::(60,Ac)::gA
def jL (p q:PP):PP:=if(aC q).1=0 then Jz else fF (gD (aC p) (aC q))
def gu (p q:PP):PP:=if(aC q).1=0 then Jz else fF (dP (aC p) (aC q))
def mS (p q:PP):Prop:=(aC q).1≠0->nD (aC p) (aC q)/\jq (gD (aC p) (aC q))/\jq (dP (aC p) (aC q))
def lI (p q:PP):PP:=fF (cG (aC p) (aC q))
def nU (p:PP) (a b:Rat):Int:=if(aC p).1=0 then 3 else if a>b then 7 else 0
def s7 (p:PP) (a b:Rat):Int:=if nU p a b=0 then jG (dm (aC p)) (dz (aC p)) a b else 0
theorem Za:aX 29 f29:=aY func29
theorem abv:aX 35 f35:=aY func35
theorem abE:aX 16 f16:=aY func16
theorem NO {p q:PP}:bT T AR [14] 60 f29 (aG f29) ⟨aS 0 [aP p,aP q],[],0⟩=
  some (aj [aR q,ej q] (fork (((aC q).1:Int)==0) (leaf ret [nil,nil,int i64 3]) (aj [aR p,ej p,aR (aC p),aR (aC q),(aC p).1<2^30,1<=(aC q).1,(aC q).1<2^30,Trim (aC p),Trim (aC q),nD (aC p) (aC q)] (aj [aR (gD (aC p) (aC q)),jq (gD (aC p) (aC q)),aR (dP (aC p) (aC q)),jq (dP (aC p) (aC q))] (leaf ret [aP (fF (gD (aC p) (aC q))),aP (fF (dP (aC p) (aC q))),int i64 0]))))):=ag
theorem WR {p q:PP}:bT T AR [] 60 f35 (aG f35) ⟨aS 0 [aP p,aP q],[],0⟩=
  some (aj [aR p,ej p,aR q,ej q,aR (aC p),aR (aC q),(aC p).1<2^30,(aC q).1<2^30,Trim (aC p),Trim (aC q),j9 (aC p,aC q),aR (cG (aC p) (aC q)),jq (cG (aC p) (aC q))] (leaf ret [aP (lI p q)])):=ag
theorem Zr {p:PP} {a b:Rat}:bT T AR [11,15] 60 f16 (aG f16) ⟨aS 0 [aP p,.rat a ah,.rat b ah],[],0⟩=
  some (aj [aR p,ej p] (fork (((aC p).1:Int)==0) (leaf ret [int i64 0,int i64 3]) (aj [(0:Nat)<1,(0:Nat)<1,ah<2^42,ah<2^42] (fork (decide (iJ a b>0)) (leaf ret [int i64 0,int i64 7]) (aj [aR (aC p),pM (aC p),(0:Nat)<1,(0:Nat)<1,∀i,i<dm (aC p)->bB (aP (dz (aC p) i)) (aP (dz (aC p) i)),ah<=ah,ah<=ah,0<dm (aC p),dm (aC p)<2^40,eA (dm (aC p)) (dz (aC p)) a,eA (dm (aC p)) (dz (aC p)) b] (leaf ret [int i64 (jG (dm (aC p)) (dz (aC p)) a b),int i64 0])))))):=ag
theorem K6:bf P uE 57:=dF fun⟨a,_⟩ K hn=>abw hn.1 hn.2.1 hn.2.2 K
theorem X0:bf P JW 81:=dF fun⟨a,_⟩ K hn=>XM hn.1 hn.2 K
theorem Xp:bf P Gl 88:=dF fun⟨⟨n,a⟩,⟨m,d⟩,_⟩ K hn=>by
 obtain⟨h1,h2,h3,h4,h5,h6⟩:=hn
 simp only at h1 h2 h3
 obtain⟨e,rfl⟩:∃e,m=e+1:=⟨m-1,aa⟩
 have hd:d e≠0:=h5.resolve_left (Nat.succ_ne_zero e)
 cases n with
 |zero=>exact Jv aa K
 |succ n=>exact JH h1 aa (h4.resolve_left (Nat.succ_ne_zero n)) hd h6 K
theorem Rl:bf P Gy 80:=dF fun⟨a,_⟩ K hn=>IE hn.1 hn.2.1 hn.2.2.1 hn.2.2.2 K
theorem Lz:bf P AW 59:=dF fun⟨a,_⟩ K hn=>WV hn.1.1 hn.1.2.1 hn.1.2.2.1 hn.1.2.2.2 hn.2.1 hn.2.2 K
theorem Dj:bK P AR:=gT (aK K6 (aK Xp (aK X0 (aK Rl (aK D3 (aK Lz (aK B5 gJ)))))))
theorem of_le {p:PP} (h:ej p):(aC p).1<=41:=Nat.le_trans eP h.2.1
theorem yA {p:PP}:Trim (aC p):=lJ
theorem cR {a:PP}:aR a:=cZ aQ
theorem F6 {f:Nat->Rat} {n:Nat} (h:n=0):bB .nil (aZ f n ah):=by subst h;exact lQ aa
theorem NJ {p q:PP} (hp:ej p) (hq:ej q) (hz:mS p q) (K:Nat):aO P 29 K [aP p,aP q] [] (aJ (.tuple [aP (jL p q),aP (gu p q),.int .i64 (zE (aC q).1)]) []):=by
 refine bW hT Dj hm Za rfl aW rfl 60 NO (fun _=>?_) K []
 have h1:=of_le hp
 have h2:=of_le hq
 simp only[af.all,az,beq_iff_eq,beq_eq_false_iff_ne]
 refine⟨⟨cR,hq⟩,fun h=>?_,fun h=>?_⟩
 ·have h0:(aC q).1=0:=aa
  refine⟨F6 ?_,F6 ?_,bQ (if_pos h0).symm,trivial⟩
  ·unfold jL;rw[if_pos h0];rfl
  ·unfold gu;rw[if_pos h0];rfl
 ·have h0:¬(aC q).1=0:=aa
  obtain⟨z1,z2,z3⟩:=hz h0
  refine⟨⟨cR,hp,cR,cR,aa,aa,aa,yA,yA,z1⟩,⟨cR,z2,cR,z3⟩,?_⟩
  unfold jL gu
  rw[if_neg h0,if_neg h0]
  exact⟨.refl _,.refl _,bQ (if_neg h0).symm,trivial⟩
theorem adn {p q:PP} (hp:ej p) (hq:ej q) (hz:j9 (aC p,aC q)) (hy:jq (cG (aC p) (aC q))) (K:Nat):aO P 35 K [aP p,aP q] [] (aJ (aP (lI p q)) []):=by
 refine bW hT Dj hm abv rfl aW rfl 60 WR (fun _=>?_) K []
 have h1:=of_le hp
 have h2:=of_le hq
 simp only[af.all,az]
 exact⟨⟨cR,hp,cR,hq,cR,cR,aa,aa,yA,yA,hz,cR,hy⟩,.refl _⟩
def ya (p:PP) (a b:Rat):Prop:=ej p/\((aC p).1≠0->pM (aC p)/\dm (aC p)<2^40/\eA (dm (aC p)) (dz (aC p)) a/\eA (dm (aC p)) (dz (aC p)) b)
theorem XR {p:PP} {a b:Rat} (hz:ya p a b) (K:Nat):aO P 16 K [aP p,.rat a ah,.rat b ah] [] (aJ (.tuple [.int .i64 (s7 p a b),.int .i64 (nU p a b)]) []):=by
 obtain⟨hp,hz⟩:=hz
 have hW:=dg
 refine bW hT Dj hm abE rfl aW rfl 60 Zr (fun _=>?_) K []
 have hgt:∀{x y:Rat},iJ x y>0↔x>y:=FR
 simp only[af.all,az,beq_iff_eq,beq_eq_false_iff_ne,bz,bE,hgt]
 refine⟨⟨cR,hp⟩,fun h=>?_,fun h=>⟨aa,fun h2=>?_,fun h2=>?_⟩⟩
 ·have h0:(aC p).1=0:=aa
  have e1:nU p a b=3:=if_pos h0
  exact⟨bQ (by unfold s7;rw[e1];rfl),bQ e1.symm,trivial⟩
 ·have h0:¬(aC p).1=0:=aa
  have e1:nU p a b=7:=by unfold nU;rw[if_neg h0,if_pos h2]
  exact⟨bQ (by unfold s7;rw[e1];rfl),bQ e1.symm,trivial⟩
 ·have h0:¬(aC p).1=0:=aa
  have e1:nU p a b=0:=by unfold nU;rw[if_neg h0,if_neg h2]
  obtain⟨z1,z2,z3,z4⟩:=hz h0
  exact⟨⟨cR,z1,aa,aa,fun i _=>.refl _,aQ,aQ,Nat.succ_pos _,z2,z3,z4⟩,bQ (by unfold s7;rw[if_pos e1]),bQ e1.symm,trivial⟩
def qy:bg:=zG::ki
def AI:bg:=zG::(46,wZ)::ki
abbrev uM:Code:=aG f91
abbrev xb:List Nat:=[0,1,4,5,6]
abbrev EN (n k i:Nat):List AV:=[.int .i64 n,.int .i64 k,.ptr 0 0 3 0 [],.ptr 1 0 3 0 [],.int .i64 i]
abbrev B6 (x:Rat):aE:=[(1,tR x 64),(0,tR 0 1)]
def Ao:Spec:=bR fun l=>match l with
 |[.int .i64 n,.int .i64 k]=>some (aJ (.rat ((bn n.toNat k.toNat:Int):Rat) 64) [0<=k,k<=n,n<=40])
 |_=>none
def qh:bg:=zG::(91,Ao)::ki
abbrev uZ:Code:=aG f123
abbrev vI:Code:=part uZ [1,1,1,1,0,1,0,0]
abbrev wE:Code:=part vI [1,0,0]
abbrev qP:List Nat:=[3,4,5,6]
abbrev yH (m k:Nat):List AV:=[.int .i64 m,.own 0 3 0 (m+1-k),.own 1 3 0 k,.int .i64 k]
abbrev v7:List Nat:=[3,4,5,6,7]
abbrev Bg (m k i:Nat):List AV:=[.int .i64 m,.own 0 3 0 (m+1-k),.own 1 3 0 (k+1),.int .i64 k,.int .i64 i]
def yP:bg:=zG::(123,zB)::ki
abbrev vS:Code:=aG f61
theorem PN:aX 91 f91:=aY func91
theorem Jh:aX 123 f123:=aY func123
theorem Wg:aX 61 f61:=aY func61
theorem NA {n k:Nat}:aH T AI [] 60 xb (before uM [1,1,0,1]) ⟨aS 0 [.int .i64 n,.int .i64 k],[],0⟩=
  let c1:AV:=rat 0 1;some (aj [-(2:Int)^63<=(1:Int),(1:Int)<2^63,(0:Nat)<1] (leaf normal ([int i64 (↑n:Int),int i64 (↑k:Int),ptr 0 0 3 0 [],ptr 8192 0 3 0 [],int i64 0],[((8192:Nat),g8 fun j=>if(j==0)=true then eC (rat (↑(1:Int):Rat) (Max.max 1 (bI (Int.natAbs (1:Int)))))else c1),((0:Nat),g8 fun x=>c1)]))):=ag
theorem RN {n k i:Nat} {x:Rat}:aH T AI [10] 60 xb [part uM [1,1,0,1,0,0]] ⟨aD xb (EN n k i),B6 x,2⟩=
  let c9:Int:=(↑k:Int);let c8:Int:=(↑i:Int);let c7:Prop:=64<2^41;let c6:AV:=ptr 1 0 3 0 [];let c5:AV:=ptr 0 0 3 0 [];let c4:Nat×ay:=((0:Nat),g8 fun x=>rat 0 1);let c1:Int:=(2:Int)^63;let c3:Int:=(↑n:Int)-c8;let c2:Int:=c8+1;some (fork (decide (c8<c9)) (aj [(0:Nat)<1,-c1<=c3/\c3<c1,-c1<=c2/\c2<c1,-c1<=c3,c3<c1,-c1<=c2,c2<c1,c7,c7,(0:Nat)<1] (aj [-c1<=c2/\c2<c1] (leaf normal ([int i64 (↑n:Int),int i64 c9,c5,c6,int i64 c2],[((1:Nat),g8 fun j=>if(j==0)=true then eC (CF (x,(64:Nat)) ((↑c3:Rat)/(↑c2:Rat),(64:Nat)))else rat x 64),c4])))) (leaf (exit 0) ([int i64 (↑n:Int),int i64 c9,c5,c6,int i64 c8],[((1:Nat),g8 fun x_1=>rat x 64),c4]))):=ag
theorem Zs {n k i:Nat} {x:Rat}:cN T AI [] 60 f91 [part uM [1,1,1]] ⟨aD xb (EN n k i),B6 x,2⟩=
  let c1:Prop:=0<1;some (aj [c1,c1] (aj [c1] (leaf ret [rat x 64]))):=ag
theorem ace {m:Nat} {p:Nat->Rat}:aH T qh [] 60 qP (before uZ [1,1,1,1,0,1]) ⟨aS 0 [aZ p (m+1) ah],[],0⟩=
  let c2:Nat:=0+(m+1);let c1:Int:=(↑(m+1):Int)-1;some (aj [-(2:Int)^63<=c1/\c1<2^63] (aj [(0:Nat)*3<=2^24,c2*((56:Nat)+1)*2<=2^47] (leaf normal ([int i64 c1,own 28672 3 0 c2,nil,int i64 0],[(28672,ay.mk true true 3 c2 fun i=>rat (p (i-0)) ah)])))):=ag
theorem XH {m k:Nat} {d x:Nat->Rat}:aH T qh [16] 60 qP (before vI [1,0]) ⟨aD qP (yH m k),kF m d x k,2⟩=
  let c1:List AV×aE:=([int i64 (↑m:Int),own 0 3 0 (m+1-k),own 1 3 0 k,int i64 (↑k:Int)],[(1,ay.mk true true 3 k fun i=>rat (x i) ah),(0,ay.mk true true 3 (m+1) fun i=>rat (d i) ah)]);some (fork (decide ((↑k:Int)<=(↑m:Int))) (leaf normal c1) (leaf (exit 0) c1)):=ag
theorem acT {m k:Nat} {d x:Nat->Rat}:aH T qh [] 60 v7 (before wE [1,0,1]) ⟨aD qP (yH m k),kF m d x k,2⟩=
  let c4:Int:=(↑m:Int);let c3:Int:=(↑k:Int);let c2:Nat:=m+1;let c1:Nat:=Int.toNat (0:Int);some (aj [(0:Int)<=c3,c3<=c4,c4<=40,(0:Int)<=0/\c1<c2-k,c1+0<c2,(64:Nat)<2^41,ah<2^41,(1:Nat)*3<=2^24,(k+1)*((56:Nat)+1)*2<=2^47] (leaf normal ([int i64 c4,own 0 3 0 (c2-k),own 36866 3 0 (k+1),int i64 c3,int i64 0],[(36866,ay.mk true true 3 (k+1) fun i=>if i<k then rat (x i) ah else nth [rat ((↑(↑(bn c4.toNat c3.toNat):Int):Rat)*d (c1+0)) ((64:Nat)+ah)] (rat 0 1) (i-k+0)),(0,ay.mk true true 3 c2 fun i=>rat (d i) ah)]))):=ag
theorem SH {m k i:Nat} {d x:Nat->Rat}:aH T qh [33] 60 v7 [part wE [1,0,1,0,0]] ⟨aD v7 (Bg m k i),kF m d x (k+1),2⟩=
  let c10:Prop:=ah<2^41;let c9:Int:=(↑i:Int);let c6:AV:=own 1 3 0 (k+1);let c5:Nat×ay:=(1,ay.mk true true 3 (k+1) fun i=>rat (x i) ah);let c2:Nat:=m+1;let c8:AV:=own 0 3 0 (c2-k);let c7:Prop:=(0:Int)<=c9/\c9.toNat<c2-k;let c4:Nat:=c9.toNat+0;let c1:Int:=c9+1;let c3:Prop:=-(2:Int)^63<=c1/\c1<2^63;some (aj [c3] (fork (decide (c1<(↑(c2-k):Int))) (aj [c3,(0:Int)<=c1/\c1.toNat<c2-k,c1.toNat+0<c2,c7,c4<c2,c10,c10,c7,c4<c2] (aj [c3] (leaf normal ([int i64 (↑m:Int),c8,c6,int i64 (↑k:Int),int i64 c1],[c5,(0,ay.mk true true 3 c2 fun j=>rat (bif j==c4 then d (c1.toNat+0)-d c4 else d j) (bif j==c4 then ah+ah+1 else ah))])))) (leaf (exit 2) ([int i64 (↑m:Int),c8,c6,int i64 (↑k:Int),int i64 c9],[c5,(0,ay.mk true true 3 c2 fun i=>rat (d i) ah)])))):=ag
theorem Pt {m k i:Nat} {d x:Nat->Rat}:aH T qh [] 60 qP (behind wE [1,0,1]++[part vI [1,1]]) ⟨aD v7 (Bg m k i),kF m d x (k+1),2⟩=
  let c4:Int:=(↑(m+1-k):Int);let c3:Int:=(↑k:Int)+1;let c2:Int:=(2:Int)^63;let c1:Int:=c4-1;some (aj [-c2<=c1/\c1<c2,(0:Int)<=0/\(0:Int)<=c1/\c1<=c1/\c1<=c4] (aj [-c2<=c3/\c3<c2] (leaf normal ([int i64 (↑m:Int),own 0 3 0 (c1.toNat-Int.toNat (0:Int)),own 1 3 0 (k+1),int i64 c3],[(1,ay.mk true true 3 (k+1) fun i=>rat (x i) ah),(0,ay.mk true true 3 (m+1) fun i=>rat (d i) ah)])))):=ag
theorem VQ {m k:Nat} {d x:Nat->Rat}:cN T qh [] 60 f123 [part uZ [1,1,1,1,1]] ⟨aD qP (yH m k),kF m d x k,2⟩=
  some (leaf ret [ak 3 k fun i=>rat (x (i+0)) ah]):=ag
theorem Tx {n:Nat} {p:Nat->Rat}:aH T yP [] 60 [3] (before vS [1,1,0]) ⟨aS 0 [aZ p n ah],[],0⟩=
  some (aj [dc (fun i=>rat (p i) ah) n ah,(1:Nat)<=n,n<=41,qn n fun i=>aU (rat (p i) ah)] (leaf normal ([ak 3 n fun i=>rat (fy n (fun i=>aU (rat (p i) ah)) i) ah],[]))):=ag
theorem Wo {n:Nat} {k:Nat->Rat}:aH T yP [9,18] 60 [3] [part vS [1,1,0,0,0]] ⟨aD [3] [aZ k n ah],[],0⟩=
  let c6:Int:=(↑n:Int);let c4:Int:=(2:Int)^63;let c3:af (List AV×aE):=leaf (exit 0) ([ak 3 n fun i=>rat (k i) ah],[]);let c5:Bool:=decide (c6>0);let c2:Int:=c6-1;let c1:af (List AV×aE):=aj [-c4<=c2/\c2<c4,(0:Int)<=0/\(0:Int)<=c2/\c2<=c2/\c2<=c6] (leaf normal ([ak 3 (c2.toNat-Int.toNat (0:Int)) fun i=>rat (k (i+Int.toNat (0:Int))) ah],[]));some (fork c5 (aj [c5=true,-c4<=c2/\c2<c4,(0:Int)<=c2/\c2.toNat<n,ah<2^41] (fork (bif true then dJ (k c2.toNat)==0 else false) c1 c3)) (aj [c5=false] (fork false c1 c3))):=ag
theorem abn {n:Nat} {k:Nat->Rat}:cN T yP [] 60 f61 [part vS [1,1,1]] ⟨aD [3] [aZ k n ah],[],0⟩=
  some (leaf ret [ak 3 n fun i=>rat (k i) ah]):=ag
theorem J1:bK P qy:=gT kO
theorem N3:bK P AI:=gT (aK Al kO)
theorem Wu {n i:Nat} (h:i<n):((bn n i:Int):Rat)*((((n:Int)-(i:Int):Int):Rat)/(((i:Int)+1:Int):Rat))=((bn n (i+1):Int):Rat):=by
 have h1:=uT n i
 have h2:(((i:Int)+1:Int):Rat)≠0:=by
  intro h0
  have:((i:Int)+1:Int)=0:=by exact_mod_cast h0
  omega
 have h3:((bn n (i+1):Int):Rat)*(((i:Int)+1:Int):Rat)=((bn n i:Int):Rat)*(((n:Int)-(i:Int):Int):Rat):=by
  rw[<-Rat.intCast_mul,<-Rat.intCast_mul]
  congr 1
  have:((bn n (i+1)*(i+1):Nat):Int)=((bn n i*(n-i):Nat):Int):=by rw[Nat.mul_comm,h1,Nat.mul_comm]
  rw[Int.natCast_mul,Int.natCast_mul,Int.natCast_sub aa]at this
  exact this
 rw[Rat.div_def,<-Rat.mul_assoc,<-h3,Rat.mul_assoc,Rat.mul_inv_cancel _ h2,Rat.mul_one]
theorem Rx {n k:Nat} (hk0:k<=n) (hn:n<=40) (K:Nat):aO P 91 K [.int .i64 n,.int .i64 k] [] (aJ (.rat ((bn n k:Int):Rat) 64) []):=by
 refine kg (r:=aJ (.rat ((bn n k:Int):Rat) 64) []) hT N3 hm PN rfl aW rfl [1,1,0,1] (i:=0) (y:=part uM [1,1,0,1,0,0]) (z:=part uM [1,1,1]) ag ag ag (f1:=[]) (f2:=[10]) (f3:=[]) 60 xb 2
  (fun i:Nat=>EN n k i) (fun i=>B6 ((bn n i:Int):Rat)) (fun i=>i<=k) (fun i=>i=k) (fun i=>k-i) (fun _=>⟨⟨_,NA,?_⟩,fun i hi=>⟨_,RN,?_⟩,fun i hi=>⟨_,Zs,?_⟩⟩) K []
 ·simp only[af.all,az]
  exact⟨⟨aa,aa,aa⟩,0,Nat.zero_le _,[(0,0),(1,8192)],rfl,rfl,rfl,lF rfl rfl (.inr ⟨rfl,cY (by rw[oH];rfl) (by decide)⟩) (dU trivial)⟩
 ·have h1:=zj (n:=n) (k:=i+1) hn
  simp only[af.all,az,bz,bE]
  refine⟨fun h=>⟨⟨aa,aa,aa,aa,aa,aa,aa,aa,aa,aa⟩,aa,i+1,aa,by dsimp only;omega,[(0,0),(1,1)],rfl,by rw[show(i:Int)+1=((i+1:Nat):Int) by omega];rfl,rfl,lF rfl rfl (.inr ⟨rfl,ee (Wu aa) (zX (y:=0) aa aa)⟩) (dU trivial)⟩,fun h=>⟨rfl,i,aa,[(0,0),(1,1)],rfl,rfl,rfl,dU (dU trivial)⟩⟩
 ·subst hi
  simp only[af.all,az]
  exact⟨⟨aa,aa⟩,aa,.refl _⟩
theorem D9:bf P Ao 91:=by
 refine cE fun K args r hk hs _=>?_
 split at hs
 ·rename_i n k
  simp only[ax]at hs
  subst hs
  intro hn
  have h1:0<=k:=hn.1
  have h2:k<=n:=hn.2.1
  have h3:n<=40:=hn.2.2
  have:=Rx (n:=n.toNat) (k:=k.toNat) aa aa K
  rw[Int.toNat_of_nonneg h1,Int.toNat_of_nonneg aa]at this
  exact this trivial
 ·simp at hs
theorem GJ:bK P qh:=gT (aK D9 kO)
theorem aaS {m:Nat} {p:Nat->Rat} (hm1:m<=40) (hz:qn (m+1) p) (K:Nat):aO P 123 K [aZ p (m+1) ah] [] (aJ (aZ (fy (m+1) p) (m+1) ah) []):=by
 refine ij (r:=aJ (aZ (fy (m+1) p) (m+1) ah) []) hT Jh rfl aW rfl (fun _ cx h0=>?_) K []
 have hk:=mO h0
 have hW:=dg
 have hd:∀k i,k+i<=m->Sz (dH p k i) ah:=fun k i h=>hz.1 k i aa
 refine au.qJ hT GJ hm (x:=uZ) [1,1,1,1,0,1] (i:=0) (y:=vI) (z:=part uZ [1,1,1,1,1]) ag ag ag Jh.dst [1,0] (j:=1) (x1:=wE) (zb:=part vI [1,1]) ag ag ag [1,0,1] (i2:=2) (y2:=part wE [1,0,1,0,0]) ag ag rfl hk
  (f1:=[]) (f2:=[16]) (f3:=[]) (f4:=[33]) (f5:=[]) 60 qP v7 2 2 (fun k:Nat=>yH m k) (fun k=>kF m (jP m p k) (fy (m+1) p) k) (fun k=>k<=m+1) (fun k=>k=m+1) (fun k=>m+1-k) (fun k=>k<m+1) (fun _=>False) (fun _=>False)
  (fun k (i:Nat)=>Bg m k i) (fun k i=>kF m (iu m p k i) (fy (m+1) p) (k+1)) (fun k i=>i<=m-k) (fun k i=>i=m-k) (fun k i=>m-k-i)
  ⟨_,ace,?_⟩ (fun k hk=>⟨_,XH,?_⟩) (fun k hk hG=>⟨_,acT,?_⟩) (fun k hk hG i hi=>⟨_,SH,?_⟩) (fun k hk hG i hi=>⟨_,Pt,?_⟩) (fun k hk=>?_) (fun _ _ h=>h.elim) (fun _ _ h=>h.elim)
 ·simp only[af.all,az]
  refine⟨aa,aa,0,aa,[(0,28672)],rfl,?_,rfl,rG rfl aa aa (bw rfl rfl aa (fun i hi=>bP rfl ?_) trivial)⟩
  ·rw[show((m+1:Nat):Int)-1=(m:Nat) by omega,show 0+(m+1)=m+1-0 by omega];rfl
  ·show AV.rat (p i) ah=AV.rat (jP m p 0 i) ah
   unfold jP;rw[Nat.zero_min];rfl
 ·simp only[af.all,az,bz,bE]
  exact⟨fun h=>⟨aa,[(0,0),(1,1)],rfl,rfl,rfl,bw rfl rfl rfl (fun i hi=>bP rfl rfl) (bw rfl rfl rfl (fun i hi=>bP rfl rfl) trivial)⟩,fun h=>⟨rfl,k,aa,[(0,0),(1,1)],rfl,rfl,rfl,bw rfl rfl rfl (fun i hi=>bP rfl rfl) (bw rfl rfl rfl (fun i hi=>bP rfl rfl) trivial)⟩⟩
 ·simp only[af.all,az,bu]
  have e0:(0:Int).toNat=0:=rfl
  refine⟨aa,0,aa,[(0,0),(1,36866)],rfl,rfl,rfl,bw rfl rfl rfl (fun i hi=>?_) (bw rfl rfl rfl (fun i hi=>bP rfl ?_) trivial)⟩
  ·refine .inr ⟨?_,?_⟩
   ·split
    ·rfl
    ·rw[show i-k+0=0 by omega];rfl
   ·split
    ·exact .refl _
    ·rw[show i-k+0=0 by omega,show i=k by omega]
     exact ee (by rw[AM aa];rfl) (hz.2 k hG)
  ·show AV.rat (jP m p k i) ah=AV.rat (iu m p k 0 i) ah
   unfold iu;rw[if_neg (Nat.not_lt_zero i)]
 ·simp only[af.all,az,bz,bE,bu,Nat.add_zero]
  have e1:((i:Int)+1).toNat=i+1:=aa
  rw[e1]
  refine⟨aa,fun h=>⟨aa,aa,i+1,aa,by dsimp only;omega,[(0,0),(1,1)],rfl,rfl,rfl,bw rfl rfl rfl (fun j hj=>bP rfl rfl) (bw rfl rfl rfl (fun j hj=>?_) trivial)⟩,fun h=>⟨rfl,i,aa,[(0,0),(1,1)],rfl,rfl,rfl,bw rfl rfl rfl (fun j hj=>bP rfl rfl) (bw rfl rfl rfl (fun j hj=>bP rfl rfl) trivial)⟩⟩
  have h3:=fun j=>E3 (m:=m) (k:=k) (i:=i) (j:=j) (p:=p) aa
  exact lf (x:=iu m p k i) (y:=iu m p k (i+1)) (ee ((if_pos rfl).symm.trans (h3 i)) (by unfold iu;rw[if_pos (Nat.lt_succ_self i)];exact hd _ _ aa)) fun hj=>cY ((if_neg hj).symm.trans (h3 j)) aQ
 ·subst hi
  simp only[af.all,az]
  refine⟨aa,aa,k+1,aa,by dsimp only;omega,[(0,0),(1,1)],rfl,?_,rfl,bw rfl rfl rfl (fun j hj=>bP rfl rfl) (bw rfl rfl rfl (fun j hj=>bP rfl ?_) trivial)⟩
  ·rw[show(((m+1-k:Nat):Int)-1).toNat-(0:Int).toNat=m+1-(k+1) by omega];rfl
  ·show AV.rat (iu m p k (m-k) j) ah=AV.rat (jP m p (k+1) j) ah
   rw[MP]
 ·subst hk
  exact au.lU ((aF.fin hT GJ hm 60 VQ ag (gi fun _ _=>.refl _)).mono fun _ _ h=>.inl h)
theorem SP:bf P zB 123:=dF fun⟨⟨n,p⟩,_⟩ K hn=>by
 obtain⟨h1,h2,h3⟩:=hn
 simp only at h1 h2 h3
 obtain⟨m,rfl⟩:∃m,n=m+1:=⟨n-1,aa⟩
 exact aaS aa h3 K
theorem aam:bK P yP:=gT (aK SP kO)
theorem aaC {p:PP} (hp:ej p) (K:Nat):aO P 61 K [aP p] [] (aJ (aP (aC p)) []):=by
 have hW:=dg
 obtain⟨n,hn⟩:∃n,n=p.1:=⟨_,rfl⟩
 obtain⟨k,hk⟩:∃k,k=fy p.1 p.2:=⟨_,rfl⟩
 have e0:aC p=(bO k n,k):=by rw[hk,hn];rfl
 have h2:=hp.2.1
 rw[e0]
 refine kg (r:=aJ (aP (bO k n,k)) []) hT aam hm Wg rfl aW rfl [1,1,0] (i:=0) (y:=part vS [1,1,0,0,0]) (z:=part vS [1,1,1]) ag ag ag (f1:=[]) (f2:=[9,18]) (f3:=[]) 60 [3] 0
  (fun j:Nat=>[aZ k j ah]) (fun _=>[]) (fun j=>j<=n/\bO k j=bO k n) (fun j=>j=bO k n) (fun j=>j) (fun _=>⟨⟨_,Tx,?_⟩,fun j hj=>⟨_,Wo,?_⟩,fun j hj=>⟨_,abn,?_⟩⟩) K []
 ·simp only[af.all,az]
  exact⟨⟨cZ aQ,hp.1,hp.2.1,hp.2.2⟩,n,⟨aQ,rfl⟩,by rw[hk,hn];exact eW.vals rfl⟩
 ·obtain⟨h1,h2⟩:=hj
  simp only[af.all,az,cond_true,rM,bz,bE]
  refine⟨fun h=>⟨⟨aa,aa,aa,aa⟩,fun h3=>⟨aa,j-1,⟨aa,?_⟩,by dsimp only;omega,?_⟩,fun h3=>⟨rfl,j,?_,eW.vals rfl⟩⟩,fun h=>⟨aa,fun h3=>absurd h3 (by decide),fun _=>⟨rfl,j,?_,eW.vals rfl⟩⟩⟩
  ·rw[<-h2]
   obtain⟨m,rfl⟩:∃m,j=m+1:=⟨j-1,aa⟩
   rw[show(((m+1:Nat):Int)-1).toNat=m by omega]at h3
   show bO k m=_
   rw[bO,if_pos h3]
  ·rw[show((j:Int)-1).toNat-(0:Int).toNat=j-1 by omega]
   exact eW.vals rfl
  ·rw[<-h2]
   obtain⟨m,rfl⟩:∃m,j=m+1:=⟨j-1,aa⟩
   rw[show(((m+1:Nat):Int)-1).toNat=m by omega]at h3
   exact(vc (.inr h3)).symm
  ·rw[<-h2,show j=0 by omega];rfl
 ·rw[hj];exact .refl _
theorem acH:bf P uE 61:=dF fun⟨a,_⟩ K hn=>aaC hn K
def rj:bg:=zG::(91,Ao)::(93,jm kR kR LL pz)::ki
abbrev wB:Code:=aG f96
abbrev uz:Code:=part wB [1,1,1,1,0,1,0,0]
abbrev vX:Code:=part uz [1,0,0]
abbrev qv:List Nat:=[0,4,5,6]
abbrev zo (m:Nat) (c:Nat->Rat) (i:Nat):List AV:=[aZ c (m+1) ah,.int .i64 m,.own 0 3 0 i,.int .i64 i]
abbrev um:List Nat:=[0,4,5,6,7,8]
abbrev Df (m:Nat) (c:Nat->Rat) (i k:Nat):List AV:=[aZ c (m+1) ah,.int .i64 m,.own 0 3 0 i,.int .i64 i,.ptr 1 0 3 0 [],.int .i64 k]
def Cn:Spec:=dL (kC (kL ah) kN) (fun a=>.tuple [aZ (ec a.1.1 a.1.2) a.1.1 ah,.int .i64 0]) fun a=>[1<=a.1.1,a.1.1<=41,iT a.1.1 a.1.2]
theorem MB:aX 96 f96:=aY func96
theorem SM {m:Nat} {c:Nat->Rat}:aH T rj [200014,200017] 60 qv (before wB [1,1,1,1,0,1]) ⟨aS 0 [aZ c (m+1) ah],[],0⟩=
  let c1:Int:=(↑(m+1):Int)-1;some (aj [-(2:Int)^63<=c1/\c1<2^63] (aj [decide (c1<0)=false] (aj [(bif false then true else decide (c1>40))=false] (leaf normal ([ak 3 (m+1) fun i=>rat (c i) ah,int i64 c1,nil,int i64 0],[]))))):=ag
theorem Vm {m i:Nat} {c x:Nat->Rat}:aH T rj [20] 60 qv (before uz [1,0]) ⟨aD qv (zo m c i),[(0,cF i x ah)],1⟩=
  let c1:List AV×aE:=([ak 3 (m+1) fun i=>rat (c i) ah,int i64 (↑m:Int),own 0 3 0 i,int i64 (↑i:Int)],[(0,ay.mk true true 3 i fun i=>rat (x i) ah)]);some (fork (decide ((↑i:Int)<=(↑m:Int))) (leaf normal c1) (leaf (exit 0) c1)):=ag
theorem ac0 {m i:Nat} {c x:Nat->Rat}:aH T rj [] 60 um (before vX [1,0,1]) ⟨aD qv (zo m c i),[(0,cF i x ah)],1⟩=
  some (leaf normal ([ak 3 (m+1) fun i=>rat (c i) ah,int i64 (↑m:Int),own 0 3 0 i,int i64 (↑i:Int),ptr 1 0 3 0 [],int i64 0],[((1:Nat),g8 fun x=>rat 0 1),(0,ay.mk true true 3 i fun i=>rat (x i) ah)])):=ag
theorem R6 {m i k:Nat} {c x:Nat->Rat} {q:Rat}:aH T rj [25] 60 um [part vX [1,0,1,0,0]] ⟨aD um (Df m c i k),[(1,tR q ah),(0,cF i x ah)],2⟩=
  let c9:Int:=(↑m:Int);let c8:AV:=own 0 3 0 i;let c7:Nat:=64+64;let c6:Int:=(↑i:Int);let c5:AV:=ptr 1 0 3 0 [];let c4:AV:=ak 3 (m+1) fun i=>rat (c i) ah;let c3:Nat×ay:=(0,ay.mk true true 3 i fun i=>rat (x i) ah);let c2:Nat:=2^41;let c1:Int:=(↑k:Int);let c11:Prop:=(0:Int)<=c1;let c10:Int:=c1+1;some (fork (decide (c1<=c6)) (aj [(0:Nat)<1,c11,c1<=c6,c6<=40,c11,c1<=c9,c9<=40,(64:Nat)<c2,(64:Nat)<c2,c11/\c1.toNat<m+1,c7<c2,ah<c2,ah<c2,c7+ah<c2,(0:Nat)<1] (aj [-(2:Int)^63<=c10/\c10<2^63] (leaf normal ([c4,int i64 c9,c8,int i64 c6,c5,int i64 c10],[((1:Nat),g8 fun j=>if(j==0)=true then eC (zC (q,ah) ((↑(↑(bn c6.toNat c1.toNat):Int):Rat)/(↑(↑(bn c9.toNat c1.toNat):Int):Rat)*c c1.toNat,c7+ah))else rat q ah),c3])))) (leaf (exit 2) ([c4,int i64 c9,c8,int i64 c6,c5,int i64 c1],[((1:Nat),g8 fun x=>rat q ah),c3]))):=ag
theorem ac6 {m i k:Nat} {c x:Nat->Rat} {q:Rat}:aH T rj [] 60 qv (behind vX [1,0,1]++[part uz [1,1]]) ⟨aD um (Df m c i k),[(1,tR q ah),(0,cF i x ah)],2⟩=
  let c1:Int:=(↑i:Int)+1;some (aj [(0:Nat)<1,(1:Nat)*3<=2^24,(i+1)*((56:Nat)+1)*2<=2^47] (aj [-(2:Int)^63<=c1/\c1<2^63] (leaf normal ([ak 3 (m+1) fun i=>rat (c i) ah,int i64 (↑m:Int),own 12290 3 0 (i+1),int i64 c1],[(12290,ay.mk true true 3 (i+1) fun i_1=>if i_1<i then rat (x i_1) ah else nth [rat q ah] (rat 0 1) (i_1-i+0))])))):=ag
theorem Wt {m i:Nat} {c x:Nat->Rat}:cN T rj [] 60 f96 [part wB [1,1,1,1,1]] ⟨aD qv (zo m c i),[(0,cF i x ah)],1⟩=
  some (leaf ret [ak 3 i fun i=>rat (x (i+0)) ah,int i64 0]):=ag
theorem J6:bK P rj:=gT (aK D9 (aK (jC fun _ _ K hn=>Kp hn.1 hn.2 K) kO))
theorem Xk {m:Nat} {c:Nat->Rat} (hm1:m<=40) (hz:iT (m+1) c) (K:Nat):aO P 96 K [aZ c (m+1) ah] [] (aJ (.tuple [aZ (ec (m+1) c) (m+1) ah,.int .i64 0]) []):=by
 refine ij (r:=aJ (.tuple [aZ (ec (m+1) c) (m+1) ah,.int .i64 0]) []) hT MB rfl aW rfl (fun _ cx h0=>?_) K []
 have hk:=mO h0
 have hW:=dg
 refine au.qJ hT J6 hm (x:=wB) [1,1,1,1,0,1] (i:=0) (y:=uz) (z:=part wB [1,1,1,1,1]) ag ag ag MB.dst [1,0] (j:=1) (x1:=vX) (zb:=part uz [1,1]) ag ag ag [1,0,1] (i2:=2) (y2:=part vX [1,0,1,0,0]) ag ag rfl hk
  (f1:=[200014,200017]) (f2:=[20]) (f3:=[]) (f4:=[25]) (f5:=[]) 60 qv um 1 2 (fun i:Nat=>zo m c i) (fun i=>[(0,cF i (ec (m+1) c) ah)]) (fun i=>i<=m+1) (fun i=>i=m+1) (fun i=>m+1-i) (fun i=>i<m+1) (fun _=>False) (fun _=>False)
  (fun i (k:Nat)=>Df m c i k) (fun i k=>[(1,tR (jo (m+1) c i k) ah),(0,cF i (ec (m+1) c) ah)]) (fun i k=>k<=i+1) (fun i k=>k=i+1) (fun i k=>i+1-k)
  ⟨_,SM,?_⟩ (fun i hi=>⟨_,Vm,?_⟩) (fun i hi hG=>⟨_,ac0,?_⟩) (fun i hi hG k hk=>⟨_,R6,?_⟩) (fun i hi hG k hk=>⟨_,ac6,?_⟩) (fun i hi=>?_) (fun _ _ h=>h.elim) (fun _ _ h=>h.elim)
 ·simp only[af.all,az,cond_false,bE]
  exact⟨aa,aa,aa,0,aa,[],rfl,by rw[show((m+1:Nat):Int)-1=(m:Nat) by omega];rfl,rfl,rG rfl aa aa trivial⟩
 ·simp only[af.all,az,bz,bE]
  exact⟨fun h=>⟨aa,[(0,0)],rfl,rfl,rfl,bw rfl rfl rfl (fun i hi=>bP rfl rfl) trivial⟩,fun h=>⟨rfl,i,aa,[(0,0)],rfl,rfl,rfl,bw rfl rfl rfl (fun i hi=>bP rfl rfl) trivial⟩⟩
 ·simp only[af.all,az]
  exact⟨0,aa,[(0,0),(1,1)],rfl,rfl,rfl,lF rfl rfl (.inr ⟨rfl,cY rfl aa⟩) (bw rfl rfl rfl (fun i hi=>bP rfl rfl) trivial)⟩
 ·simp only[af.all,az,bz,bE,bu]
  exact⟨fun h=>⟨aa,aa,k+1,aa,by dsimp only;omega,[(0,0),(1,1)],rfl,rfl,rfl,lF rfl rfl (.inr ⟨rfl,ee rfl (hz i (k+1) hG aa)⟩) (bw rfl rfl rfl (fun i hi=>bP rfl rfl) trivial)⟩,fun h=>⟨rfl,k,aa,[(0,0),(1,1)],rfl,rfl,rfl,dU (bw rfl rfl rfl (fun i hi=>bP rfl rfl) trivial)⟩⟩
 ·subst hk
  simp only[af.all,az]
  refine⟨aa,aa,i+1,aa,by dsimp only;omega,[(0,12290)],rfl,rfl,rfl,bw rfl rfl rfl (fun j hj=>?_) trivial⟩
  by_cases h:j<i
  ·rw[if_pos h];exact bP rfl rfl
  ·rw[if_neg h,show j-i+0=0 by omega,show j=i by omega];exact bP rfl rfl
 ·subst hi
  refine au.lU ((aF.fin hT J6 hm 60 Wt ag ?_).mono fun _ _ h=>.inl h)
  exact⟨.refl _,.refl _,trivial⟩
theorem GO:bf P Cn 96:=dF fun⟨⟨n,p⟩,_⟩ K hn=>by
 obtain⟨h1,h2,h3⟩:=hn
 simp only at h1 h2 h3
 obtain⟨m,rfl⟩:∃m,n=m+1:=⟨n-1,aa⟩
 exact Xk aa h3 K
end Go.Am.B
namespace Go.Am
def jg (a b:PP):Prop:=a.1=b.1/\∀i,i<a.1->a.2 i=b.2 i
theorem jg.refl (a:PP):jg a a:=⟨rfl,fun _ _=>rfl⟩
theorem jg.symm {a b:PP} (h:jg a b):jg b a:=⟨h.1.symm,fun i hi=>(h.2 i (by rw[h.1];exact hi)).symm⟩
theorem jg.trans {a b c:PP} (h:jg a b) (h':jg b c):jg a c:=⟨h.1.trans h'.1,fun i hi=>(h.2 i hi).trans (h'.2 i (by rw[<-h.1];exact hi))⟩
theorem M8 {n e R:Nat} {d d' a a':Nat->Rat} (hR:R=n-e) (ha:∀i,i<n->a i=a' i) (hd:∀i,i<=e->d i=d' i):∀j,j<=R->∀i,i<n->cr e d a R j i=cr e d' a' R j i
 |0,_,i,hi=>ha i hi
 |j+1,hj,i,hi=>by
  have ih:=M8 hR ha hd j (by omega)
  show gr e d (R-1-j) (cr e d a R j) i=gr e d' (R-1-j) (cr e d' a' R j) i
  unfold gr
  by_cases h:R-1-j<=i/\i<R-1-j+e+1
  ·rw[if_pos h,if_pos h,ih i hi,ih (R-1-j+e) (by omega),hd e (Nat.le_refl _),hd (i-(R-1-j)) (by omega)]
  ·rw[if_neg h,if_neg h,ih i hi]
theorem FN {n e R:Nat} {d a:Nat->Rat} {l m:Rat} (hm:m≠0):∀j i,cr e (fun i=>m*d i) (fun i=>l*a i) R j i=l*cr e d a R j i
 |0,i=>rfl
 |j+1,i=>by
  have ih:=FN (n:=n) (e:=e) (R:=R) (d:=d) (a:=a) (l:=l) hm j
  show gr e (fun i=>m*d i) (R-1-j) (cr e (fun i=>m*d i) (fun i=>l*a i) R j) i=l*gr e d (R-1-j) (cr e d a R j) i
  unfold gr
  by_cases h:R-1-j<=i/\i<R-1-j+e+1
  ·rw[if_pos h,if_pos h,ih,ih]
   show _-_/(m*d e)*(m*d (i-(R-1-j)))=_
   generalize cr e d a R j i=x
   generalize cr e d a R j (R-1-j+e)=y
   generalize d (i-(R-1-j))=z
   by_cases h0:d e=0
   ·rw[h0];simp only[Rat.mul_zero,Rat.div_def,Rat.inv_zero,Rat.zero_mul];grind
   ·have e1:l*y/(m*d e)*(m*z)=l*(y/d e*z):=by
     rw[Rat.div_def,Rat.div_def,Rat.inv_mul_rev]
     have:m⁻¹*m=1:=Rat.inv_mul_cancel _ hm
     generalize (d e)⁻¹=w
     calc l*y*(w*m⁻¹)*(m*z)=l*y*w*(m⁻¹*m)*z:=by grind
      _=l*(y*w*z):=by rw[this];grind
    rw[e1];grind
  ·rw[if_neg h,if_neg h,ih]
theorem Gq {k:Nat->Rat} {l:Rat} (hl:l≠0):∀n,bO (fun i=>l*k i) n=bO k n
 |0=>rfl
 |n+1=>by
  unfold bO
  by_cases h:k n=0
  ·rw[if_pos h,if_pos (by rw[h,Rat.mul_zero]),Gq hl n]
  ·rw[if_neg h,if_neg fun h0=>(Rat.mul_eq_zero.1 h0).elim hl h]
def qf (a b:PP):Prop:=∃l:Rat,l≠0/\a.1=b.1/\∀i,i<a.1->a.2 i=l*b.2 i
theorem qf.dh {a b:PP} (h:qf a b):jg (jf a) (jf b):=by
 obtain⟨l,hl,h1,h2⟩:=h
 refine⟨h1,fun i hi=>?_⟩
 have hi:i<a.1:=hi
 show Go.Am.dh a.1 a.2 i=Go.Am.dh b.1 b.2 i
 unfold Go.Am.dh
 rw[h2 i hi,h2 (a.1-1) (by omega),h1,Rat.div_def,Rat.div_def,Rat.inv_mul_rev]
 have:l*l⁻¹=1:=Rat.mul_inv_cancel _ hl
 generalize (b.2 (b.1-1))⁻¹=w
 calc l*b.2 i*(w*l⁻¹)=(l*l⁻¹)*(b.2 i*w):=by grind
  _=_:=by rw[this,Rat.one_mul]
theorem qf.rem {a b d f:PP} (h:qf a b) (h':qf d f) (hd:0<d.1):qf (dP a d) (dP b f):=by
 obtain⟨l,hl,h1,h2⟩:=h
 obtain⟨m,hm,g1,g2⟩:=h'
 have key:∀i,i<a.1->cr (d.1-1) d.2 a.2 (a.1-(d.1-1)) (a.1-(d.1-1)) i=l*cr (d.1-1) f.2 b.2 (a.1-(d.1-1)) (a.1-(d.1-1)) i:=fun i hi=>by
  rw[M8 (a':=fun i=>l*b.2 i) (d':=fun i=>m*f.2 i) rfl h2 (fun i hi=>g2 i (by omega)) _ (Nat.le_refl _) i hi,FN (n:=a.1) hm]
 have e1:(dP a d).1=(dP b f).1:=by
  show bO _ _=bO _ _
  rw[<-g1,<-h1,Aw key,Gq hl]
 refine⟨l,hl,e1,fun i hi=>?_⟩
 have hi:i<(dP a d).1:=hi
 show cr _ _ _ _ _ i=l*cr _ _ _ _ _ i
 rw[<-g1,<-h1]
 exact key i (Nat.lt_of_lt_of_le hi eP)
theorem jg.C8 {a b:PP} (h:jg a b):qf a b:=⟨1,by decide,h.1,fun i hi=>by rw[h.2 i hi,Rat.one_mul]⟩
end Go.Am
namespace Go.Am.B
open Go Go.Am.N AV af aq IntKind Proofs.Tryz
def X2 (a b:PP):Prop:=cu a.1 (dh a.1 a.2)/\cu b.1 (dh b.1 b.2)/\j9 (jf a,jf b)
def acA (a:PP):Prop:=a.1≠0->X2 a (cP a)/\nD a (cG a (cP a))/\cu (dA a).1 (dA a).2
def JG (a:PP):Prop:=a.1≠0/\a.1<2^30/\Trim a/\cu (a.1-1) (dx a.2)/\acA a
def G4 (a:PP):Prop:=JG a/\cu ((dA a).1-1) (dx (dA a).2)/\AS (ia a)
def Ox (p:PP) (a b:Rat):Prop:=ej p/\((aC p).1≠0->G4 (aC p)/\dm (aC p)<2^30/\eA (dm (aC p)) (dz (aC p)) a/\eA (dm (aC p)) (dz (aC p)) b)
theorem EP {u v:AV} (h:bB u v):bB (.bL u) (.bL v):=by
 refine⟨rfl,fun M w cs hc=>?_⟩
 cases hc with
 |bL h1 h2 h3=>cases h3;exact .bL (h.2 _ _ _ h1) h2 .nil
theorem Y1 {f:FuncId} {us vs:List AV} (h:gh us vs) (hv:(vs.all fun v=>!v.isAgg&&!v.isTuple)=true):bB (.func f us) (.func f vs):=by
 refine⟨rfl,fun M w cs hc=>?_⟩
 cases hc with
 |func h1 h2 h3=>cases h3;exact .func (DC h h1) hv .nil
def kRf {α:Type} (k:Kind α):Kind α:=⟨fun v=>match v with
 |.bL v=>k.read v
 |_=>none,fun a=>.bL (k.make a),fun {v a q} h hq=>by
  split at h
  ·exact EP (k.ok h hq)
  ·simp at h⟩
abbrev gn (a b:Rat) (n:Nat):AV:=.agg [.rat a n,.rat b n]
def YO (s:Nat):Kind (Rat×Rat):=⟨fun v=>match v with
 |.agg [x,y]=>some ((aU x,aU y),[bB x (.rat (aU x) s),bB y (.rat (aU y) s)])
 |_=>none,fun a=>gn a.1 a.2 s,fun {v a q} h hq=>by
  split at h
  ·simp only[ax,Prod.mk.injEq]at h
   obtain⟨rfl,rfl⟩:=h
   exact oS ⟨hq.1,hq.2,trivial⟩
  ·simp at h⟩
def kHf:Kind Unit:=⟨fun v=>match v with
 |.agg [.bool false,.ak 1 1 f,.ak 1 1 g]=>some ((),[f 0=.int .u32 1,g 0=.int .u32 2])
 |_=>none,fun _=>.rat (1/2) 3,fun {v a q} h hq=>by
  split at h
  ·simp only[ax,Prod.mk.injEq]at h
   obtain⟨_,rfl⟩:=h
   refine bB.trans (oS (vs:=[.bool false,.mag 1,.mag 2]) ⟨.refl _,ku (N:=1) (by decide) (fun i hi=>by obtain rfl:i=0:=aa;exact hq.1),ku (N:=2) (by decide) (fun i hi=>by obtain rfl:i=0:=aa;exact hq.2),trivial⟩) (qo (b:=false) (x:=1) (y:=2) (q:=1/2) ⟨by decide+kernel,by decide+kernel⟩ (by decide+kernel) (by decide+kernel) (by decide+kernel))
  ·simp at h⟩
def FI:Spec:=dL (kC kR (kC kHf kN)) (fun a=>.rat (a.1.1*(1/2)) (a.1.2+3)) fun a=>[a.1.2<2^42]
def JI:Spec:=dL (kC (gb ah) (kC (gb ah) kN)) (fun a=>.rat (jz a.1 a.2.1) ah) fun _=>[]
def Mc:Spec:=dL (kC (gb ah) (kC (gb ah) kN)) (fun a=>.rat (jw a.1 a.2.1) ah) fun _=>[]
def K9:bg:=nG::(130,JI)::(131,Mc)::gA
def LJ:bg:=nG::(129,FI)::(132,AX T [sG] [] 20 f132)::gA
def dI (a b:Rat):Rat:=(a+b)*(1/2)
def DH:Spec:=dL (kC (gb ah) (kC (gb ah) kN)) (fun a=>gn (jz a.1 a.2.1) (jw a.1 a.2.1) ah) fun _=>[]
def IL:bg:=nG::(68,DH)::gA
def Kt:bg:=zG::(66,wj)::gA
def E9:bg:=nG::(66,wj)::(60,Ac)::gA
theorem RW:aX 69 f69:=aY func69
theorem abD:aX 132 f132:=aY func132
theorem aax:aX 68 f68:=aY func68
theorem Ud:aX 70 f70:=aY func70
theorem acM:aX 74 f74:=aY func74
theorem Uu:aX 64 f64:=aY func64
theorem NG {x y:Rat}:bT T K9 [] 60 f68 (aG f68) ⟨aS 0 [.rat x ah,.rat y ah],[],0⟩=
  let c1:Prop:=0<1;some (aj [c1,c1,ah<=ah,ah<=ah,c1,c1,ah<=ah,ah<=ah,c1] (aj [c1] (leaf ret [agg [rat (jz x y) ah,rat (jw x y) ah]]))):=ag
theorem S7 {x y:Rat}:bT T LJ [] 60 f69 (aG f69) ⟨aS 0 [.rat x ah,.rat y ah],[],0⟩=
  let c2:Nat:=2^42;let c1:Prop:=0<1;some (aj [c1,c1,ah<c2,ah<c2,(1:Nat)*1<=2^24,nth [int u32 (1:Int)] (int u32 (0:Int)) ((0:Nat)+0)=int u32 (1:Int),nth [int u32 (2:Int)] (int u32 (0:Int)) ((0:Nat)+0)=int u32 (2:Int),ah+ah+1<c2,c1] (aj [c1] (leaf ret [rat ((x+y)*(1/2:Rat)) (ah+ah+1+3)]))):=ag
theorem Sl {x:Rat}:bT T IL [] 60 f70 (aG f70) ⟨aS 0 [.rat x ah],[],0⟩=
  let c1:Prop:=0<1;some (aj [c1,c1,ah<=ah,ah<=ah,c1] (aj [c1] (leaf ret [agg [rat (jz x x) ah,rat (jw x x) ah]]))):=ag
theorem adW {n:Nat} {c:Nat->PP} {x:Rat}:bT T Kt [] 60 f64 (aG f64) ⟨aS 0 [.rat x ah,.bL (gZ n c)],[],0⟩=
  let c1:PP:=c (Int.toNat (0:Int));let c2:Nat×(Nat->Rat):=(c1.fst,fun i=>aU (rat (c1.snd i) ah));some (aj [(0:Int)<=0/\Int.toNat (0:Int)<n,(0:Nat)<1,dc (fun i=>rat (c1.snd i) ah) c1.fst ah,ah<=ah,c1.fst<2^40,m7 c2 x,ah<2^42] (leaf ret [AV.bool (dJ (fQ c2 x)==0)])):=ag
theorem T9 {n:Nat} {c:Nat->PP} {x y:Rat}:bT T E9 [9] 60 f74 (aG f74) ⟨aS 0 [gZ n c,gn x y ah],[],0⟩=
  let c4:Int:=jG n (fun i=>de (aP (c i))) x y;let c3:Prop:=ah<2^42;let c2:Prop:=0<1;let c1:PP:=c (Int.toNat (0:Int));let c5:Nat×(Nat->Rat):=(c1.fst,fun i=>aU (rat (c1.snd i) ah));some (aj [c2,c2,c3,c3] (fork (decide (x=y)) (aj [(0:Int)<=0/\Int.toNat (0:Int)<n,c2,dc (fun i=>rat (c1.snd i) ah) c1.fst ah,ah<=ah,c1.fst<2^40,m7 c5 x,c3] (leaf ret [AV.bool (dJ (fQ c5 x)==0)])) (aj [c2,c2,∀(i:Nat),i<n->bB (aP (c i)) (aP (de (aP (c i)))),ah<=ah,ah<=ah,(0:Nat)<n,n<2^40,eA n (fun i=>de (aP (c i))) x,eA n (fun i=>de (aP (c i))) y] (leaf ret [AV.bool (decide (c4>0))])))):=ag
theorem acj:bf P JI 130:=dF fun⟨x,y,_⟩ K _=>by
 have hW:=dg
 have:=YQ (q:=x) (r:=y) (n:=ah) (m:=ah) aa aa K
 rw[Nat.max_self]at this;exact this
theorem P9:bf P Mc 131:=dF fun⟨x,y,_⟩ K _=>by
 have hW:=dg
 have:=Ol (q:=x) (r:=y) (n:=ah) (m:=ah) aa aa K
 rw[Nat.max_self]at this;exact this
theorem Wp:bf P FI 129:=dF fun⟨x,_,_⟩ K hn=>LK hn aa K
theorem acQ:bK P K9:=gW (aK acj (aK P9 gJ))
theorem acp:bK P LJ:=gW (aK Wp (aK (IU hT (xF bU) hm abD _ _) gJ))
theorem ad3 {x y:Rat} (K:Nat):aO P 68 K [.rat x ah,.rat y ah] [] (aJ (gn (jz x y) (jw x y) ah) []):=by
 refine bW hT acQ hm aax rfl aW rfl 60 NG (fun _=>?_) K []
 simp only[af.all,az]
 exact⟨⟨aa,aa,aa,aa,aa,aa,aa,aa,aa⟩,aa,.refl _⟩
theorem Ka:bf P DH 68:=dF fun⟨x,y,_⟩ K _=>ad3 K
theorem Yf:bK P IL:=gW (aK Ka gJ)
def Dn:Spec:=dL (kC (gb ah) kN) (fun a=>gn a.1 a.1 ah) fun _=>[]
theorem Wd (x:Rat):jz x x=x:=by unfold jz;split<;>rfl
theorem Ug (x:Rat):jw x x=x:=by unfold jw;split<;>rfl
theorem K2:bf P Dn 70:=dF fun⟨x,_⟩ K _=>by
 refine bW hT Yf hm Ud rfl aW rfl 60 Sl (fun _=>?_) K []
 simp only[af.all,az,Wd,Ug]
 exact⟨⟨aa,aa,aa,aa,aa⟩,aa,.refl _⟩
def KW:Spec:=dL (kC (gb ah) (kC (gb ah) kN)) (fun a=>.rat (dI a.1 a.2.1) ah) fun a=>[Sz (dI a.1 a.2.1) ah]
theorem Yz:bf P KW 69:=dF fun⟨x,y,_⟩ K hn=>by
 have hW:=dg
 refine bW hT acp hm RW rfl aW rfl 60 S7 (fun _=>?_) K []
 simp only[af.all,az]
 exact⟨⟨aa,aa,aa,aa,aa,rfl,rfl,aa,aa⟩,aa,ee rfl hn⟩
def Bz:Spec:=dL (kC (gb ah) (kC (kRf tQ) kN)) (fun a=>.bool (decide (fQ (a.2.1.2 0) a.1=0))) fun a=>[0<a.2.1.1,eA a.2.1.1 a.2.1.2 a.1]
theorem W9:bK P Kt:=gT (aK As gJ)
theorem HU:bf P Bz 64:=dF fun⟨x,⟨n,c⟩,_⟩ K hn=>by
 have hW:=dg
 refine bW hT W9 hm Uu rfl aW rfl 60 adW (fun _=>?_) K []
 obtain⟨h1,h2⟩:=hn.2 0 hn.1
 simp only[af.all,az]
 exact⟨⟨⟨aa,hn.1⟩,aa,cZ aQ,aQ,h1,h2,aa⟩,en (by simp only[rM];rfl)⟩
theorem Xg:bK P E9:=gW (aK As (aK B5 gJ))
def sA (n:Nat) (c:Nat->PP) (x y:Rat):Bool:=if x=y then decide (fQ (c 0) x=0)else decide (0<jG n c x y)
def G9:Spec:=dL (kC tQ (kC (YO ah) kN)) (fun a=>.bool (sA a.1.1 a.1.2 a.2.1.1 a.2.1.2)) fun a=>[0<a.1.1,a.1.1<2^40,eA a.1.1 a.1.2 a.2.1.1,eA a.1.1 a.1.2 a.2.1.2]
theorem Ts:bf P G9 74:=dF fun⟨⟨n,c⟩,⟨x,y⟩,_⟩ K hn=>by
 have hW:=dg
 refine bW hT Xg hm acM rfl aW rfl 60 T9 (fun _=>?_) K []
 obtain⟨g1,g2,g3,g4⟩:=hn
 obtain⟨h1,h2⟩:=g3 0 g1
 simp only[af.all,az,bz,bE]
 refine⟨⟨aa,aa,aa,aa⟩,fun h=>⟨⟨⟨aa,g1⟩,aa,cZ aQ,aQ,h1,h2,aa⟩,?_⟩,fun h=>⟨⟨aa,aa,fun i _=>.refl _,aQ,aQ,g1,g2,g3,g4⟩,?_⟩⟩
 ·exact en (by unfold sA;rw[if_pos h];simp only[rM];rfl)
 ·exact en (by unfold sA;rw[if_neg h];rfl)
def eF (n:Nat) (c:Nat->PP):Nat->Rat->Rat->List (Rat×Rat)
 |0,_,_=>[]
 |d+1,x,y=>if jG n c x y=0 then []else if jG n c x y=1 then [(jz x y,jw x y)]else
  eF n c d x (dI x y)++(if fQ (c 0) (dI x y)=0 then(dI x y,dI x y)::eF n c d (dI x y) y else eF n c d (dI x y) y)
def mQ (n:Nat) (c:Nat->PP):Nat->Rat->Rat->Prop
 |0,_,_=>False
 |d+1,x,y=>eA n c x/\eA n c y/\(jG n c x y≠0->jG n c x y≠1->Sz (dI x y) ah/\mQ n c d x (dI x y)/\mQ n c d (dI x y) y)
def kP:AV->Rat×Rat
 |.agg [x,y]=>(aU x,aU y)
 |_=>(0,0)
def iU (f:Nat->AV) (m:Nat):List (Rat×Rat):=(List.range m).map fun i=>kP (f i)
def cB (l:List (Rat×Rat)) (i:Nat):Rat×Rat:=l.getD i (0,0)
abbrev cS (l:List (Rat×Rat)) (i:Nat):AV:=gn (cB l i).1 (cB l i).2 ah
abbrev rE (l:List (Rat×Rat)):ay:=⟨true,true,6,l.length,cS l⟩
abbrev qm:FuncId:=64
abbrev mh:FuncId:=67
abbrev Ab (n:Nat) (c:Nat->PP):AV:=.func qm [.bL (gZ n c)]
abbrev Ji (n:Nat) (c:Nat->PP) (kf kl:Nat):AV:=.func mh [.bL (gZ n c),.ptr kf 0 1 0 [],.ptr kl 0 1 0 [],.bL (Ab n c)]
abbrev sr (k m:Nat):ay:=⟨false,true,1,1,fun _=>.own k 6 0 m⟩
abbrev rJ (n:Nat) (c:Nat->PP) (kf kl:Nat):ay:=⟨false,true,1,1,fun _=>Ji n c kf kl⟩
abbrev gone:ay:=⟨true,false,0,0,fun _=>.nil⟩
def isVar (o:ay):Bool:=!o.row&&o.wr&&o.es==1&&o.len==1
def D8 (st:aE) (k:Nat):Option (Nat×Nat×(Nat->AV)×Nat):=match look k st with
 |some o=>if isVar o then match o.f 0 with
  |.own k0 6 0 m=>match look k0 st with
   |some r=>if r.row&&r.wr&&r.es==6&&k0 !=k then some (k0,m,r.f,r.len)else none
   |none=>none
  |_=>none else none
 |none=>none
def BN (st:aE) (kf kl:Nat):Option (AV×AV):=match look kl st with
 |some o=>if isVar o then match o.f 0 with
  |.func g [.bL ch,.ptr kf' 0 1 0 [],.ptr kl' 0 1 0 [],.bL is]=>if g==mh&&kf'==kf&&kl'==kl&&kl !=kf then some (ch,is)else none
  |_=>none else none
 |none=>none
def z9:AV->Option AV
 |.func g [.bL ch]=>if g==qm then some ch else none
 |_=>none
def oL (d:Nat):Spec:=fun K args st=>match args with
 |[x,y,.bL ch,.ptr kf 0 1 0 [],.ptr kl 0 1 0 [],.bL is]=>match(gb ah).read x,(gb ah).read y,tQ.read ch,z9 is with
  |some (x,q1),some (y,q2),some ((n,c),q3),some ch1=>match D8 st kf,BN st kf kl with
   |some (k0,m,f,len),some (ch2,is2)=>match z9 is2 with
    |some ch3=>if k0 !=kl&&Nat.blt kf K&&Nat.blt kl K&&Nat.blt k0 K then
      some ⟨.tuple [],[(kf,sr K (iU f m++eF n c d x y).length),(kl,rJ n c kf kl),(K,rE (iU f m++eF n c d x y)),(k0,gone)],
       [az q1,az q2,az q3,bB ch1 (gZ n c),bB ch2 (gZ n c),bB ch3 (gZ n c),m=len,∀i,i<m->keys (f i)=[]/\bB (f i) (gn (kP (f i)).1 (kP (f i)).2 ah),0<n,n<2^40,mQ n c d x y,m+(eF n c d x y).length<2^30]⟩else none
    |none=>none
   |_,_=>none
  |_,_,_,_=>none
 |_=>none
def M5 (d:Nat):bg:=nG::(60,Ac)::(68,DH)::(70,Dn)::(69,KW)::(qm,Bz)::(mh,oL d)::gA
abbrev KC:Code:=aG f67
abbrev Bc (n:Nat) (c:Nat->PP) (x y:Rat):List AV:=[.rat x ah,.rat y ah,.bL (gZ n c),.ptr 0 0 1 0 [],.ptr 1 0 1 0 [],.bL (Ab n c)]
abbrev K5 (n:Nat) (c:Nat->PP) (l:List (Rat×Rat)):aE:=[(0,sr 2 l.length),(1,rJ n c 0 1),(2,rE l)]
theorem Je:aX mh f67:=aY func67
theorem adp {d n:Nat} {c:Nat->PP} {x y:Rat} {l:List (Rat×Rat)}:aH T (M5 d) [32,34,22] 60 [3,4] [KC] ⟨aS 0 (Bc n c x y),K5 n c l,3⟩=
  let c31:AV:=gZ n fun i=>de (aP (c i));let c29:Int:=jG n (fun i=>de (aP (c i))) x y;let c26:Nat:=2^30;let c25:Prop:=0<n;let c24:Prop:=1*6<=2^24;let c21:Rat:=dI x y;let c19:Nat:=l.length;let c18:AV:=rat 0 1;let c17:Prop:=n<2^40;let c16:Prop:=ah<=ah;let c14:AV:=ptr 0 0 1 0 [];let c13:AV:=ptr 1 0 1 0 [];let c11:Prop:=az [∀(i:Nat),i<n->bB (aP (de (aP (c i)))) (aP (de (aP (de (aP (c i))))))];let c10:AV:=(ak 1 n fun i=>ak 3 (c i).fst fun i_1=>rat ((c i).snd i_1) ah).bL;let c9:AV:=(ak 1 n fun i=>ak 3 (c i).fst fun i_1=>rat (aU (rat (aU (rat ((c i).snd i_1) ah)) ah)) ah).bL;let c6:Prop:=0<1;let c33:List (Rat×Rat):=eF n (fun i=>de (aP (c i))) d x c21;let c32:Nat:=c19+1;let c30:Rat:=fQ (de (aP (c 0))) c21;let c28:Prop:=az [c16];let c27:AV:=own 2 6 0 c19;let c20:Prop:=mQ n (fun i=>de (aP (de (aP (c i))))) d c21 y;let c12:Prop:=bB (gZ n c) c31;let c8:List AV:=[c14,c13];let c7:List (Rat×Rat):=eF n (fun i=>de (aP (de (aP (c i))))) d c21 y;let c5:Prop:=bB c31 (gZ n fun i=>de (aP (de (aP (c i)))));let c4:Nat×ay:=(1,ay.mk false true 1 1 fun x=>func 67 [c10,c14,c13,(func 64 [c10]).bL]);let c3:Nat×ay:=(1,ay.mk false true 1 1 fun x=>func 67 [c9,c14,c13,(func 64 [c9]).bL]);let c1:List (Rat×Rat):=iU (cS l) c19++c33;let c15:Nat:=c1.length;let c23:List (Rat×Rat):=iU (cS c1) c15++c7;let c22:Nat:=c15+1;let c2:List (Rat×Rat):=iU (fun i=>if i<c15 then cS c1 i else nth [agg [rat c21 ah,rat c21 ah]] (agg [c18,c18]) (i-c15+0)) c22++c7;some (aj [c6,c6,∀(i:Nat),i<n->bB (aP (c i)) (aP (de (aP (c i)))),c16,c16,c25,c17,eA n (fun i=>de (aP (c i))) x,eA n (fun i=>de (aP (c i))) y] (fork (c29==0) (leaf normal (c8,[c4,(0,ay.mk false true 1 1 fun x=>c27),(2,ay.mk true true 6 c19 fun i=>agg [rat (cB l i).fst ah,rat (cB l i).snd ah])])) (fork (c29==1) (aj [c6,c6,c6,c16,c16,c24,c32*((112:Nat)+1)*2<=2^47,c6] (leaf normal (c8,[c4,(0,ay.mk false true 1 1 fun j=>if(j==0)=true then eC (own (nat_lit 61442+1) 6 0 c32)else c27),(61443,ay.mk true true 6 c32 fun i=>if i<c19 then cS l i else nth [agg [rat (jz x y) ah,rat (jw x y) ah]] (agg [c18,c18]) (i-c19+0))]))) (aj [c6,c6,c16,c16,Sz c21 ah,c6] (aj [c6,c6,c6,c28,c28,az [∀(i:Nat),i<n->bB (aP (c i)) (aP (de (aP (c i))))],c12,c12,c12,c19=c19,∀(i:Nat),i<c19->(cS l i).keys=[]/\bB (cS l i) (gn (aU (rat (cB l i).fst ah)) (aU (rat (cB l i).snd ah)) ah),c25,c17,mQ n (fun i=>de (aP (c i))) d x c21,c19+c33.length<c26] (aj [c6,c16,∀(i:Nat),i<n->bB (aP (c i)) (aP (de (aP (c i)))),c25,eA n (fun i=>de (aP (c i))) c21] (fork (decide (c30=0)) (aj [c6,c6,c16,c24,c22*((112:Nat)+1)*2<=2^47,c6] (aj [c6,c6,c6,c28,c28,c11,c5,c5,c5,c22=c22,∀(i:Nat),i<c22->(if i<c15 then cS c1 i else nth [agg [rat c21 ah,rat c21 ah]] (agg [c18,c18]) (i-c15+0)).keys=[]/\bB (if i<c15 then cS c1 i else nth [agg [rat c21 ah,rat c21 ah]] (agg [c18,c18]) (i-c15+0)) (gn (kP (if i<c15 then cS c1 i else nth [agg [rat c21 ah,rat c21 ah]] (agg [c18,c18]) (i-c15+0))).fst (kP (if i<c15 then cS c1 i else nth [agg [rat c21 ah,rat c21 ah]] (agg [c18,c18]) (i-c15+0))).snd ah),c25,c17,c20,c22+c7.length<c26] (leaf normal (c8,[c3,(0,ay.mk false true 1 1 fun x=>own 126979 6 0 c2.length),(126979,ay.mk true true 6 c2.length fun i=>agg [rat (cB c2 i).fst ah,rat (cB c2 i).snd ah])])))) (aj [c6,c6,c6,c28,c28,c11,c5,c5,c5,c15=c15,∀(i:Nat),i<c15->(cS c1 i).keys=[]/\bB (cS c1 i) (gn (aU (rat (cB c1 i).fst ah)) (aU (rat (cB c1 i).snd ah)) ah),c25,c17,c20,c15+c7.length<c26] (leaf normal (c8,[c3,(0,ay.mk false true 1 1 fun x=>own 102403 6 0 c23.length),(102403,ay.mk true true 6 c23.length fun i=>agg [rat (cB c23 i).fst ah,rat (cB c23 i).snd ah])])))))))))):=ag
theorem JA {s:Nat} {v:AV} {x:Rat} {q:List Prop} (h:(gb s).read v=some (x,q)):v.isTuple=false:=by
 unfold gb at h
 dsimp only at h
 split at h
 ·rename_i h1
  unfold oo at h1
  split at h1
  ·rfl
  ·rfl
  ·simp at h1
 ·simp at h
theorem LQ {s:Nat} {v:AV} {x:Rat} {q:List Prop} (h:(gb s).read v=some (x,q)):keys v=[]:=by
 unfold gb at h
 dsimp only at h
 split at h
 ·rename_i h1
  unfold oo at h1
  split at h1
  ·rfl
  ·rfl
  ·simp at h1
 ·simp at h
theorem Hf {o:ay} (h:isVar o=true):o=⟨false,true,1,1,o.f⟩:=by
 obtain⟨r,w,es,len,f⟩:=o
 unfold isVar at h
 simp only[Bool.and_eq_true,Bool.not_eq_true',beq_iff_eq]at h
 obtain⟨⟨⟨h1,h2⟩,h3⟩,h4⟩:=h
 subst h1 h2 h3 h4;rfl
theorem Yh {st:aE} {k k0 m len:Nat} {f:Nat->AV} (h:D8 st k=some (k0,m,f,len)):∃g,look k st=some ⟨false,true,1,1,g⟩/\g 0=.own k0 6 0 m/\look k0 st=some ⟨true,true,6,len,f⟩/\k0≠k:=by
 unfold D8 at h
 split at h
 ·rename_i o ho
  split at h
  ·rename_i hv
   have hv:=Hf hv
   split at h
   ·rename_i k0' m' hf
    split at h
    ·rename_i r hr
     split at h
     ·rename_i hc
      simp only[Bool.and_eq_true,beq_iff_eq,bne_iff_ne,ne_eq]at hc
      obtain⟨⟨⟨c1,c2⟩,c3⟩,c4⟩:=hc
      simp only[ax,Prod.mk.injEq]at h
      obtain⟨rfl,rfl,rfl,rfl⟩:=h
      refine⟨o.f,by rw[ho,<-hv],hf,?_,c4⟩
      rw[hr]
      obtain⟨r1,r2,r3,r4,r5⟩:=r
      subst c1 c2 c3;rfl
     ·simp at h
    ·simp at h
   ·simp at h
  ·simp at h
 ·simp at h
theorem Qw {st:aE} {kf kl:Nat} {ch is:AV} (h:BN st kf kl=some (ch,is)):∃g,look kl st=some ⟨false,true,1,1,g⟩/\g 0=.func mh [.bL ch,.ptr kf 0 1 0 [],.ptr kl 0 1 0 [],.bL is]/\kl≠kf:=by
 unfold BN at h
 split at h
 ·rename_i o ho
  split at h
  ·rename_i hv
   have hv:=Hf hv
   split at h
   ·rename_i g' ch' kf' kl' is' hf
    split at h
    ·rename_i hc
     simp only[Bool.and_eq_true,beq_iff_eq,bne_iff_ne,ne_eq]at hc
     obtain⟨⟨⟨c1,c2⟩,c3⟩,c4⟩:=hc
     simp only[ax,Prod.mk.injEq]at h
     obtain⟨rfl,rfl⟩:=h
     subst c1 c2 c3
     exact⟨o.f,by rw[ho,<-hv],hf,c4⟩
    ·simp at h
   ·simp at h
  ·simp at h
 ·simp at h
theorem Hz {v ch:AV} (h:z9 v=some ch):v=.func qm [.bL ch]:=by
 unfold z9 at h
 split at h
 ·split at h
  ·rename_i hc
   have:=eq_of_beq hc
   simp only[ax]at h
   subst h this;rfl
  ·simp at h
 ·simp at h
theorem uV {f:Nat->AV} {m:Nat}:(iU f m).length=m:=by simp[iU]
theorem Zp {f:Nat->AV} {m i:Nat} (h:i<m):cB (iU f m) i=kP (f i):=by
 unfold cB iU
 simp[List.getD,h]
theorem J4 {f:Nat->AV} {m:Nat} {l:List (Rat×Rat)} (hl:l.length=m) (h:∀i,i<m->kP (f i)=cB l i):iU f m=l:=by
 apply List.ext_getElem
 ·rw[uV,hl]
 ·intro i h1 h2
  have:=h i (by rwa [uV]at h1)
  simp only[iU,List.getElem_map,List.getElem_range,this,cB]
  simp[List.getD,h2]
theorem Gf {l:List (Rat×Rat)}:iU (cS l) l.length=l:=J4 rfl fun i _=>rfl
theorem aaF {l l':List (Rat×Rat)} {i:Nat}:cB (l++l') i=if i<l.length then cB l i else cB l' (i-l.length):=by
 unfold cB
 simp only[List.getD,List.getElem?_append]
 split<;>rfl
theorem yx {s':aI} {e:aq} {n:Nat} {c:Nat->PP} {kf kl K kx:Nat} {vs:List AV} {vf vl row:ay} {L:List (Rat×Rat)} (he:e=.normal) (h1:kl≠kf) (g1:kf<K) (g2:kl<K) (hv:bk [3,4] s'=some (vs,[(1,vl),(0,vf),(kx,row)])) (hkx:2<=kx) (hl:vl=rJ n c 0 1)
  (hf:vf=⟨false,true,1,1,vf.f⟩) (hf0:vf.f 0=.own kx 6 0 L.length) (hr:row=⟨true,true,6,L.length,row.f⟩) (hr0:∀i,i<L.length->row.f i=cS L i):
  (e=.normal\/e=.ret)/\∃ls vs os kx o1 o2 o3,bk ls s'=some (vs,os)/\2<=kx/\
   look 0 os=some o1/\cW (aV [(kf,0),(kl,1),(K,kx)]) o1 (sr K L.length)/\look 1 os=some o2/\cW (aV [(kf,0),(kl,1),(K,kx)]) o2 (rJ n c kf kl)/\look kx os=some o3/\cW (aV [(kf,0),(kl,1),(K,kx)]) o3 (rE L):=by
 have n1:¬kf=K:=aa
 have n2:¬kl=K:=aa
 have n3:¬0=kx:=aa
 have n4:¬1=kx:=aa
 have r1:aV [(kf,0),(kl,1),(K,kx)] kf=some 0:=by simp[aV,look]
 have r2:aV [(kf,0),(kl,1),(K,kx)] kl=some 1:=by simp[aV,look,h1.symm]
 have r3:aV [(kf,0),(kl,1),(K,kx)] K=some kx:=by simp[aV,look,n1,n2]
 refine⟨.inl he,[3,4],vs,_,kx,vf,vl,row,hv,hkx,by simp[look],?_,by simp[look],?_,by simp[look,n3,n4],?_⟩
 ·rw[hf]
  exact gM rfl fun i hi=>by obtain rfl:i=0:=aa;rw[hf0];exact dK r3 rfl rfl
 ·rw[hl]
  exact gM rfl fun i hi=>CQ ⟨⟨rfl,iI rfl (.refl _)⟩,⟨rfl,gF r1⟩,⟨rfl,gF r2⟩,⟨rfl,iI rfl (.refl _)⟩,trivial⟩ rfl
 ·rw[hr]
  exact gM rfl fun i hi=>by rw[hr0 i hi];exact iI rfl (.refl _)
theorem NR {d:Nat} (h:∀K args pre r,oL d K args pre=some r->aO P mh K args pre r):bK P (M5 d):=gW (aK B5 (aK Ka (aK K2 (aK Yz (aK HU (aK h gJ))))))
theorem mQ.right {n d:Nat} {c:Nat->PP} {x y:Rat} (h:mQ n c d x y):eA n c y:=by
 cases d with
 |zero=>exact h.elim
 |succ d=>exact h.2.1
theorem L7 {v z:AV} {i:Nat} (h:i=0):nth [v] z i=v:=by subst h;rfl
theorem sj {l:List (Rat×Rat)} {p:Rat×Rat} {z:AV} {i:Nat} (hi:i<l.length+1):(if i<l.length then cS l i else nth [gn p.1 p.2 ah] z (i-l.length+0))=cS (l++[p]) i:=by
 unfold cS
 rw[aaF]
 split
 ·rfl
 ·rw[L7 aa,show i-l.length=0 by omega];rfl
theorem MM {l:List (Rat×Rat)} {p:Rat×Rat} {z:AV}:iU (fun i=>if i<l.length then cS l i else nth [gn p.1 p.2 ah] z (i-l.length+0)) (l.length+1)=l++[p]:=
 J4 (by simp) fun i hi=>by
  have:=sj (p:=p) (z:=z) hi
  rw[this];rfl
theorem aen {d:Nat} (hd:∀K args pre r,oL d K args pre=some r->aO P mh K args pre r) {n:Nat} {c:Nat->PP} {x y:Rat} {l:List (Rat×Rat)} {kf kl K:Nat} (h1:kl≠kf) (g1:kf<K) (g2:kl<K) (hn0:0<n) (hn:n<2^40) (hz:mQ n c (d+1) x y) (hb:l.length+(eF n c (d+1) x y).length<2^30) (cx:Ctx):
  au P cx f67.ntmps KC ⟨aS 0 (Bc n c x y),K5 n c l,3⟩ fun e s'=>(e=.normal\/e=.ret)/\∃ls vs os kx o1 o2 o3,bk ls s'=some (vs,os)/\2<=kx/\
   look 0 os=some o1/\cW (aV [(kf,0),(kl,1),(K,kx)]) o1 (sr K (l++eF n c (d+1) x y).length)/\look 1 os=some o2/\cW (aV [(kf,0),(kl,1),(K,kx)]) o2 (rJ n c kf kl)/\look kx os=some o3/\cW (aV [(kf,0),(kl,1),(K,kx)]) o3 (rE (l++eF n c (d+1) x y)):=by
 have hW:=dg
 obtain⟨z1,z2,z3⟩:=hz
 have hC:(fun i=>de (aP (c i)))=c:=rfl
 have hL:eF n c (d+1) x y=if jG n c x y=0 then []else if jG n c x y=1 then [(jz x y,jw x y)]else
  eF n c d x (dI x y)++(if fQ (c 0) (dI x y)=0 then(dI x y,dI x y)::eF n c d (dI x y) y else eF n c d (dI x y) y):=rfl
 have hk:∀{l:List (Rat×Rat)} {i:Nat},i<l.length->keys (cS l i)=[]/\bB (cS l i) (gn (aU (.rat (cB l i).1 ah)) (aU (.rat (cB l i).2 ah)) ah):=fun _=>⟨rfl,.refl _⟩
 have hq:∀{l:List (Rat×Rat)} {p:Rat×Rat} {z:AV} {i:Nat},i<l.length+1->keys (if i<l.length then cS l i else nth [gn p.1 p.2 ah] z (i-l.length+0))=[]/\
   bB (if i<l.length then cS l i else nth [gn p.1 p.2 ah] z (i-l.length+0)) (gn (kP (if i<l.length then cS l i else nth [gn p.1 p.2 ah] z (i-l.length+0))).1 (kP (if i<l.length then cS l i else nth [gn p.1 p.2 ah] z (i-l.length+0))).2 ah):=fun hi=>by
  rw[sj hi];exact⟨rfl,.refl _⟩
 refine au.bF hT (NR hd) hm 60 [3,4] adp Je.dst ?_
 simp only[af.all,az,hC,beq_iff_eq,beq_eq_false_iff_ne,ne_eq,bz,bE,Gf]
 refine⟨⟨aa,aa,fun i _=>.refl _,aQ,aQ,hn0,hn,z1,z2⟩,fun b0 s' hv=>?_,fun b0=>⟨fun b1=>⟨⟨aa,aa,aa,aQ,aQ,aa,?_,aa⟩,fun s' hv=>?_⟩,fun b1=>?_⟩⟩
 ·rw[hL,if_pos b0,List.append_nil]
  exact⟨.inl trivial,(yx (L:=l) rfl h1 g1 g2 hv aa rfl rfl rfl rfl fun i _=>rfl).2⟩
 ·rw[hL,if_neg b0,if_pos b1]at hb
  simp only[List.length_cons,List.length_nil]at hb
  omega
 ·rw[hL,if_neg b0,if_pos b1]
  refine⟨.inl trivial,(yx (L:=l++[(jz x y,jw x y)]) rfl h1 g1 g2 hv aa rfl rfl (by rw[List.length_append];rfl) (by rw[List.length_append];rfl) fun i hi=>?_).2⟩
  rw[List.length_append]at hi
  exact sj (p:=(jz x y,jw x y)) hi
 ·obtain⟨m1,m2,m3⟩:=z3 b0 b1
  rw[hL,if_neg b0,if_neg b1]at hb ⊢
  rw[List.length_append]at hb
  have hl2:(eF n c d (dI x y) y).length<=(if fQ (c 0) (dI x y)=0 then(dI x y,dI x y)::eF n c d (dI x y) y else eF n c d (dI x y) y).length:=by
   split
   ·exact Nat.le_succ _
   ·exact Nat.le_refl _
  refine⟨⟨aa,aa,aQ,aQ,m1,aa⟩,⟨aa,aa,aa,aQ,aQ,fun i _=>.refl _,.refl _,.refl _,.refl _,trivial,fun i hi=>hk hi,hn0,hn,m2,aa⟩,⟨aa,aQ,fun i _=>.refl _,hn0,m2.right⟩,fun r0=>⟨⟨aa,aa,aQ,aa,?_,aa⟩,⟨aa,aa,aa,aQ,aQ,fun i _=>.refl _,.refl _,.refl _,.refl _,trivial,fun i hi=>hq (p:=(dI x y,dI x y)) hi,hn0,hn,m3,?_⟩,fun s' hv=>?_⟩,
   fun r0=>⟨⟨aa,aa,aa,aQ,aQ,fun i _=>.refl _,.refl _,.refl _,.refl _,trivial,fun i hi=>hk hi,hn0,hn,m3,?_⟩,fun s' hv=>?_⟩⟩
  ·rw[List.length_append];omega
  ·have r0:fQ (c 0) (dI x y)=0:=r0
   rw[if_pos r0,List.length_cons]at hb
   show(l++eF n c d x (dI x y)).length+1+(eF n c d (dI x y) y).length<2^30
   rw[List.length_append];omega
  ·have r0:fQ (c 0) (dI x y)=0:=r0
   rw[if_pos r0]
   have e:=MM (l:=l++eF n c d x (dI x y)) (p:=(dI x y,dI x y)) (z:=.agg [.rat 0 1,.rat 0 1])
   dsimp only at e hv
   rw[e]at hv
   rw[show l++(eF n c d x (dI x y)++(dI x y,dI x y)::eF n c d (dI x y) y)=l++eF n c d x (dI x y)++[(dI x y,dI x y)]++eF n c d (dI x y) y by simp[List.append_assoc]]
   exact⟨.inl trivial,(yx rfl h1 g1 g2 hv aa rfl rfl rfl rfl fun i _=>rfl).2⟩
  ·show(l++eF n c d x (dI x y)).length+(eF n c d (dI x y) y).length<2^30
   rw[List.length_append];omega
  ·have r0:¬fQ (c 0) (dI x y)=0:=r0
   rw[if_neg r0,<-List.append_assoc]
   exact⟨.inl trivial,(yx rfl h1 g1 g2 hv aa rfl rfl rfl rfl fun i _=>rfl).2⟩
theorem JD {d:Nat} (ih:∀e,d=e+1->∀K args pre r,oL e K args pre=some r->aO P mh K args pre r):bf P (oL d) mh:=by
 intro K args pre r h
 unfold oL at h
 split at h
 ·rename_i x' y' ch kf kl is
  split at h
  ·rename_i x q1 y q2 n c q3 ch1 hx hy hc hi
   split at h
   ·rename_i k0 m f len ch2 is2 hl hcl
    split at h
    ·rename_i ch3 hi3
     split at h
     ·rename_i hk
      simp only[ax]at h
      subst h
      simp only[Bool.and_eq_true,bne_iff_ne,ne_eq,Nat.blt_eq]at hk
      obtain⟨⟨⟨k1,k2⟩,k3⟩,k4⟩:=hk
      obtain⟨e1,l1,l2,l3,l4⟩:=Yh hl
      obtain⟨e2,c1,c2,c3⟩:=Qw hcl
      obtain rfl:=Hz hi
      obtain rfl:=Hz hi3
      intro need
      obtain⟨n1,n2,n3,n4,n5,n6,n7,n8,n9,n10,n11,n12⟩:=need
      have hch:=tQ.ok hc n3
      have r0:aV [(0,kf),(1,kl),(2,k0)] 0=some kf:=rfl
      have r1:aV [(0,kf),(1,kl),(2,k0)] 1=some kl:=rfl
      have r2:aV [(0,kf),(1,kl),(2,k0)] 2=some k0:=rfl
      have hcr:∀{ρ:Nat->Option Nat} {u v:AV},bB u v->gG ρ (.bL u) (.bL v):=fun h=>iI rfl (EP h)
      have hcl:∀{ρ:Nat->Option Nat} {u v:AV},bB u v->gG ρ (.bL (.func qm [.bL u])) (.bL (.func qm [.bL v])):=fun h=>hcr (Y1 ⟨EP h,trivial⟩ rfl)
      refine aO.frame (pre:=[(kf,⟨false,true,1,1,e1⟩),(kl,⟨false,true,1,1,e2⟩),(k0,⟨true,true,6,len,f⟩)]) (QV hT Je (args0:=Bc n c x y) (oa0:=sr 2 (iU f m).length) (ob0:=rJ n c 0 1) (oc0:=rE (iU f m)) ag rfl c3 l4 k1 k2 k3 k4 (fun _=>?_) aW (fun _=>⟨?_,?_,?_⟩) (fun _ cx _=>?_)) (fun k o hk=>?_) ⟨n1,n2,n3,n4,n5,n6,n7,n8,n9,n10,n11,n12⟩
      ·exact⟨⟨JA hx,iI (LQ hx) ((gb ah).ok hx n1)⟩,⟨JA hy,iI (LQ hy) ((gb ah).ok hy n2)⟩,⟨rfl,hcr hch⟩,⟨rfl,gF r0⟩,⟨rfl,gF r1⟩,⟨rfl,hcl n4⟩,trivial⟩
      ·rw[uV]
       exact gM rfl fun i hi=>by obtain rfl:i=0:=aa;rw[l2];exact dK r2 rfl rfl
      ·exact gM rfl fun i hi=>by
        obtain rfl:i=0:=aa
        rw[c2]
        exact CQ ⟨⟨rfl,hcr n5⟩,⟨rfl,gF r0⟩,⟨rfl,gF r1⟩,⟨rfl,hcl n6⟩,trivial⟩ rfl
      ·refine gM (by rw[uV];exact n7) fun i hi=>?_
       obtain⟨p1,p2⟩:=n8 i aa
       unfold cS
       rw[Zp (show i<m by omega)]
       exact iI p1 p2
      ·cases d with
       |zero=>exact absurd n11 id
       |succ d=>exact aen (ih d rfl) c3 k2 k3 n9 n10 n11 (by rw[uV];exact n12) cx
      ·rcases qW hk with⟨e1,e2⟩|⟨e1,_,e2⟩|⟨e1,_,_,e2⟩<;>subst e1<;>subst e2
       ·exact l1
       ·exact c1
       ·exact l3
     ·simp at h
    ·simp at h
   ·simp at h
  ·simp at h
 ·simp at h
theorem HI:∀d K args pre r,oL d K args pre=some r->aO P mh K args pre r
 |0=>JD fun e h=>absurd h aa
 |d+1=>JD fun e h=>by obtain rfl:d=e:=aa;exact HI d
end Go.Am.B
namespace Go.Am
def sg (f:Nat->Rat):Nat->Rat
 |0=>0
 |n+1=>sg f n+f n
theorem fN {f g:Nat->Rat}:∀{n:Nat},(∀i,i<n->f i=g i)->sg f n=sg g n
 |0,_=>rfl
 |n+1,h=>by rw[sg,sg,fN fun i hi=>h i (by omega),h n (by omega)]
theorem lE {f:Nat->Rat}:∀{n:Nat},(∀i,i<n->f i=0)->sg f n=0
 |0,_=>rfl
 |n+1,h=>by rw[sg,lE fun i hi=>h i (by omega),h n (by omega),Rat.add_zero]
theorem oE {f g:Nat->Rat}:∀{n:Nat},sg (fun i=>f i+g i) n=sg f n+sg g n
 |0=>by simp only[sg];grind
 |n+1=>by rw[sg,sg,sg,oE];grind
theorem j3 {f:Nat->Rat} {c:Rat}:∀{n:Nat},sg (fun i=>c*f i) n=c*sg f n
 |0=>by simp only[sg];grind
 |n+1=>by rw[sg,sg,j3];grind
theorem pQ {f:Nat->Rat}:∀{n:Nat},sg f (n+1)=f 0+sg (fun i=>f (i+1)) n
 |0=>by simp only[sg];grind
 |n+1=>by rw[sg,pQ,sg];grind
theorem yb {f:Nat->Rat} {n:Nat}:∀{m:Nat},sg f (n+m)=sg f n+sg (fun i=>f (n+i)) m
 |0=>by simp only[sg];show sg f n=_;grind
 |m+1=>by
  show sg f (n+m)+f (n+m)=sg f n+(sg (fun i=>f (n+i)) m+f (n+m))
  rw[yb];grind
theorem vq {f:Nat->Rat} {n m:Nat} (h:∀i,n<=i->i<m->f i=0) (hm:n<=m):sg f m=sg f n:=by
 obtain⟨l,rfl⟩:∃l,m=n+l:=⟨m-n,by omega⟩
 rw[yb,lE (f:=fun i=>f (n+i)) fun i hi=>h _ (by omega) (by omega),Rat.add_zero]
theorem z8 {f:Nat->Nat->Rat} {n:Nat}:∀{m:Nat},sg (fun i=>sg (fun j=>f i j) n) m=sg (fun j=>sg (fun i=>f i j) m) n
 |0=>(lE fun _ _=>rfl).symm
 |m+1=>by
  rw[sg,z8,<-oE];rfl
theorem pow_add' (t:Rat) (m:Nat):∀n:Nat,t^(m+n)=t^m*t^n
 |0=>by rw[Nat.add_zero,Rat.pow_zero,Rat.mul_one]
 |n+1=>by rw[<-Nat.add_assoc,Rat.pow_succ,pow_add' t m n,Rat.pow_succ,Rat.mul_assoc]
def ev (n:Nat) (k:Nat->Rat) (t:Rat):Rat:=sg (fun i=>k i*t^i) n
theorem nO {n:Nat} {k l:Nat->Rat} {t:Rat} (h:∀i,i<n->k i=l i):ev n k t=ev n l t:=fN fun i hi=>by rw[h i hi]
theorem Tc {n:Nat} {k:Nat->Rat} {t:Rat}:ev (n+1) k t=ev n k t+k n*t^n:=rfl
theorem tA {n:Nat} {k:Nat->Rat} {t:Rat}:ev (n+1) k t=k 0+t*ev n (fun i=>k (i+1)) t:=by
 unfold ev
 rw[pQ,<-j3,Rat.pow_zero,Rat.mul_one]
 congr 1
 exact fN fun i _=>by rw[Rat.pow_succ];grind
theorem MD {n m:Nat} {k:Nat->Rat} {t:Rat} (h:∀i,n<=i->i<m->k i=0) (hm:n<=m):ev m k t=ev n k t:=vq (fun i h1 h2=>by rw[h i h1 h2,Rat.zero_mul]) hm
theorem tL {n:Nat} {k l:Nat->Rat} {t:Rat}:ev n (fun i=>k i+l i) t=ev n k t+ev n l t:=by
 unfold ev;rw[<-oE];exact fN fun i _=>by grind
theorem uA {n:Nat} {k:Nat->Rat} {c t:Rat}:ev n (fun i=>c*k i) t=c*ev n k t:=by
 unfold ev;rw[<-j3];exact fN fun i _=>by grind
theorem R5 {n m:Nat} {k:Nat->Rat} {t:Rat}:ev (m+n) (fun i=>if m<=i then k (i-m)else 0) t=t^m*ev n k t:=by
 unfold ev
 rw[yb,lE fun i hi=>by dsimp only;rw[if_neg (by omega),Rat.zero_mul],Rat.zero_add,<-j3]
 exact fN fun i _=>by dsimp only;rw[if_pos (by omega),pow_add',show m+i-m=i by omega];grind
theorem GV {n:Nat} {k:Nat->Rat} {t:Rat}:∀m,m<=n->fu n k t m=ev m (fun i=>k (n-m+i)) t
 |0,_=>rfl
 |m+1,h=>by
  rw[fu,GV m (by omega),tA]
  rw[show n-(m+1)+0=n-1-m by omega,nO (l:=fun i=>k (n-(m+1)+(i+1))) fun i _=>by rw[show n-m+i=n-(m+1)+(i+1) by omega]]
  grind
theorem M3 {a:PP} {t:Rat}:fQ a t=ev a.1 a.2 t:=by
 unfold fQ
 rw[GV _ (Nat.le_refl _)]
 exact nO fun i _=>by rw[Nat.sub_self,Nat.zero_add]
def qg (n:Nat) (k:Nat->Rat) (c:Rat) (i:Nat):Rat:=fu n k c (n-1-i)
theorem Hv {k:Nat->Rat} {c t:Rat}:∀n,ev (n+1) k t=(t-c)*ev n (qg (n+1) k c) t+ev (n+1) k c
 |0=>by simp only[ev,sg];grind
 |n+1=>by
  -- by the lowest coefficient
  have ih:=Hv (k:=fun i=>k (i+1)) (c:=c) (t:=t) n
  have e1:∀m,m<=n+1->fu (n+1+1) k c m=fu (n+1) (fun i=>k (i+1)) c m:=fun m=>by
   induction m with
   |zero=>exact fun _=>rfl
   |succ m ihm=>
    intro hm
    rw[fu,fu,ihm (by omega),show n+1+1-1-m=n+1-1-m+1 by omega]
  have e2:ev (n+1) (qg (n+1+1) k c) t=ev (n+1) (fun i=>k (i+1)) c+t*ev n (qg (n+1) (fun i=>k (i+1)) c) t:=by
   rw[tA]
   congr 1
   ·unfold qg
    rw[show n+1+1-1-0=n+1 by omega,e1 (n+1) (Nat.le_refl _)]
    have:=M3 (a:=(n+1,fun i=>k (i+1))) (t:=c)
    exact this
   ·congr 1
    refine nO fun i hi=>?_
    unfold qg
    rw[show n+1+1-1-(i+1)=n+1-1-i by omega,e1 _ (by omega)]
  rw[tA (n:=n+1) (t:=t),tA (n:=n+1) (t:=c),ih,e2]
  grind
theorem Xf {a b:Nat} (h:((a:Int):Rat)=((b:Int):Rat)):a=b:=by
 have:(a:Int)=(b:Int):=by exact_mod_cast h
 omega
theorem IS:∀(n:Nat) (k:Nat->Rat) (s:Nat),(∀j,s<=j->j<s+n->ev n k ((j:Int):Rat)=0)->∀i,i<n->k i=0
 |0,_,_,_=>fun i hi=>absurd hi (Nat.not_lt_zero i)
 |n+1,k,s,h=>by
  have h0:=h s (Nat.le_refl _) (by omega)
  have hq:∀i,i<n->qg (n+1) k ((s:Int):Rat) i=0:=IS n _ (s+1) fun j h1 h2=>by
   have:=h j (by omega) (by omega)
   rw[Hv (c:=((s:Int):Rat)),h0,Rat.add_zero]at this
   rcases Rat.mul_eq_zero.1 this with h3|h3
   ·have:((j:Int):Rat)=((s:Int):Rat):=by grind
    have:=Xf this
    omega
   ·exact h3
  have hh:∀m,m<=n->fu (n+1) k ((s:Int):Rat) m=0:=fun m hm=>by
   cases m with
   |zero=>rfl
   |succ m=>
    have:=hq (n-(m+1)) (by omega)
    unfold qg at this
    rwa [show n+1-1-(n-(m+1))=m+1 by omega]at this
  have hl:fu (n+1) k ((s:Int):Rat) (n+1)=0:=by
   have:=M3 (a:=(n+1,k)) (t:=((s:Int):Rat))
   exact this.trans h0
  intro i hi
  have e:fu (n+1) k ((s:Int):Rat) (n-i+1)=fu (n+1) k ((s:Int):Rat) (n-i)*((s:Int):Rat)+k (n+1-1-(n-i)):=rfl
  rw[hh (n-i) (by omega),Rat.zero_mul,Rat.zero_add,show n+1-1-(n-i)=i by omega]at e
  rw[<-e]
  rcases Nat.eq_zero_or_pos i with h1|h1
  ·subst h1;exact hl
  ·exact hh _ (by omega)
theorem KQ {n:Nat} {k l:Nat->Rat} (h:∀t,ev n k t=ev n l t):∀i,i<n->k i=l i:=fun i hi=>by
 have:=IS n (fun i=>k i+-1*l i) 0 (fun j _ _=>by
  rw[tL,uA (k:=l),h];grind) i hi
 grind
def ek (a:PP) (i:Nat):Rat:=if i<a.1 then a.2 i else 0
def bN (a:PP) (t:Rat):Rat:=ev a.1 a.2 t
theorem pg {a:PP} {t:Rat} {m:Nat} (h:a.1<=m):ev m (ek a) t=bN a t:=by
 rw[MD (n:=a.1) (fun i h1 h2=>by unfold ek;rw[if_neg (by omega)]) h]
 exact nO fun i hi=>by unfold ek;rw[if_pos hi]
theorem qp {a b:PP} (h:∀t,bN a t=bN b t):∀i,ek a i=ek b i:=fun i=>by
 by_cases hi:i<max a.1 b.1
 ·exact KQ (n:=max a.1 b.1) (fun t=>by rw[pg (Nat.le_max_left _ _),pg (Nat.le_max_right _ _),h]) i hi
 ·unfold ek
  rw[if_neg (by omega),if_neg (by omega)]
theorem ve {a b:PP} (ha:Trim a) (h:∀i,ek a i=ek b i):a.1<=b.1:=by
 rcases ha with ha|ha
 ·omega
 ·rcases Nat.lt_or_ge b.1 a.1 with h1|h1
  ·have:=h (a.1-1)
   unfold ek at this
   rw[if_pos (by omega),if_neg (by omega)]at this
   exact absurd this ha
  ·exact h1
theorem DW {a b:PP} (ha:Trim a) (hb:Trim b) (h:∀t,bN a t=bN b t):jg a b:=by
 have hc:=qp h
 have h1:=ve ha hc
 have h2:=ve hb fun i=>(hc i).symm
 refine⟨by omega,fun i hi=>?_⟩
 have:=hc i
 unfold ek at this
 rwa [if_pos hi,if_pos (by omega)]at this
theorem jg.ev {a b:PP} (h:jg a b) (t:Rat):bN a t=bN b t:=by
 unfold bN
 rw[<-h.1]
 exact nO h.2
theorem sZ {n:Nat} {k:Nat->Rat} {t:Rat}:ev (bO k n) k t=ev n k t:=(MD (fun i h1 h2=>CD h1 h2) eP).symm
theorem ZK {n e k:Nat} {d r:Nat->Rat} {t:Rat} (h:k+e<n):ev n (gr e d k r) t=ev n r t-r (k+e)/d e*(t^k*ev (e+1) d t):=by
 obtain⟨l,rfl⟩:∃l,n=k+(e+1)+l:=⟨n-(k+(e+1)),by omega⟩
 have h1:ev (k+(e+1)) (gr e d k r) t=ev (k+(e+1)) r t-r (k+e)/d e*(t^k*ev (e+1) d t):=by
  rw[<-R5 (k:=d),Rat.sub_eq_add_neg,<-Rat.neg_mul,<-uA,<-tL]
  refine nO fun i hi=>?_
  unfold gr
  by_cases h2:k<=i
  ·rw[if_pos ⟨h2,by omega⟩,if_pos h2];grind
  ·rw[if_neg (by omega),if_neg h2,Rat.mul_zero,Rat.add_zero]
 have h2:∀(f:Nat->Rat),ev (k+(e+1)+l) f t=ev (k+(e+1)) f t+sg (fun i=>f (k+(e+1)+i)*t^(k+(e+1)+i)) l:=fun f=>yb
 rw[h2,h2 r,h1,fN (f:=fun i=>gr e d k r (k+(e+1)+i)*t^(k+(e+1)+i)) (g:=fun i=>r (k+(e+1)+i)*t^(k+(e+1)+i)) fun i _=>by unfold gr;rw[if_neg (by omega)]]
 grind
theorem I4 {n e R:Nat} {d a:Nat->Rat} {t:Rat} (hR:R=n-e):∀j,j<=R->ev n a t=ev n (cr e d a R j) t+ev R (fun k=>if k+j<R then 0 else fc e d a R k) t*ev (e+1) d t
 |0,_=>by
  rw[show ev R (fun k=>if k+0<R then 0 else fc e d a R k) t=0 from lE fun i hi=>by dsimp only;rw[if_pos (by omega),Rat.zero_mul],Rat.zero_mul,Rat.add_zero];rfl
 |j+1,hj=>by
  have ih:=I4 (t:=t) hR j (by omega) (d:=d) (a:=a)
  have e1:ev n (cr e d a R (j+1)) t=_:=ZK (k:=R-1-j) (r:=cr e d a R j) (by omega)
  have e2:cr e d a R j (R-1-j+e)/d e=fc e d a R (R-1-j):=by unfold fc;rw[show R-1-(R-1-j)=j by omega]
  rw[e2]at e1
  have e3:ev R (fun k=>if k+(j+1)<R then 0 else fc e d a R k) t=ev R (fun k=>if k+j<R then 0 else fc e d a R k) t+fc e d a R (R-1-j)*t^(R-1-j):=by
   have:∀i,(if i+(j+1)<R then 0 else fc e d a R i)=(if i+j<R then 0 else fc e d a R i)+(if i=R-1-j then fc e d a R (R-1-j)else 0):=fun i=>by
    by_cases h1:i+(j+1)<R
    ·rw[if_pos h1,if_pos (by omega),if_neg (by omega),Rat.add_zero]
    ·rw[if_neg h1]
     by_cases h2:i=R-1-j
     ·rw[if_pos (by omega),if_pos h2,Rat.zero_add,h2]
     ·rw[if_neg (by omega),if_neg h2,Rat.add_zero]
   rw[show(fun k=>if k+(j+1)<R then 0 else fc e d a R k)=fun i=>(if i+j<R then 0 else fc e d a R i)+(if i=R-1-j then fc e d a R (R-1-j)else 0)from funext this,tL]
   congr 1
   -- a single power
   unfold ev
   rw[vq (n:=R-1-j+1) (fun i h1 h2=>by dsimp only;rw[if_neg (by omega),Rat.zero_mul]) (by omega),sg,lE fun i hi=>by dsimp only;rw[if_neg (by omega),Rat.zero_mul],Rat.zero_add]
   dsimp only
   rw[if_pos rfl]
  rw[e1,e3,ih]
  grind
theorem Ar {a d:PP} (hd:0<d.1) (t:Rat):bN a t=bN (gD a d) t*bN d t+bN (dP a d) t:=by
 have:=I4 (n:=a.1) (e:=d.1-1) (d:=d.2) (a:=a.2) (t:=t) rfl _ (Nat.le_refl _)
 rw[show d.1-1+1=d.1 by omega]at this
 have e1:bN (gD a d) t=ev _ _ t:=sZ
 have e2:bN (dP a d) t=ev _ _ t:=sZ
 show ev a.1 a.2 t=bN (gD a d) t*ev d.1 d.2 t+bN (dP a d) t
 rw[e1,e2,this]
 rw[nO (k:=fun k=>if k+(a.1-(d.1-1))<a.1-(d.1-1)then 0 else fc (d.1-1) d.2 a.2 (a.1-(d.1-1)) k) (l:=fc (d.1-1) d.2 a.2 (a.1-(d.1-1))) fun i hi=>if_neg (by omega)]
 grind
def cs:Nat->(Nat->Rat)->Rat->Rat
 |0,p,_=>p 0
 |m+1,p,t=>(1-t)*cs m p t+t*cs m (fun i=>p (i+1)) t
abbrev bq (n k:Nat):Rat:=((bn n k:Int):Rat)
theorem wM (n k:Nat):bq (n+1) (k+1)=bq n k+bq n (k+1):=by
 show((bn (n+1) (k+1):Int):Rat)=_
 rw[mM,Int.natCast_add,Rat.intCast_add]
theorem lY (n:Nat):bq n 0=1:=by show((bn n 0:Int):Rat)=1;rw[oH];rfl
theorem qH {n k:Nat} (h:n<k):bq n k=0:=by show((bn n k:Int):Rat)=0;rw[mV h];rfl
theorem xW {n k:Nat} (h:k<=n):bq n k≠0:=by
 intro h0
 have h1:((bn n k:Int):Rat).num=(0:Rat).num:=congrArg Rat.num h0
 rw[Rat.num_intCast,show(0:Rat).num=0 from rfl]at h1
 have:=zJ h
 omega
theorem Bl {p:Nat->Rat}:∀k i,dH p k (i+1)=dH (fun i=>p (i+1)) k i
 |0,_=>rfl
 |k+1,i=>by rw[dH,dH,Bl (p:=p) k (i+1),Bl (p:=p) k i]
theorem CH {p q:Nat->Rat}:∀k i,(∀j,j<=i+k->p j=q j)->dH p k i=dH q k i
 |0,i,h=>h i (by omega)
 |k+1,i,h=>by rw[dH,dH,CH k (i+1) fun j hj=>h j (by omega),CH k i fun j hj=>h j (by omega)]
theorem BL:∀(m:Nat) (p:Nat->Rat) (t:Rat),ev (m+1) (fun k=>bq m k*dH p k 0) t=cs m p t
 |0,p,t=>by
  show 0+bq 0 0*p 0*t^0=p 0
  rw[lY,Rat.pow_zero];grind
 |m+1,p,t=>by
  have h1:=BL m p t
  have h2:=BL m (fun i=>p (i+1)) t
  rw[cs,<-h1,<-h2,tA (n:=m+1)]
  have e1:∀k,bq (m+1) (k+1)*dH p (k+1) 0=bq m (k+1)*dH p (k+1) 0+(bq m k*dH (fun i=>p (i+1)) k 0+-1*(bq m k*dH p k 0)):=fun k=>by
   rw[wM,<-Bl]
   have:dH p (k+1) 0=dH p k 1-dH p k 0:=rfl
   rw[this];grind
  rw[show(fun i=>bq (m+1) (i+1)*dH p (i+1) 0)=fun k=>bq m (k+1)*dH p (k+1) 0+(bq m k*dH (fun i=>p (i+1)) k 0+-1*(bq m k*dH p k 0))from funext e1,tL,tL,uA]
  rw[Tc (k:=fun k=>bq m (k+1)*dH p (k+1) 0),qH (Nat.lt_succ_self m),Rat.zero_mul,Rat.zero_mul,Rat.add_zero]
  rw[tA (k:=fun k=>bq m k*dH p k 0),lY,lY]
  have:dH p 0 0=p 0:=rfl
  rw[this]
  generalize ev m (fun i=>bq m (i+1)*dH p (i+1) 0) t=A
  generalize ev (m+1) (fun k=>bq m k*dH (fun i=>p (i+1)) k 0) t=B
  grind
theorem Bx {m:Nat} {p:Nat->Rat} {t:Rat}:ev (m+1) (fy (m+1) p) t=cs m p t:=BL m p t
def hv (m:Nat) (u:Nat->Rat) (x y:Rat):Rat:=sg (fun i=>u i*(x^i*y^(m-i))) (m+1)
theorem oZ:∀(m:Nat) (p:Nat->Rat) (t:Rat),hv m (fun i=>bq m i*p i) t (1-t)=cs m p t
 |0,p,t=>by
  show 0+bq 0 0*p 0*(t^0*(1-t)^0)=p 0
  rw[lY,Rat.pow_zero,Rat.pow_zero];grind
 |m+1,p,t=>by
  have h1:=oZ m p t
  have h2:=oZ m (fun i=>p (i+1)) t
  rw[cs,<-h1,<-h2]
  unfold hv
  rw[pQ (n:=m+1)]
  dsimp only
  rw[lY]
  have e1:∀i,i<m+1->bq (m+1) (i+1)*p (i+1)*(t^(i+1)*(1-t)^(m+1-(i+1)))=t*(bq m i*p (i+1)*(t^i*(1-t)^(m-i)))+bq m (i+1)*p (i+1)*(t^(i+1)*(1-t)^(m-i)):=fun i hi=>by
   rw[wM,show m+1-(i+1)=m-i by omega,Rat.pow_succ];grind
  rw[fN e1,oE,j3]
  have e2:sg (fun i=>bq m (i+1)*p (i+1)*(t^(i+1)*(1-t)^(m-i))) (m+1)=sg (fun i=>(1-t)*(bq m (i+1)*p (i+1)*(t^(i+1)*(1-t)^(m-(i+1))))) m:=by
   rw[sg,qH (Nat.lt_succ_self m),Rat.zero_mul,Rat.zero_mul,Rat.add_zero]
   exact fN fun i hi=>by rw[show m-i=m-(i+1)+1 by omega,Rat.pow_succ (1-t)];grind
  rw[e2,j3,pQ (f:=fun i=>bq m i*p i*(t^i*(1-t)^(m-i))),lY,Rat.pow_zero,Nat.sub_zero,Nat.sub_zero,Rat.pow_succ]
  generalize sg (fun i=>bq m (i+1)*p (i+1)*(t^(i+1)*(1-t)^(m-(i+1)))) m=A
  generalize sg (fun i=>bq m i*p (i+1)*(t^i*(1-t)^(m-i))) (m+1)=B
  grind
def jv (m n:Nat) (u v:Nat->Rat) (k:Nat):Rat:=sg (fun i=>sg (fun j=>if i+j=k then u i*v j else 0) (n+1)) (m+1)
theorem xD {f:Nat->Rat} {i n:Nat} (hi:i<n) (h:∀j,j<n->j≠i->f j=0):sg f n=f i:=by
 rw[vq (n:=i+1) (fun j h1 h2=>h j h2 (by omega)) (by omega),sg,lE fun j hj=>h j (by omega) (by omega),Rat.zero_add]
theorem Cf {m n:Nat} {u v X:Nat->Rat}:sg (fun k=>jv m n u v k*X k) (m+n+1)=sg (fun i=>sg (fun j=>u i*v j*X (i+j)) (n+1)) (m+1):=by
 unfold jv
 have e1:∀k,sg (fun i=>sg (fun j=>if i+j=k then u i*v j else 0) (n+1)) (m+1)*X k=sg (fun i=>sg (fun j=>if i+j=k then u i*v j*X k else 0) (n+1)) (m+1):=fun k=>by
  rw[Rat.mul_comm,<-j3]
  refine fN fun i _=>?_
  rw[<-j3]
  refine fN fun j _=>?_
  by_cases h:i+j=k
  ·rw[if_pos h,if_pos h];grind
  ·rw[if_neg h,if_neg h,Rat.mul_zero]
 rw[fN fun k _=>e1 k,z8]
 refine fN fun i hi=>?_
 rw[z8]
 refine fN fun j hj=>?_
 rw[xD (i:=i+j) (by omega) fun k _ h=>if_neg fun h'=>h h'.symm,if_pos rfl]
theorem WY {m n:Nat} {u v:Nat->Rat} {x y:Rat}:hv (m+n) (jv m n u v) x y=hv m u x y*hv n v x y:=by
 unfold hv
 rw[Cf (X:=fun k=>x^k*y^(m+n-k)),<-j3 (f:=fun i=>v i*(x^i*y^(n-i)))]
 rw[show(fun i=>sg (fun i=>u i*(x^i*y^(m-i))) (m+1)*(v i*(x^i*y^(n-i))))=fun j=>sg (fun i=>v j*(x^j*y^(n-j))*(u i*(x^i*y^(m-i)))) (m+1)from funext fun j=>by rw[j3];grind]
 rw[<-z8]
 refine fN fun i hi=>fN fun j hj=>?_
 rw[show m+n-(j+i)=(m-j)+(n-i) by omega,pow_add',pow_add'];grind
def jD (m n:Nat) (p q:Nat->Rat) (k:Nat):Rat:=jv m n (fun i=>bq m i*p i) (fun j=>bq n j*q j) k/bq (m+n) k
theorem UW {m n:Nat} {p q:Nat->Rat} {t:Rat}:cs (m+n) (jD m n p q) t=cs m p t*cs n q t:=by
 rw[<-oZ,<-oZ,<-oZ,<-WY]
 unfold hv
 refine fN fun i hi=>?_
 show bq (m+n) i*jD m n p q i*_=jv _ _ _ _ i*_
 rw[show bq (m+n) i*jD m n p q i=jv m n (fun i=>bq m i*p i) (fun j=>bq n j*q j) i from by unfold jD;rw[Rat.mul_comm,Rat.div_mul_cancel (xW (by omega))]]
theorem Jw {n:Nat} {c:Nat->Rat} {i:Nat}:∀k,jo n c i k=sg (fun k=>bq i k/bq (n-1) k*c k) k
 |0=>rfl
 |k+1=>by rw[jo,sg,Jw k]
theorem Em {g:Nat->Rat} {n:Nat} (hg:∀k,n<=k->g k=0):∀j i,dH (fun i=>sg (fun k=>bq i k*g k) n) j i=sg (fun k=>bq i k*g (k+j)) n
 |0,i=>rfl
 |j+1,i=>by
  rw[dH,Em hg j,Em hg j]
  cases n with
  |zero=>simp only[sg];grind
  |succ n=>
   rw[pQ,pQ (f:=fun k=>bq i k*g (k+j)),lY,lY]
   rw[fN (f:=fun k=>bq (i+1) (k+1)*g (k+1+j)) (g:=fun k=>bq i k*g (k+(j+1))+bq i (k+1)*g (k+1+j)) fun k _=>by rw[wM,show k+(j+1)=k+1+j by omega];grind,oE,sg,hg (n+(j+1)) (by omega),Rat.mul_zero,Rat.add_zero]
   grind
theorem TT {m:Nat} {c:Nat->Rat} {j:Nat} (hj:j<=m):fy (m+1) (ec (m+1) c) j=c j:=by
 obtain⟨g,hg⟩:∃g:Nat->Rat,g=fun k=>if k<m+1 then c k/bq m k else 0:=⟨_,rfl⟩
 have h0:∀k,m+1<=k->g k=0:=fun k hk=>by rw[hg];exact if_neg (by omega)
 have h1:∀i,i<=m->ec (m+1) c i=sg (fun k=>bq i k*g k) (m+1):=fun i hi=>by
  unfold ec
  rw[Jw,vq (f:=fun k=>bq i k*g k) (n:=i+1) (m:=m+1) (fun k k1 k2=>by rw[qH (by omega),Rat.zero_mul]) (by omega)]
  refine fN fun k hk=>?_
  rw[hg]
  dsimp only
  rw[if_pos (by omega),show m+1-1=m by omega,Rat.div_def,Rat.div_def];grind
 show bq (m+1-1) j*dH (ec (m+1) c) j 0=c j
 rw[CH (q:=fun i=>sg (fun k=>bq i k*g k) (m+1)) j 0 fun i hi=>h1 i (by omega),Em h0,xD (i:=0) (by omega) fun k _ hk=>by rw[qH (by omega),Rat.zero_mul],lY,Rat.one_mul,Nat.zero_add,hg]
 dsimp only
 rw[if_pos (by omega),show m+1-1=m by omega,Rat.mul_comm,Rat.div_mul_cancel (xW hj)]
theorem WM {m:Nat} {c:Nat->Rat} {t:Rat}:cs m (ec (m+1) c) t=ev (m+1) c t:=by
 rw[<-Bx]
 exact nO fun i hi=>TT (by omega)
end Go.Am
