/- roots.gcd, free. -/
import Derived.Test.YtolopdkjjlfgjaaGreatY37
import Derived.Test.YtolopdkjjlfgjaaGreatZ2
set_option linter.unusedVariables false
noncomputable section
namespace Go.Am.B
open Go Go.Am.N AV af ak IntKind Proofs.Tryz
abbrev aX (a:PP):AV:=bD a.2 a.1 ah
def BS:bB:=zG::(88,AZ)::(135,En)::ia
abbrev xM:Code:=aG f72
abbrev xo:List Nat:=[0,1]
abbrev Ep (s:PP×PP):List AV:=[aX s.1,aX s.2]
def rj (a d:PP):Prop:=rP a.1 (d.1-1) d.2 a.2
def oJ (s:PP×PP):Prop:=(∀j,(bZ s j).2.1≠0->rj (bZ s j).1 (bZ s j).2/\dj (fl (bZ s j).1 (bZ s j).2).1 (cV (fl (bZ s j).1 (bZ s j).2).1 (fl (bZ s j).1 (bZ s j).2).2))/\dj (bW s.1 s.2).1 (bW s.1 s.2).2
def AN:Spec:=fu (kC (kL ah) (kC (kL ah) kN)) (fun a=>aX (bW a.1 a.2.1)) fun a=>[a.1.1<2^30,a.2.1.1<2^30,Trim a.1,Trim a.2.1,oJ (a.1,a.2.1)]
def ya (a:PP):Prop:=a.1≠0->oJ (a,bL a)/\rj a (bW a (bL a))/\dj (aZ a).1 (aZ a).2
def KO:bB:=zG::(88,AZ)::(135,En)::(73,za)::(72,AN)::ia
theorem acf:bu 72 f72:=bz func72
theorem VQ:bu 80 f80:=bz func80
theorem YV {s:PP×PP}:aH T BS [] 60 xo (before xM [1,0]) ⟨aV 0 [aX s.1,aX s.2],[],0⟩=
  some (leaf normal ([aq 3 s.fst.fst fun i=>rat (s.fst.snd i) ah,aq 3 s.snd.fst fun i=>rat (s.snd.snd i) ah],[])):=ag
theorem Qa {a b:PP}:aH T BS [9] 60 xo [part xM [1,0,0,0]] ⟨aE xo [aX a,aX b],[],0⟩=
  let c3:AV:=aq 3 b.fst fun i=>rat (b.snd i) ah;let c2:Nat:=b.fst-1;let c4:Nat:=a.fst-c2;let c1:Nat:=bY (cD c2 (fun i=>aW (rat (b.snd i) ah)) (fun i=>aW (rat (a.snd i) ah)) c4 c4) a.fst;some (fork (decide ((↑b.fst:Int)>0)) (aj [dU (fun i=>rat (a.snd i) ah) a.fst ah,dU (fun i=>rat (b.snd i) ah) b.fst ah,a.fst<2^30,(1:Nat)<=b.fst,b.fst<2^30,a.fst=0\/aW (rat (a.snd (a.fst-1)) ah)≠0,aW (rat (b.snd c2) ah)≠0,rP a.fst c2 (fun i=>aW (rat (b.snd i) ah)) fun i=>aW (rat (a.snd i) ah)] (aj [dU (fun i=>rat (cD c2 (fun i=>aW (rat (b.snd i) ah)) (fun i=>aW (rat (a.snd i) ah)) c4 c4 i) ah) c1 ah,c1<2^40,dj c1 (cV c1 fun i=>aW (rat (cD c2 (fun i=>aW (rat (b.snd i) ah)) (fun i=>aW (rat (a.snd i) ah)) c4 c4 i) ah))] (leaf normal ([c3,aq 3 c1 fun i=>rat (cV c1 (fun i=>aW (rat (cD c2 (fun i=>aW (rat (b.snd i) ah)) (fun i=>aW (rat (a.snd i) ah)) c4 c4 i) ah)) i) ah],[])))) (leaf (exit 0) ([aq 3 a.fst fun i=>rat (a.snd i) ah,c3],[]))):=ag
theorem YD {a b:PP}:dA T BS [] 60 f72 [part xM [1,1]] ⟨aE xo [aX a,aX b],[],0⟩=
  some (aj [dU (fun i=>rat (a.snd i) ah) a.fst ah,a.fst<2^40,dj a.fst (cV a.fst fun i=>aW (rat (a.snd i) ah))] (leaf ret [aq 3 a.fst fun i=>rat (cV a.fst (fun i=>aW (rat (a.snd i) ah)) i) ah])):=ag
theorem acM {a:PP}:cq T KO [7] 60 f80 (aG f80) ⟨aV 0 [aX a],[],0⟩=
  let c9:Nat:=a.fst;let c8:Nat:=2^30;let c11:Nat:=c9-1;let c7:Nat×(Nat->Rat):=(c9,fun i=>aW (rat (a.snd i) ah));let c6:Prop:=dU (fun i=>rat (a.snd i) ah) c9 ah;let c3:Nat:=bY (dw fun i=>aW (rat (a.snd i) ah)) c11;let c5:Nat×(Nat->Rat):=(c3,fun i=>aW (rat (dw (fun i=>aW (rat (a.snd i) ah)) i) ah));let c1:PP:=(bZ (c7,c5) c3).fst;let c10:Nat:=c1.fst;let c4:Nat:=c10-1;let c2:Nat:=bY (fA c4 (fun i=>aW (rat (cV c10 c1.snd i) ah)) (fun i=>aW (rat (a.snd i) ah)) (c9-c4)) (c9-c4);some (fork ((↑c9:Int)==0) (leaf ret [nil]) (aj [c6,c9<2^40,dj c11 (dw fun i=>aW (rat (a.snd i) ah)),c6,dU (fun i=>rat (dw (fun i=>aW (rat (a.snd i) ah)) i) ah) c3 ah,c9<c8,c3<c8,Trim c7,Trim c5,oJ (c7,c5),c6,dU (fun i=>rat (cV c10 c1.snd i) ah) c10 ah,c9<c8,(1:Nat)<=c10,c10<c8,c9=0\/aW (rat (a.snd c11) ah)≠0,aW (rat (cV c10 c1.snd c4) ah)≠0,rP c9 c4 (fun i=>aW (rat (cV c10 c1.snd i) ah)) fun i=>aW (rat (a.snd i) ah)] (aj [dU (fun i=>rat (fA c4 (fun i=>aW (rat (cV c10 c1.snd i) ah)) (fun i=>aW (rat (a.snd i) ah)) (c9-c4) i) ah) c2 ah,c2<2^40,dj c2 (cV c2 fun i=>aW (rat (fA c4 (fun i=>aW (rat (cV c10 c1.snd i) ah)) (fun i=>aW (rat (a.snd i) ah)) (c9-c4) i) ah))] (leaf ret [aq 3 c2 fun i=>rat (cV c2 (fun i=>aW (rat (fA c4 (fun i=>aW (rat (cV c10 c1.snd i) ah)) (fun i=>aW (rat (a.snd i) ah)) (c9-c4) i) ah)) i) ah])))):=ag
theorem PM:bT P BS:=ja (aN Cg (aN KL ir))
theorem S6 {a b:PP} (ha:a.1<2^30) (hb:b.1<2^30) (ta:Trim a) (tb:Trim b) (hz:oJ (a,b)) (K:Nat):aQ P 72 K [aX a,aX b] [] (aM (aX (bW a b)) []):=by
 obtain⟨s,hs⟩:∃s,s=(a,b):=⟨_,rfl⟩
 have hT1:=mY (s:=s) (by rw[hs];exact ta) (by rw[hs];exact tb)
 have hL:=yQ (s:=s) (by rw[hs];exact ta) (by rw[hs];exact tb)
 have hB:=Af (s:=s) (B:=2^30-1) (by rw[hs];dsimp only;omega) (by rw[hs];dsimp only;omega) (by rw[hs];exact ta) (by rw[hs];exact tb)
 have hb2:s.2.1=b.1:=by rw[hs]
 rw[<-hs]at hz
 refine nK (r:=aM (aX (bW a b)) []) hT PM hm acf rfl bp rfl [1,0] (i:=0) (y:=part xM [1,0,0,0]) (z:=part xM [1,1]) ag ag ag (f1:=[]) (f2:=[9]) (f3:=[]) 60 xo 0
  (fun j:Nat=>Ep (bZ s j)) (fun _=>[]) (fun j=>j<=b.1) (fun j=>j<=b.1/\(bZ s j).2.1=0) (fun j=>(bZ s j).2.1) (fun _=>⟨⟨_,YV (s:=(a,b)),?_⟩,fun j hj=>⟨_,Qa,?_⟩,fun j hj=>⟨_,YD,?_⟩⟩) K []
 ·simp only[af.all,aA]
  exact⟨0,Nat.zero_le _,by rw[hs];exact fU.vals rfl⟩
 ·have h1:=hT1 j
  have h2:=hL j
  have h3:=hB j
  have h4:=hB (j+1)
  have h5:=hz.1 j
  have e1:(bZ s j).2.1≠0->bZ s (j+1)=((bZ s j).2,ga (fl (bZ s j).1 (bZ s j).2)):=fun h=>if_neg h
  have e2:=hL (j+1)
  obtain⟨x,y,hx⟩:∃x y,bZ s j=(x,y):=⟨_,_,rfl⟩
  rw[hx]at h1 h2 h3 h5 e1
  dsimp only at h1 h2 h3 h5 e1
  simp only[af.all,aA,bK,bO,hx]
  refine⟨fun h=>?_,fun h=>⟨rfl,j,⟨hj,by rw[hx];dsimp only;omega⟩,by show fU _ _ (Ep (bZ s j)) _ _;rw[hx];exact fU.vals rfl⟩⟩
  have hy:y.1≠0:=aa
  have e1:=e1 hy
  rw[e1]at h4 e2
  have hr:(fl x y).1<y.1:=nH aa h1.2
  have ty:y.2 (y.1-1)≠0:=by rcases h1.2 with h|h;omega;exact h
  refine⟨⟨eG aS,eG aS,aa,aa,aa,h1.1,ty,(h5 hy).1⟩,⟨eG aS,by show(fl x y).1<_;omega,(h5 hy).2⟩,j+1,aa,?_,?_⟩
  ·show(bZ s (j+1)).2.1<(bZ s j).2.1
   rw[e1,hx];exact hr
  ·show fU _ _ (Ep (bZ s (j+1))) _ _
   rw[e1];exact fU.vals rfl
 ·obtain⟨hj,h0⟩:=hj
  have hg:ga (bZ s j).1=bW a b:=by rw[hs]at h0 ⊢;exact VL ta tb hj h0
  have h3:=hB j
  have hz2:=hz.2
  rw[show s.1=a by rw[hs],show s.2=b by rw[hs],<-hg]at hz2
  rw[<-hg]
  simp only[af.all,aA]
  exact⟨⟨eG aS,aa,hz2⟩,.refl _⟩
theorem Dh:bA P AN 72:=fF fun⟨a,b,_⟩ K hn=>S6 hn.1 hn.2.1 hn.2.2.1 hn.2.2.2.1 hn.2.2.2.2 K
theorem abZ:bT P KO:=ja (aN Cg (aN KL (aN BZ (aN Dh ir))))
theorem HZ {a:PP} (ha:a.1<2^30) (ta:Trim a) (hd:dj (a.1-1) (dw a.2)) (hz:ya a) (K:Nat):aQ P 80 K [aX a] [] (aM (aX (aZ a)) []):=by
 refine cA hT abZ hm VQ rfl bp rfl 60 acM (fun _=>?_) K []
 simp only[af.all,aA,beq_iff_eq,beq_eq_false_iff_ne]
 refine⟨fun h=>?_,fun h=>?_⟩
 ·have h0:a.1=0:=aa
  unfold aZ
  rw[if_pos h0];exact lS aa
 ·have h0:a.1≠0:=aa
  obtain⟨z1,z2,z3⟩:=hz h0
  have e0:aZ a=ga (gk a (bW a (bL a))):=if_neg h0
  rw[e0]at z3 ⊢
  have hd1:(bL a).1<=a.1-1:=fP
  have hg:=Af (s:=(a,bL a)) (B:=a.1) aS (by dsimp only;omega) ta dR (bL a).1
  have hgp:0<(bW a (bL a)).1:=m8 aa
  have tg:Trim (bW a (bL a)):=jS ta dR
  have tg':(bW a (bL a)).2 ((bW a (bL a)).1-1)≠0:=by rcases tg with h|h;omega;exact h
  have hq:(gk a (bW a (bL a))).1<=a.1:=Nat.le_trans fP (Nat.sub_le _ _)
  exact⟨⟨eG aS,aa,hd,eG aS,eG aS,ha,Nat.lt_of_le_of_lt hd1 aa,ta,dR,z1,eG aS,eG aS,ha,hgp,Nat.lt_of_le_of_lt hg ha,ta,tg',z2⟩,⟨eG aS,Nat.lt_of_le_of_lt hq aa,z3⟩,.refl _⟩
def MO:Spec:=fu (kC (kL ah) kN) (fun a=>aX (aZ a.1)) fun a=>[a.1.1<2^30,Trim a.1,dj (a.1.1-1) (dw a.1.2),ya a.1]
theorem aeJ:bA P MO 80:=fF fun⟨a,_⟩ K hn=>HZ hn.1 hn.2.1 hn.2.2.1 hn.2.2.2 K
abbrev JF (n:Nat) (s:PP×PP):AV:=.aq 1 n fun i=>aX (cm s i).1
abbrev FM (n:Nat) (s:PP×PP):ay:=⟨true,true,1,n,fun i=>aX (cm s i).1⟩
def AL:bB:=zG::(88,AZ)::(121,EX)::(73,za)::(80,MO)::ia
abbrev vS:Code:=aG f59
abbrev xq:List Nat:=[3,4,5]
abbrev MN (s:PP×PP) (j:Nat):List AV:=[aX (cm s j).1,.own 0 1 0 (j+1),aX (cm s j).2]
def wI (s:PP×PP):Prop:=∀j,j<gD s->rj (cm s j).1 (cm s j).2/\dj (cm s (j+1)).2.1 (cm s (j+1)).2.2
theorem Rb:bu 59 f59:=bz func59
theorem QX {a:PP}:aH T AL [] 60 xq (before vS [1,1,1,0,1]) ⟨aV 0 [aX a],[],0⟩=
  let c2:Nat×(Nat->Rat):=(a.fst,fun i=>aW (rat (a.snd i) ah));let c1:PP:=aZ c2;some (aj [dU (fun i=>rat (a.snd i) ah) a.fst ah,a.fst<2^30,Trim c2,dj (a.fst-1) (dw fun i=>aW (rat (a.snd i) ah)),ya c2] (aj [(1:Nat)*1<=2^24] (aj [dU (fun i=>rat (c1.snd i) ah) c1.fst ah,c1.fst<2^40,dj (c1.fst-1) (dw fun i=>aW (rat (c1.snd i) ah))] (leaf normal ([aq 3 c1.fst fun i=>rat (c1.snd i) ah,own 20480 1 0 1,aq 3 (bY (dw fun i=>aW (rat (c1.snd i) ah)) (c1.fst-1)) fun i=>rat (dw (fun i=>aW (rat (c1.snd i) ah)) i) ah],[(20480,ay.mk true true 1 1 fun i=>nth [aq 3 c1.fst fun i=>rat (c1.snd i) ah] nil i)]))))):=ag
theorem ZP {x y:PP} {s:PP×PP} {j:Nat}:aH T AL [16] 60 xq [part vS [1,1,1,0,1,0,0]] ⟨aE xq [aX x,.own 0 1 0 (j+1),aX y],[(0,FM (j+1) s)],1⟩=
  let c6:Int:=(-1:Int);let c4:AV:=aq 3 y.fst fun i=>rat (y.snd i) ah;let c3:Nat:=j+1;let c2:Nat:=y.fst-1;let c7:Nat:=c3+1;let c5:Nat:=x.fst-c2;let c1:Nat:=bY (cD c2 (fun i=>aW (rat (y.snd i) ah)) (fun i=>aW (rat (x.snd i) ah)) c5 c5) x.fst;some (fork (decide ((↑y.fst:Int)>0)) (aj [(1:Nat)*1<=2^24,c7*((24:Nat)+1)*2<=2^47] (aj [dU (fun i=>rat (x.snd i) ah) x.fst ah,dU (fun i=>rat (y.snd i) ah) y.fst ah,x.fst<2^30,(1:Nat)<=y.fst,y.fst<2^30,x.fst=0\/aW (rat (x.snd (x.fst-1)) ah)≠0,aW (rat (y.snd c2) ah)≠0,rP x.fst c2 (fun i=>aW (rat (y.snd i) ah)) fun i=>aW (rat (x.snd i) ah)] (aj [-(2:Int)^63<=c6,c6<2^63,dU (fun i=>rat (cD c2 (fun i=>aW (rat (y.snd i) ah)) (fun i=>aW (rat (x.snd i) ah)) c5 c5 i) ah) c1 ah,Max.max 1 (bP c6.natAbs)<=s6,c1<2^40,dj c1 fun i=>(↑c6:Rat)*aW (rat (cD c2 (fun i=>aW (rat (y.snd i) ah)) (fun i=>aW (rat (x.snd i) ah)) c5 c5 i) ah)] (leaf normal ([c4,own 24577 1 0 c7,aq 3 c1 fun i=>rat ((↑c6:Rat)*aW (rat (cD c2 (fun i=>aW (rat (y.snd i) ah)) (fun i=>aW (rat (x.snd i) ah)) c5 c5 i) ah)) ah],[(24577,ay.mk true true 1 c7 fun i=>if i<c3 then aX (cm s i).fst else nth [aq 3 y.fst fun i=>rat (y.snd i) ah] nil (i-c3+0))]))))) (leaf (exit 0) ([aq 3 x.fst fun i=>rat (x.snd i) ah,own 0 1 0 c3,c4],[(0,ay.mk true true 1 c3 fun i=>aq 3 (cm s i).fst.fst fun i_1=>rat ((cm s i).fst.snd i_1) ah)]))):=ag
theorem PZ {s:PP×PP} {j:Nat}:dA T AL [] 60 f59 [part vS [1,1,1,1]] ⟨aE xq (MN s j),[(0,FM (j+1) s)],1⟩=
  some (leaf ret [aq 1 (j+1) fun i=>aq 3 (cm s (i+0)).fst.fst fun i_1=>rat ((cm s (i+0)).fst.snd i_1) ah]):=ag
theorem RR:bT P AL:=ja (aN Cg (aN Nh (aN BZ (aN aeJ ir))))
theorem Xo {a:PP} (ha:a.1<2^30) (ta:Trim a) (hd:dj (a.1-1) (dw a.2)) (hz:ya a) (hd2:dj ((aZ a).1-1) (dw (aZ a).2)) (hs:wI (dO a)) (K:Nat):aQ P 59 K [aX a] [] (aM (JF (gD (dO a)+1) (dO a)) []):=by
 obtain⟨s,hss⟩:∃s,s=dO a:=⟨_,rfl⟩
 have t1:Trim s.1:=by rw[hss];exact l9
 have t2:Trim s.2:=by rw[hss];exact dR
 have hTr:=oW t1 t2
 obtain⟨g1,g2,g3⟩:=nE t1 t2
 have hfl:(aZ a).1<=a.1:=by
  unfold aZ;split
  ·exact Nat.zero_le _
  ·exact Nat.le_trans fP (Nat.sub_le _ _)
 have hdl:(bL (aZ a)).1<=(aZ a).1-1:=fP
 have hB:=MG (s:=s) (B:=2^30-1) (by rw[hss];show(aZ a).1<=_;omega) (by rw[hss];show(bL (aZ a)).1<=_;omega) t1 t2
 have hg0:s.2.1=(bL (aZ a)).1:=by rw[hss];rfl
 have hg:gD s<2^30:=aa
 rw[<-hss]at hs ⊢
 refine nK (r:=aM (JF (gD s+1) s) []) hT RR hm Rb rfl bp rfl [1,1,1,0,1] (i:=0) (y:=part vS [1,1,1,0,1,0,0]) (z:=part vS [1,1,1,1]) ag ag ag (f1:=[]) (f2:=[16]) (f3:=[]) 60 xq 1
  (fun j:Nat=>MN s j) (fun j=>[(0,FM (j+1) s)]) (fun j=>j<=gD s) (fun j=>j=gD s) (fun j=>gD s-j) (fun _=>⟨⟨_,QX,?_⟩,fun j hj=>⟨_,ZP (x:=(cm s j).1) (y:=(cm s j).2),?_⟩,fun j hj=>⟨_,PZ,?_⟩⟩) K []
 ·simp only[af.all,aA]
  refine⟨⟨eG aS,ha,ta,hd,hz⟩,aa,⟨eG aS,Nat.lt_of_le_of_lt hfl aa,hd2⟩,0,Nat.zero_le _,[(0,20480)],rfl,by rw[hss];rfl,rfl,bH rfl rfl rfl (fun i hi=>?_) trivial⟩
  obtain rfl:i=0:=aa
  rw[hss];exact bX rfl rfl
 ·have h1:=hTr j
  have h3:=hB j hj
  have hb:bP (Int.natAbs (-1))=1:=by decide
  have hW:=dI
  have hX:=FH
  simp only[af.all,aA,bK,bO]
  refine⟨fun h=>?_,fun h=>?_⟩
  ·have hy:(cm s j).2.1≠0:=aa
   have hjl:j<gD s:=by
    rcases Nat.lt_or_ge j (gD s)with h|h
    ·exact h
    ·exact absurd (by rw[show j=gD s by omega];exact g2) hy
   have hr:(fl (cm s j).1 (cm s j).2).1<(cm s j).2.1:=nH aa h1.2
   have ty:(cm s j).2.2 ((cm s j).2.1-1)≠0:=by rcases h1.2 with h|h;omega;exact h
   refine⟨⟨aa,aa⟩,⟨eG aS,eG aS,aa,aa,aa,h1.1,ty,(hs j hjl).1⟩,⟨aa,aa,eG aS,by rw[hb,Nat.max_self];omega,by show(fl (cm s j).1 (cm s j).2).1<_;omega,(hs j hjl).2⟩,j+1,hjl,by dsimp only;omega,[(0,24577)],rfl,rfl,rfl,bH rfl rfl rfl (fun i hi=>?_) trivial⟩
   by_cases hi2:i<j+1
   ·rw[if_pos hi2];exact bX rfl rfl
   ·rw[if_neg hi2,show i-(j+1)+0=0 by omega,show i=j+1 by omega];exact bX rfl rfl
  ·have hjl:j=gD s:=by
    rcases Nat.lt_or_ge j (gD s)with h'|h'
    ·have:=g3 j h';omega
    ·omega
   exact⟨rfl,j,hjl,[(0,0)],rfl,rfl,rfl,bH rfl rfl rfl (fun i hi=>bX rfl rfl) trivial⟩
 ·subst hj
  exact .refl _
abbrev sK:Nat:=4096
abbrev ls (k:Nat->Rat) (n:Nat):AV:=bD k n sK
abbrev HR (n:Nat) (k:Nat->Rat) (i:Nat):List AV:=[ls k n,.ptr 0 0 3 0 [],.int .i64 i,.int .i64 0,.int .i64 0]
theorem acO {a b:Rat}:iw a b>=0↔b<=a:=by
 have:=@Bk a b
 constructor
 ·intro h
  have:¬a<b:=fun h'=>by have:=Bk.2 h';omega
  grind
 ·intro h
  have:¬iw a b<0:=fun h'=>by have:=Bk.1 h';grind
  omega
def Rt (n:Nat) (k:Nat->Rat) (t:Rat):Prop:=t<k 0\/k (n-1)<t
instance {n:Nat} {k:Nat->Rat} {t:Rat}:Decidable (Rt n k t):=inferInstanceAs (Decidable (t<k 0\/k (n-1)<t))
def IS (k:Nat->Rat) (i:Nat) (t:Rat) (d j:Nat):Rat:=if j=0 then 0 else fr (k (i-d+(j-1))) (k (i-d+(j-1)+(d+1))) t*vB k i t d (j-1)
theorem U8:bu 56 f56:=bz func56
theorem abl:bu 113 f113:=bz func113
def yg (k:Nat->Rat) (t:Rat):Nat->Nat
 |0=>0
 |i+1=>yg k t i+if k i=t then 1 else 0
def abb (k:Nat->Rat) (i:Nat):Prop:=i=0\/k i≠k (i-1)
instance {k:Nat->Rat} {i:Nat}:Decidable (abb k i):=inferInstanceAs (Decidable (i=0\/k i≠k (i-1)))
def Tk (n:Nat) (k:Nat->Rat) (p:Nat) (t:Rat):Prop:=((t=k 0\/t=k (n-1))/\yg k t n≠p+1)\/(¬(t=k 0\/t=k (n-1))/\p<yg k t n)
instance {n:Nat} {k:Nat->Rat} {p:Nat} {t:Rat}:Decidable (Tk n k p t):=inferInstanceAs (Decidable (((t=k 0\/t=k (n-1))/\yg k t n≠p+1)\/(¬(t=k 0\/t=k (n-1))/\p<yg k t n)))
def loadT (o:Oper):Nat:=match o.op with
 |.load t _=>t
 |_=>0
def Wc (o:Oper):Nat:=match o.op with
 |.binOp _ t _ _ _=>t
 |_=>0
def YS (o:Oper):Array TypeId:=match o.op with
 |.call c=>c.argTypes
 |_=>#[]
def UM (o:Oper):Nat:=match o.op with
 |.unOp _ t _=>t
 |_=>0
def I0:Code->Code×Code
 |.block _ (.rangeFunc _ _ x y)=>(x,y)
 |_=>(.skip,.skip)
def mh (a:PP) (t:Rat):Prop:=∀m,m<=a.1->Sz (fC a.1 a.2 t m) ah
abbrev Is:FuncId:=127
abbrev Ar:FuncId:=163
abbrev u7:Code:=aG f163
def dH (v:AV):PP:=match yl v with
 |some (n,f)=>(n,fun i=>aW (f i))
 |none=>(0,fun _=>0)
abbrev iE (n:Nat) (c:Nat->PP):AV:=.aq 1 n fun i=>aX (c i)
def uD:Kind (Nat×(Nat->PP)):=⟨fun v=>match v with
 |.aq 1 n f=>some ((n,fun i=>dH (f i)),[∀i,i<n->bG (f i) (aX (dH (f i)))])
 |_=>none,fun a=>iE a.1 a.2,fun {v a q} h hq=>by
  split at h
  ·simp only[ax,Prod.mk.injEq]at h
   obtain⟨rfl,rfl⟩:=h
   exact iz hq
  ·simp at h⟩
def vZ:Spec:=fu (kC (kL ah) (kC (gE ah) kN)) (fun a=>.rat (dm a.1 a.2.1) ah) fun a=>[a.1.1<2^40,mh a.1 a.2.1]
def dJ (c:Nat->PP) (t:Rat) (i:Nat):Int:=bC (dm (c i) t)
def BU:bB:=zG::(66,vZ)::ia
abbrev wu:Code:=aG f122
abbrev xY:List Nat:=[3,5,6,10,11,12]
abbrev AH (n:Nat) (c:Nat->PP) (l:Int) (m i:Nat):List AV:=[.ptr 0 0 3 0 [],.int .i64 l,.int .i64 m,iE n c,.int .i64 n,.int .i64 i]
def eI (n:Nat) (c:Nat->PP) (t:Rat):Prop:=∀i,i<n->(c i).1<2^40/\mh (c i) t
def Od:Spec:=fu (kC uD (kC (gE ah) kN)) (fun a=>.int .i64 ((cC (dJ a.1.2 a.2.1) a.1.1).2:Nat)) fun a=>[a.1.1<2^40,eI a.1.1 a.1.2 a.2.1]
def Gc:bB:=nG::(122,Od)::(66,vZ)::ia
def iM (n:Nat) (c:Nat->PP) (a b:Rat):Int:=if a>=b then 0 else((cC (dJ c a) n).2:Int)-((cC (dJ c b) n).2:Int)-(if dm (c 0) b=0 then 1 else 0)
theorem aet:bu Is f127:=bz func127
theorem Eu:bu Ar f163:=bz func163
theorem IF:bu 66 f66:=bz func66
theorem PR:bu 122 f122:=bz func122
theorem aaP:bu 60 f60:=bz func60
abbrev N9:Nat:=loadT (eM u7 [0] 0)
abbrev KM:Nat:=loadT (eM u7 [1,0,0,1,0,0,0] 5)
abbrev pbI:Nat:=Wc (eM u7 [0] 2)
theorem XG:He u7 N9 KM pbI:=⟨ag,⟨ag,ag,ag⟩,⟨ag,ag,ag⟩,⟨ag,ag,ag⟩,⟨ag,ag,ag⟩,⟨ag,ag,ag⟩,⟨ag,ag,ag⟩,⟨ag,ag,ag⟩,⟨ag,ag,ag⟩,⟨ag,ag,ag⟩,⟨ag,ag,ag⟩,⟨ag,ag,ag⟩,⟨ag,ag,ag⟩,
 ⟨YS (eM u7 [1,0,0,1,0,0,0] 6),ag,ag,ag⟩,⟨UM (eM u7 [1,0,0,1,0,0,0] 7),ag,ag,ag⟩,⟨ag,ag,ag⟩,⟨ag,ag,ag⟩,⟨ag,ag,ag⟩⟩
theorem YI {n s:Nat} {k:Nat->Rat} (hn:n<2^62):AT P Ar [.bR (bD k n s)] n (fun i=>.int .i64 ((n:Int)-1-i)) (fun i=>.rat (k (n-1-i)) s):=
 X2 hT (tiS:=(look N9 T).getD ⟨.bool,0,0,.nil⟩) (tiE:=(look KM T).getD ⟨.bool,0,0,.nil⟩) ag ag ag ag Eu.get Eu.body ag ag XG (f:=fun i=>.rat (k i) s) hn ag fun i hi=>⟨rfl,rfl⟩
def wC:bB:=nG::(Is,Db T [sG] [] 20 f127)::ia
abbrev wq:List Nat:=[3,4,5,9]
abbrev EH (a:PP):List AV:=[.ptr 0 0 3 0 [],.ptr 1 0 3 0 [],.ptr 2 0 3 0 [],.func Ar [.bR (aX a)]]
abbrev tR (q:Rat) (s:Nat):ay:=⟨false,true,3,1,fun _=>.rat q s⟩
abbrev wU (t x:Rat):aD:=[(2,tR x ah),(1,tR 0 1),(0,tR t ah)]
abbrev CQ:List Nat:=[3,4,5,9,7]
abbrev J3 (a:PP):List AV:=[.ptr 0 0 3 0 [],.ptr 1 0 3 0 [],.ptr 2 0 3 0 [],.func Ar [.bR (aX a)],.ptr 3 0 3 0 []]
abbrev rG:Code:=aG f66
abbrev Ir:Code:=(I0 (part rG [1,1,0,1])).1
abbrev J5:Code:=(I0 (part rG [1,1,0,1])).2
theorem XV {a:PP} {t:Rat}:aH T wC [] 60 wq (before rG [1,1,0,1]) ⟨aV 0 [aX a,.rat t ah],[],0⟩=
  let c1:ay:=gX fun x=>rat 0 1;some (leaf normal ([ptr 0 0 (eU (rat t ah)).size 0 [],ptr 4096 0 3 0 [],ptr 8192 0 3 0 [],func 163 [(aq 3 a.fst fun i=>rat (a.snd i) ah).bR]],[((8192:Nat),c1),((4096:Nat),c1),(0,ay.mk false true (eU (rat t ah)).size 1 fun x=>rat t ah)])):=ag
theorem aav {a:PP} {t x v:Rat} {u:Int}:aH T wC [] 60 CQ [Ir] ⟨aE (wq++[10,11]) (EH a++[.int .i64 u,.rat v ah]),wU t x,3⟩=
  let c1:AV:=rat 0 1;some (aj [(0:Nat)<1] (leaf normal ([ptr 0 0 3 0 [],ptr 1 0 3 0 [],ptr 2 0 3 0 [],func 163 [(aq 3 a.fst fun i=>rat (a.snd i) ah).bR],ptr 3 0 3 0 []],[((3:Nat),gX fun j=>if(j==0)=true then eU (rat v ah)else c1),((2:Nat),gX fun x_1=>rat x ah),((1:Nat),gX fun x=>c1),((0:Nat),gX fun x=>rat t ah)]))):=ag
theorem aeF {a:PP} {t x v:Rat}:aH T wC [] 60 wq [J5] ⟨aE CQ (J3 a),(3,tR v ah)::wU t x,4⟩=
  let c2:Prop:=0<1;let c1:Nat:=2^42;some (aj [c2,c2,ah<c1,ah<c1,c2,ah+ah<c1,ah<c1,c2] (leaf normal ([ptr 0 0 3 0 [],ptr 1 0 3 0 [],ptr 2 0 3 0 [],func 163 [(aq 3 a.fst fun i=>rat (a.snd i) ah).bR]],[((2:Nat),gX fun j=>if(j==0)=true then eU (AF (x*t,ah+ah) (v,ah))else rat x ah),((1:Nat),gX fun x=>rat 0 1),((0:Nat),gX fun x=>rat t ah)]))):=ag
theorem UE {a:PP} {t x:Rat}:dA T wC [] 60 f66 [part rG [1,1,1]] ⟨aE wq (EH a),wU t x,3⟩=
  let c1:Prop:=0<1;some (aj [c1,c1] (aj [c1] (leaf ret [rat x ah]))):=ag
theorem Pd {n:Nat} {c:Nat->PP} {t:Rat}:aH T BU [] 60 xY (before wu [1,1,0,1]) ⟨aV 0 [iE n c,.rat t ah],[],0⟩=
  let c1:AV:=int i64 0;some (leaf normal ([ptr 0 0 (eU (rat t ah)).size 0 [],c1,c1,aq 1 n fun i=>aq 3 (c i).fst fun i_1=>rat ((c i).snd i_1) ah,int i64 (↑n:Int),c1],[(0,ay.mk false true (eU (rat t ah)).size 1 fun x=>rat t ah)])):=ag
theorem ach {n m i:Nat} {c:Nat->PP} {l:Int} {t:Rat}:aH T BU [13,23,27] 60 xY [part wu [1,1,0,1,0,0]] ⟨aE xY (AH n c l m i),[(0,tR t ah)],1⟩=
  let c14:Int:=(↑n:Int);let c11:AV:=int i64 (↑m:Int);let c9:Int:=(↑m:Int)+1;let c8:AV:=aq 1 n fun i=>aq 3 (c i).fst fun i_1=>rat ((c i).snd i_1) ah;let c7:Int:=(2:Int)^63;let c6:Int:=(↑i:Int);let c5:AV:=ptr 0 0 3 0 [];let c3:List (Nat×ay):=[((0:Nat),gX fun x=>rat t ah)];let c13:Int:=c6+1;let c12:PP:=c c6.toNat;let c10:Nat×(Nat->Rat):=(c12.fst,fun i=>aW (rat (c12.snd i) ah));let c4:List Prop:=[-c7<=c13/\c13<c7];let c2:List AV:=[c8,int i64 c14,int i64 c13];let c1:Int:=bC (dm c10 t);some (fork (decide (c6<c14)) (aj [(0:Int)<=c6/\c6.toNat<n] (aj [(0:Nat)<1,dU (fun i=>rat (c12.snd i) ah) c12.fst ah,ah<=ah,c12.fst<2^40,mh c10 t,ah<2^42] (aj [-c7<=c1*l/\c1*l<c7] (fork (decide (c1*l<0)) (aj [-c7<=c9/\c9<c7] (fork (c1 !=(0:Int)) (aj c4 (leaf normal (c5::int i64 c1::int i64 c9::c2,c3))) (aj c4 (leaf normal (c5::int i64 l::int i64 c9::c2,c3))))) (fork (c1 !=(0:Int)) (aj c4 (leaf normal (c5::int i64 c1::c11::c2,c3))) (aj c4 (leaf normal (c5::int i64 l::c11::c2,c3)))))))) (leaf (exit 0) ([c5,int i64 l,c11,c8,int i64 c14,int i64 c6],c3))):=ag
theorem Ro {n m i:Nat} {c:Nat->PP} {l:Int} {t:Rat}:dA T BU [] 60 f122 [part wu [1,1,1]] ⟨aE xY (AH n c l m i),[(0,tR t ah)],1⟩=
  some (leaf ret [int i64 (↑m:Int)]):=ag
theorem OT {n:Nat} {c:Nat->PP} {x y:Rat}:cq T Gc [11,25] 60 f60 (aG f60) ⟨aV 0 [iE n c,.rat x ah,.rat y ah],[],0⟩=
  let c6:Nat:=2^40;let c5:Prop:=ah<2^42;let c4:Int:=(2:Int)^63;let c3:Prop:=0<1;let c2:PP:=c (Int.toNat (0:Int));let c1:Int:=(↑(cC (dJ (fun i=>dH (aX (c i))) x) n).snd:Int)-(↑(cC (dJ (fun i=>dH (aX (c i))) y) n).snd:Int);let c8:Int:=c1-1;let c7:Nat×(Nat->Rat):=(c2.fst,fun i=>aW (rat (c2.snd i) ah));some (aj [c3,c3,c5,c5] (fork (decide (iw x y>=0)) (leaf ret [int i64 0]) (aj [c3,∀(i:Nat),i<n->bG (aX (c i)) (aX (dH (aX (c i)))),ah<=ah,n<c6,eI n (fun i=>dH (aX (c i))) x,c3,∀(i:Nat),i<n->bG (aX (c i)) (aX (dH (aX (c i)))),ah<=ah,n<c6,eI n (fun i=>dH (aX (c i))) y,-c4<=c1/\c1<c4] (aj [(0:Int)<=0/\Int.toNat (0:Int)<n,c3,dU (fun i=>rat (c2.snd i) ah) c2.fst ah,ah<=ah,c2.fst<c6,mh c7 y,c5] (fork (bC (dm c7 y)==0) (aj [-c4<=c8/\c8<c4] (leaf ret [int i64 c8])) (leaf ret [int i64 c1])))))):=ag
theorem JR:bT P wC:=jM (aN (Ku hT (yM ct) hm aet _ _) ir)
theorem Z6 {a:PP} {t:Rat} (hn:a.1<2^40) (hz:mh a t) (K:Nat):aQ P 66 K [aX a,.rat t ah] [] (aM (.rat (dm a t) ah) []):=by
 have hW:=dI
 refine acZ (r:=aM (.rat (dm a t) ah) []) hT IF rfl bp rfl (fun _ cx hro hk=>?_) K []
 refine au.U1 hT JR hm (x:=rG) (assign:=Ir) (body:=J5) (g:=9) (p0:=10) (p1:=11) [1,1,0,1] (i:=0) ag ag IF.dst hro hk Eu.enters (YI (s:=ah) (k:=a.2) (n:=a.1) aa) bp bp (by decide) (f1:=[]) (f2:=[]) (f3:=[])
  60 wq CQ (EH a) (fun _=>rfl) rfl (fun i=>wU t (fC a.1 a.2 t i)) 3 4 (fun _=>J3 a) (fun i=>(3,tR (a.2 (a.1-1-i)) ah)::wU t (fC a.1 a.2 t i)) [0,1,2] ⟨_,XV,?_⟩ (fun i hi=>⟨_,aav,?_⟩) (fun i hi=>⟨_,aeF,?_⟩) ?_
 ·simp only[af.all,aA]
  exact⟨trivial,[(0,0),(1,4096),(2,8192)],rfl,rfl,rfl,mu rfl rfl (.inr ⟨rfl,dD rfl aa⟩) (dY (dY trivial))⟩
 ·simp only[af.all,aA]
  exact⟨aa,trivial,[(0,0),(1,1),(2,2),(3,3)],rfl,rfl,rfl,dY (dY (dY (dY trivial)))⟩
 ·simp only[af.all,aA]
  exact⟨aa,trivial,[(0,0),(1,1),(2,2)],rfl,rfl,rfl,mu rfl rfl (.inr ⟨rfl,fj rfl (hz (i+1) hi)⟩) (dY (dY trivial))⟩
 ·rw[show behind rG [1,1,0,1]=[part rG [1,1,1]]from by kernel_rfl]
  exact(aF.fin hT JR hm 60 UE ag (by simp only[af.all,aA];exact⟨aa,aa,.refl _⟩)).mono fun _ _ h=>.inl h
theorem zP:bA P vZ 66:=fF fun⟨a,t,_⟩ K hn=>Z6 hn.1 hn.2 K
theorem ZC (q:Rat):-1<=bC q/\bC q<=1:=by unfold bC;split<;>(try split)<;>omega
theorem BK {s:Nat->Int} (h:∀i,-1<=s i/\s i<=1):∀i,(-1<=(cC s i).1/\(cC s i).1<=1)/\(cC s i).2<=i
 |0=>⟨⟨show(-1:Int)<=0 by decide,show(0:Int)<=1 by decide⟩,aS⟩
 |i+1=>by
  have ih:=BK h i
  have hi:=h i
  refine⟨?_,?_⟩
  ·show-1<=(if s i=0 then(cC s i).1 else s i)/\(if s i=0 then(cC s i).1 else s i)<=1
   split
   ·exact ih.1
   ·exact hi
  ·show(if s i*(cC s i).1<0 then(cC s i).2+1 else(cC s i).2)<=i+1
   split<;>omega
theorem Ah {c:Nat->PP} {t:Rat} (i:Nat):-1<=dJ c t i/\dJ c t i<=1:=ZC _
theorem adN {a b:Int} (ha:-1<=a/\a<=1) (hb:-1<=b/\b<=1):-1<=a*b/\a*b<=1:=by
 rcases(show a=-1\/a=0\/a=1 by omega)with rfl|rfl|rfl<;>omega
theorem OI:bT P BU:=ja (aN zP ir)
theorem XQ {n:Nat} {c:Nat->PP} {t:Rat} (hn:n<2^40) (hz:eI n c t) (K:Nat):aQ P 122 K [iE n c,.rat t ah] [] (aM (.int .i64 ((cC (dJ c t) n).2:Nat)) []):=by
 have hW:=dI
 refine nK (r:=aM (.int .i64 ((cC (dJ c t) n).2:Nat)) []) hT OI hm PR rfl bp rfl [1,1,0,1] (i:=0) (y:=part wu [1,1,0,1,0,0]) (z:=part wu [1,1,1]) ag ag ag (f1:=[]) (f2:=[13,23,27]) (f3:=[]) 60 xY 1
  (fun i:Nat=>AH n c (cC (dJ c t) i).1 (cC (dJ c t) i).2 i) (fun _=>[(0,tR t ah)]) (fun i=>i<=n) (fun i=>i=n) (fun i=>n-i) (fun _=>⟨⟨_,Pd,?_⟩,fun i hi=>⟨_,ach,?_⟩,fun i hi=>⟨_,Ro,?_⟩⟩) K []
 ·simp only[af.all,aA]
  exact⟨0,Nat.zero_le _,[(0,0)],rfl,rfl,rfl,dY trivial⟩
 ·obtain⟨h1,h2⟩:=BK (s:=dJ c t) Ah i
  have h3:=Ah (c:=c) (t:=t) i
  have h4:=adN h3 h1
  have e1:bC (dm (c i) t)=dJ c t i:=rfl
  have e2:(cC (dJ c t) (i+1)).1=if dJ c t i=0 then(cC (dJ c t) i).1 else dJ c t i:=rfl
  have e3:(cC (dJ c t) (i+1)).2=if dJ c t i*(cC (dJ c t) i).1<0 then(cC (dJ c t) i).2+1 else(cC (dJ c t) i).2:=rfl
  simp only[af.all,aA,bK,bO,bE,bne_iff_ne,ne_eq,bne_eq_false_iff_eq]
  show((i:Int)<n->_/\(_/\dU _ _ _/\_/\_/\mh (c i) t/\_)/\(-2^63<=dJ c t i*_/\dJ c t i*_<2^63)/\(dJ c t i*_<0->_/\(¬dJ c t i=0->_)/\(dJ c t i=0->_))/\(¬dJ c t i*_<0->(¬dJ c t i=0->_)/\(dJ c t i=0->_)))/\_
  have re:∀{l:Int} {m:Int},l=(cC (dJ c t) (i+1)).1->m=((cC (dJ c t) (i+1)).2:Nat)->fU [] ([.ptr 0 0 3 0 [],.int .i64 l,.int .i64 m,iE n c,.int .i64 n,.int .i64 ((i:Int)+1)],[((0:Nat),tR t ah)]) (AH n c (cC (dJ c t) (i+1)).1 (cC (dJ c t) (i+1)).2 (i+1)) [(0,tR t ah)] 1:=fun {l m} hl hm=>by
   subst hl hm
   exact⟨[(0,0)],rfl,by rw[show(i:Int)+1=((i+1:Nat):Int) by omega];rfl,rfl,dY trivial⟩
  refine⟨fun h=>⟨aa,⟨aa,eG aS,aS,(hz i aa).1,(hz i aa).2,aa⟩,aa,fun h5=>⟨aa,fun h6=>⟨aa,i+1,aa,by dsimp only;omega,re (by rw[e2,if_neg h6];rfl) (by rw[e3,if_pos h5];omega)⟩,fun h6=>⟨aa,i+1,aa,by dsimp only;omega,re (by rw[e2,if_pos h6]) (by rw[e3,if_pos h5];omega)⟩⟩,
   fun h5=>⟨fun h6=>⟨aa,i+1,aa,by dsimp only;omega,re (by rw[e2,if_neg h6];rfl) (by rw[e3,if_neg h5])⟩,fun h6=>⟨aa,i+1,aa,by dsimp only;omega,re (by rw[e2,if_pos h6]) (by rw[e3,if_neg h5])⟩⟩⟩,fun h=>⟨rfl,i,aa,[(0,0)],rfl,rfl,rfl,dY trivial⟩⟩
 ·subst hi;exact .refl _
theorem aaO:bA P Od 122:=fF fun⟨⟨n,c⟩,t,_⟩ K hn=>XQ hn.1 hn.2 K
theorem Vi:bT P Gc:=jM (aN aaO (aN zP ir))
theorem ad5 {n:Nat} {c:Nat->PP} {x y:Rat} (h0:0<n) (hn:n<2^40) (hx:eI n c x) (hy:eI n c y) (K:Nat):aQ P 60 K [iE n c,.rat x ah,.rat y ah] [] (aM (.int .i64 (iM n c x y)) []):=by
 have hW:=dI
 refine cA hT Vi hm aaP rfl bp rfl 60 OT (fun _=>?_) K []
 have hbx:=(BK (s:=dJ c x) Ah n).2
 have hby:=(BK (s:=dJ c y) Ah n).2
 simp only[af.all,aA,acO,bK,bO,rV]
 show _/\(x>=y->_)/\(¬x>=y->(_/\(∀i,i<n->bG (aX (c i)) (aX (c i)))/\_/\_/\eI n c x/\_/\_/\_/\_/\eI n c y/\(-2^63<=((cC (dJ c x) n).2:Int)-((cC (dJ c y) n).2:Int)/\((cC (dJ c x) n).2:Int)-((cC (dJ c y) n).2:Int)<2^63))/\(_/\_/\_/\_/\_/\mh (c 0) y/\_)/\(dm (c 0) y=0->_)/\(¬dm (c 0) y=0->_))
 refine⟨aa,fun h=>?_,fun h=>⟨⟨aa,fun i _=>.refl _,aS,hn,hx,aa,fun i _=>.refl _,aS,hn,hy,aa⟩,⟨aa,aa,eG aS,aS,(hy 0 h0).1,(hy 0 h0).2,aa⟩,fun h2=>⟨?_,?_⟩,fun h2=>?_⟩⟩
 ·exact bV (if_pos h).symm
 ·show-2^63<=((cC (dJ c x) n).2:Int)-((cC (dJ c y) n).2:Int)-1/\((cC (dJ c x) n).2:Int)-((cC (dJ c y) n).2:Int)-1<2^63
  omega
 ·exact bV (by unfold iM;rw[if_neg h,if_pos h2];rfl)
 ·exact bV (by unfold iM;rw[if_neg h,if_neg h2,Int.sub_zero];rfl)
def Bq:Spec:=fu (kC uD (kC (gE ah) (kC (gE ah) kN))) (fun a=>.int .i64 (iM a.1.1 a.1.2 a.2.1 a.2.2.1)) fun a=>[0<a.1.1,a.1.1<2^40,eI a.1.1 a.1.2 a.2.1,eI a.1.1 a.1.2 a.2.2.1]
theorem EB:bA P Bq 60:=fF fun⟨⟨n,c⟩,x,y,_⟩ K hn=>ad5 hn.1 hn.2.1 hn.2.2.1 hn.2.2.2 K
def aJ (p:PP):PP:=(bY (gA p.1 p.2) p.1,gA p.1 p.2)
def sk (a:PP):PP:=(mz a.1,qn a.1 a.2)
def mF (p:PP):Prop:=1<=p.1/\p.1<=41/\xS p.1 p.2
def tO (a:PP):Prop:=a.1<=41/\jG a.1 a.2
abbrev aR (a:PP):Prop:=dU (fun i=>.rat (a.2 i) ah) a.1 ah
def TA:PP:=(0,fun _=>0)
def zE (n:Nat):Int:=if n=0 then 3 else 0
def D9:Spec:=fu (kC (kL ah) kN) (fun a=>aX (aJ a.1)) fun a=>[mF a.1]
def Me:Spec:=fu (kC (kL ah) kN) (fun a=>aX (sk a.1)) fun a=>[tO a.1]
def Oh:Spec:=fu (kC (kL ah) (kC (kL ah) kN)) (fun a=>.tuple [aX (gk a.1 a.2.1),aX (fl a.1 a.2.1)]) fun a=>[a.1.1<2^30,1<=a.2.1.1,a.2.1.1<2^30,Trim a.1,Trim a.2.1,rj a.1 a.2.1]
def tP (a:PP):Prop:=a.1<2^30/\Trim a/\dj (a.1-1) (dw a.2)/\ya a
def oS (a:PP):Prop:=tP a/\dj ((aZ a).1-1) (dw (aZ a).2)/\wI (dO a)
def Ji:Spec:=fu (kC (kL ah) kN) (fun a=>aX (aZ a.1)) fun a=>[tP a.1]
def bN (a:PP) (i:Nat):PP:=(cm (dO a) i).1
def bU (a:PP):Nat:=gD (dO a)+1
def D8:Spec:=fu (kC (kL ah) kN) (fun a=>iE (bU a.1) (bN a.1)) fun a=>[oS a.1]
def Fb:bB:=zG::(57,D9)::(88,Oh)::(81,Me)::(80,Ji)::(72,AN)::(59,D8)::(60,Bq)::ia
def fh (p:PP):PP:=if(aJ p).1=0 then TA else sk (aZ (aJ p))
def lH (p:PP) (a b:Rat):Int:=if(aJ p).1=0 then 3 else if a>b then 7 else 0
def kQ (p:PP) (a b:Rat):Int:=if lH p a b=0 then iM (bU (aJ p)) (bN (aJ p)) a b else 0
theorem VD:bu 22 f22:=bz func22
theorem Yr:bu 16 f16:=bz func16
theorem Z0 {p:PP}:cq T Fb [9] 60 f22 (aG f22) ⟨aV 0 [aX p],[],0⟩=
  some (aj [aR p,mF p] (fork (((aJ p).1:Int)==0) (leaf ret [nil,int i64 3]) (aj [aR (aJ p),tP (aJ p),aR (aZ (aJ p)),tO (aZ (aJ p))] (leaf ret [aX (sk (aZ (aJ p))),int i64 0])))):=ag
theorem W4 {p:PP} {a b:Rat}:cq T Fb [11,15] 60 f16 (aG f16) ⟨aV 0 [aX p,.rat a ah,.rat b ah],[],0⟩=
  some (aj [aR p,mF p] (fork (((aJ p).1:Int)==0) (leaf ret [int i64 0,int i64 3]) (aj [(0:Nat)<1,(0:Nat)<1,ah<2^42,ah<2^42] (fork (decide (iw a b>0)) (leaf ret [int i64 0,int i64 7]) (aj [aR (aJ p),oS (aJ p),(0:Nat)<1,(0:Nat)<1,∀i,i<bU (aJ p)->bG (aX (bN (aJ p) i)) (aX (bN (aJ p) i)),ah<=ah,ah<=ah,0<bU (aJ p),bU (aJ p)<2^40,eI (bU (aJ p)) (bN (aJ p)) a,eI (bU (aJ p)) (bN (aJ p)) b] (leaf ret [int i64 (iM (bU (aJ p)) (bN (aJ p)) a b),int i64 0])))))):=ag
theorem Mq:bA P D9 57:=fF fun⟨a,_⟩ K hn=>acr hn.1 hn.2.1 hn.2.2 K
theorem adx:bA P Me 81:=fF fun⟨a,_⟩ K hn=>RT hn.1 hn.2 K
theorem RJ:bA P Oh 88:=fF fun⟨⟨n,a⟩,⟨m,d⟩,_⟩ K hn=>by
 obtain⟨h1,h2,h3,h4,h5,h6⟩:=hn
 simp only at h1 h2 h3
 obtain⟨e,rfl⟩:∃e,m=e+1:=⟨m-1,aa⟩
 have hd:d e≠0:=h5.resolve_left (Nat.succ_ne_zero e)
 cases n with
 |zero=>exact Ol aa K
 |succ n=>exact Nr h1 aa (h4.resolve_left (Nat.succ_ne_zero n)) hd h6 K
theorem abd:bA P Ji 80:=fF fun⟨a,_⟩ K hn=>HZ hn.1 hn.2.1 hn.2.2.1 hn.2.2.2 K
theorem IN:bA P D8 59:=fF fun⟨a,_⟩ K hn=>Xo hn.1.1 hn.1.2.1 hn.1.2.2.1 hn.1.2.2.2 hn.2.1 hn.2.2 K
theorem Kk:bT P Fb:=ja (aN Mq (aN RJ (aN adx (aN abd (aN Dh (aN IN (aN EB ir)))))))
theorem mE {a:PP}:aR a:=eG aS
theorem WH {f:Nat->Rat} {n:Nat} (h:n=0):bG .nil (bD f n ah):=by subst h;exact lS aa
def zj (p:PP):Prop:=(aJ p).1≠0->tP (aJ p)/\tO (aZ (aJ p))
theorem ZM {p:PP} (hp:mF p) (hz:zj p) (K:Nat):aQ P 22 K [aX p] [] (aM (.tuple [aX (fh p),.int .i64 (zE (aJ p).1)]) []):=by
 refine cA hT Kk hm VD rfl bp rfl 60 Z0 (fun _=>?_) K []
 simp only[af.all,aA,beq_iff_eq,beq_eq_false_iff_ne]
 refine⟨⟨mE,hp⟩,fun h=>?_,fun h=>?_⟩
 ·have h0:(aJ p).1=0:=aa
  refine⟨WH ?_,bV (if_pos h0).symm,trivial⟩
  unfold fh;rw[if_pos h0];rfl
 ·have h0:¬(aJ p).1=0:=aa
  obtain⟨z1,z2⟩:=hz h0
  refine⟨⟨mE,z1,mE,z2⟩,?_⟩
  unfold fh
  rw[if_neg h0]
  exact⟨.refl _,bV (if_neg h0).symm,trivial⟩
def xd (p:PP) (a b:Rat):Prop:=mF p/\((aJ p).1≠0->oS (aJ p)/\bU (aJ p)<2^40/\eI (bU (aJ p)) (bN (aJ p)) a/\eI (bU (aJ p)) (bN (aJ p)) b)
theorem Wf {p:PP} {a b:Rat} (hz:xd p a b) (K:Nat):aQ P 16 K [aX p,.rat a ah,.rat b ah] [] (aM (.tuple [.int .i64 (kQ p a b),.int .i64 (lH p a b)]) []):=by
 obtain⟨hp,hz⟩:=hz
 have hW:=dI
 refine cA hT Kk hm Yr rfl bp rfl 60 W4 (fun _=>?_) K []
 have hgt:∀{x y:Rat},iw x y>0↔x>y:=HO
 simp only[af.all,aA,beq_iff_eq,beq_eq_false_iff_ne,bK,bO,hgt]
 refine⟨⟨mE,hp⟩,fun h=>?_,fun h=>⟨aa,fun h2=>?_,fun h2=>?_⟩⟩
 ·have h0:(aJ p).1=0:=aa
  have e1:lH p a b=3:=if_pos h0
  exact⟨bV (by unfold kQ;rw[e1];rfl),bV e1.symm,trivial⟩
 ·have h0:¬(aJ p).1=0:=aa
  have e1:lH p a b=7:=by unfold lH;rw[if_neg h0,if_pos h2]
  exact⟨bV (by unfold kQ;rw[e1];rfl),bV e1.symm,trivial⟩
 ·have h0:¬(aJ p).1=0:=aa
  have e1:lH p a b=0:=by unfold lH;rw[if_neg h0,if_neg h2]
  obtain⟨z1,z2,z3,z4⟩:=hz h0
  exact⟨⟨mE,z1,aa,aa,fun i _=>.refl _,aS,aS,Nat.succ_pos _,z2,z3,z4⟩,bV (by unfold kQ;rw[if_pos e1]),bV e1.symm,trivial⟩
def zM:bB:=zG::nr
def Br:bB:=zG::(46,BQ)::nr
abbrev yx:Code:=aG f91
abbrev vL:List Nat:=[0,1,4,5,6]
abbrev FD (n k i:Nat):List AV:=[.int .i64 n,.int .i64 k,.ptr 0 0 3 0 [],.ptr 1 0 3 0 [],.int .i64 i]
abbrev EM (x:Rat):aD:=[(1,tR x 64),(0,tR 0 1)]
def FZ:Spec:=b7 fun l=>match l with
 |[.int .i64 n,.int .i64 k]=>some (aM (.rat ((bn n.toNat k.toNat:Int):Rat) 64) [0<=k,k<=n,n<=40])
 |_=>none
theorem R6:bu 91 f91:=bz func91
theorem ZS {n k:Nat}:aH T Br [] 60 vL (before yx [1,1,0,1]) ⟨aV 0 [.int .i64 n,.int .i64 k],[],0⟩=
  let c1:AV:=rat 0 1;some (aj [-(2:Int)^63<=(1:Int),(1:Int)<2^63,(0:Nat)<1] (leaf normal ([int i64 (↑n:Int),int i64 (↑k:Int),ptr 0 0 3 0 [],ptr 8192 0 3 0 [],int i64 0],[((8192:Nat),gX fun j=>if(j==0)=true then eU (rat (↑(1:Int):Rat) (Max.max 1 (bP (Int.natAbs (1:Int)))))else c1),((0:Nat),gX fun x=>c1)]))):=ag
theorem VG {n k i:Nat} {x:Rat}:aH T Br [10] 60 vL [part yx [1,1,0,1,0,0]] ⟨aE vL (FD n k i),EM x,2⟩=
  let c9:Int:=(↑k:Int);let c8:Int:=(↑i:Int);let c7:Prop:=64<2^41;let c6:AV:=ptr 1 0 3 0 [];let c5:AV:=ptr 0 0 3 0 [];let c4:Nat×ay:=((0:Nat),gX fun x=>rat 0 1);let c1:Int:=(2:Int)^63;let c3:Int:=(↑n:Int)-c8;let c2:Int:=c8+1;some (fork (decide (c8<c9)) (aj [(0:Nat)<1,-c1<=c3/\c3<c1,-c1<=c2/\c2<c1,-c1<=c3,c3<c1,-c1<=c2,c2<c1,c7,c7,(0:Nat)<1] (aj [-c1<=c2/\c2<c1] (leaf normal ([int i64 (↑n:Int),int i64 c9,c5,c6,int i64 c2],[((1:Nat),gX fun j=>if(j==0)=true then eU (C0 (x,(64:Nat)) ((↑c3:Rat)/(↑c2:Rat),(64:Nat)))else rat x 64),c4])))) (leaf (exit 0) ([int i64 (↑n:Int),int i64 c9,c5,c6,int i64 c8],[((1:Nat),gX fun x_1=>rat x 64),c4]))):=ag
theorem Pq {n k i:Nat} {x:Rat}:dA T Br [] 60 f91 [part yx [1,1,1]] ⟨aE vL (FD n k i),EM x,2⟩=
  let c1:Prop:=0<1;some (aj [c1,c1] (aj [c1] (leaf ret [rat x 64]))):=ag
theorem YA:bT P zM:=ja o4
theorem adE:bT P Br:=ja (aN D4 o4)
theorem aer {n i:Nat} (h:i<n):((bn n i:Int):Rat)*((((n:Int)-(i:Int):Int):Rat)/(((i:Int)+1:Int):Rat))=((bn n (i+1):Int):Rat):=by
 have h1:=ze n i
 have h2:(((i:Int)+1:Int):Rat)≠0:=by
  intro h0
  have:((i:Int)+1:Int)=0:=by exact_mod_cast h0
  omega
 have h3:((bn n (i+1):Int):Rat)*(((i:Int)+1:Int):Rat)=((bn n i:Int):Rat)*(((n:Int)-(i:Int):Int):Rat):=by
  rw[<-Rat.intCast_mul,<-Rat.intCast_mul]
  congr 1
  have:((bn n (i+1)*(i+1):Nat):Int)=((bn n i*(n-i):Nat):Int):=by rw[Nat.mul_comm,h1,Nat.mul_comm]
  rw[Int.natCast_mul,Int.natCast_mul,Int.natCast_sub aa]at this
  exact this
 rw[Rat.div_def,<-Rat.mul_assoc,<-h3,Rat.mul_assoc,Rat.mul_inv_cancel _ h2,Rat.mul_one]
theorem Zi {n k:Nat} (hk0:k<=n) (hn:n<=40) (K:Nat):aQ P 91 K [.int .i64 n,.int .i64 k] [] (aM (.rat ((bn n k:Int):Rat) 64) []):=by
 refine nK (r:=aM (.rat ((bn n k:Int):Rat) 64) []) hT adE hm R6 rfl bp rfl [1,1,0,1] (i:=0) (y:=part yx [1,1,0,1,0,0]) (z:=part yx [1,1,1]) ag ag ag (f1:=[]) (f2:=[10]) (f3:=[]) 60 vL 2
  (fun i:Nat=>FD n k i) (fun i=>EM ((bn n i:Int):Rat)) (fun i=>i<=k) (fun i=>i=k) (fun i=>k-i) (fun _=>⟨⟨_,ZS,?_⟩,fun i hi=>⟨_,VG,?_⟩,fun i hi=>⟨_,Pq,?_⟩⟩) K []
 ·simp only[af.all,aA]
  exact⟨⟨aa,aa,aa⟩,0,Nat.zero_le _,[(0,0),(1,8192)],rfl,rfl,rfl,mu rfl rfl (.inr ⟨rfl,dD (by rw[qc];rfl) (by decide)⟩) (dY trivial)⟩
 ·have h1:=zY (n:=n) (k:=i+1) hn
  simp only[af.all,aA,bK,bO]
  refine⟨fun h=>⟨⟨aa,aa,aa,aa,aa,aa,aa,aa,aa,aa⟩,aa,i+1,aa,by dsimp only;omega,[(0,0),(1,1)],rfl,by rw[show(i:Int)+1=((i+1:Nat):Int) by omega];rfl,rfl,mu rfl rfl (.inr ⟨rfl,fj (aer aa) (zR (y:=0) aa aa)⟩) (dY trivial)⟩,fun h=>⟨rfl,i,aa,[(0,0),(1,1)],rfl,rfl,rfl,dY (dY trivial)⟩⟩
 ·subst hi
  simp only[af.all,aA]
  exact⟨⟨aa,aa⟩,aa,.refl _⟩
theorem II:bA P FZ 91:=by
 refine cP fun K args r hk hs _=>?_
 split at hs
 ·rename_i n k
  simp only[ax]at hs
  subst hs
  intro hn
  have h1:0<=k:=hn.1
  have h2:k<=n:=hn.2.1
  have h3:n<=40:=hn.2.2
  have:=Zi (n:=n.toNat) (k:=k.toNat) aa aa K
  rw[Int.toNat_of_nonneg h1,Int.toNat_of_nonneg aa]at this
  exact this trivial
 ·simp at hs
def qU:bB:=zG::(91,FZ)::(93,jA kR kR NC qx)::nr
abbrev v7:Code:=aG f96
abbrev yd:Code:=part v7 [1,1,1,1,0,1,0,0]
abbrev yA:Code:=part yd [1,0,0]
abbrev sB:List Nat:=[0,4,5,6]
abbrev BB (m:Nat) (c:Nat->Rat) (i:Nat):List AV:=[bD c (m+1) ah,.int .i64 m,.own 0 3 0 i,.int .i64 i]
abbrev vH:List Nat:=[0,4,5,6,7,8]
abbrev Dg (m:Nat) (c:Nat->Rat) (i k:Nat):List AV:=[bD c (m+1) ah,.int .i64 m,.own 0 3 0 i,.int .i64 i,.ptr 1 0 3 0 [],.int .i64 k]
def LH:Spec:=fu (kC (kL ah) kN) (fun a=>.tuple [bD (eJ a.1.1 a.1.2) a.1.1 ah,.int .i64 0]) fun a=>[1<=a.1.1,a.1.1<=41,jG a.1.1 a.1.2]
theorem L6:bu 96 f96:=bz func96
theorem OG {m:Nat} {c:Nat->Rat}:aH T qU [200014,200017] 60 sB (before v7 [1,1,1,1,0,1]) ⟨aV 0 [bD c (m+1) ah],[],0⟩=
  let c1:Int:=(↑(m+1):Int)-1;some (aj [-(2:Int)^63<=c1/\c1<2^63] (aj [decide (c1<0)=false] (aj [(bif false then true else decide (c1>40))=false] (leaf normal ([aq 3 (m+1) fun i=>rat (c i) ah,int i64 c1,nil,int i64 0],[]))))):=ag
theorem Xv {m i:Nat} {c x:Nat->Rat}:aH T qU [20] 60 sB (before yd [1,0]) ⟨aE sB (BB m c i),[(0,cZ i x ah)],1⟩=
  let c1:List AV×aD:=([aq 3 (m+1) fun i=>rat (c i) ah,int i64 (↑m:Int),own 0 3 0 i,int i64 (↑i:Int)],[(0,ay.mk true true 3 i fun i=>rat (x i) ah)]);some (fork (decide ((↑i:Int)<=(↑m:Int))) (leaf normal c1) (leaf (exit 0) c1)):=ag
theorem XS {m i:Nat} {c x:Nat->Rat}:aH T qU [] 60 vH (before yA [1,0,1]) ⟨aE sB (BB m c i),[(0,cZ i x ah)],1⟩=
  some (leaf normal ([aq 3 (m+1) fun i=>rat (c i) ah,int i64 (↑m:Int),own 0 3 0 i,int i64 (↑i:Int),ptr 1 0 3 0 [],int i64 0],[((1:Nat),gX fun x=>rat 0 1),(0,ay.mk true true 3 i fun i=>rat (x i) ah)])):=ag
theorem ZN {m i k:Nat} {c x:Nat->Rat} {q:Rat}:aH T qU [25] 60 vH [part yA [1,0,1,0,0]] ⟨aE vH (Dg m c i k),[(1,tR q ah),(0,cZ i x ah)],2⟩=
  let c9:Int:=(↑m:Int);let c8:AV:=own 0 3 0 i;let c7:Nat:=64+64;let c6:Int:=(↑i:Int);let c5:AV:=ptr 1 0 3 0 [];let c4:AV:=aq 3 (m+1) fun i=>rat (c i) ah;let c3:Nat×ay:=(0,ay.mk true true 3 i fun i=>rat (x i) ah);let c2:Nat:=2^41;let c1:Int:=(↑k:Int);let c11:Prop:=(0:Int)<=c1;let c10:Int:=c1+1;some (fork (decide (c1<=c6)) (aj [(0:Nat)<1,c11,c1<=c6,c6<=40,c11,c1<=c9,c9<=40,(64:Nat)<c2,(64:Nat)<c2,c11/\c1.toNat<m+1,c7<c2,ah<c2,ah<c2,c7+ah<c2,(0:Nat)<1] (aj [-(2:Int)^63<=c10/\c10<2^63] (leaf normal ([c4,int i64 c9,c8,int i64 c6,c5,int i64 c10],[((1:Nat),gX fun j=>if(j==0)=true then eU (AF (q,ah) ((↑(↑(bn c6.toNat c1.toNat):Int):Rat)/(↑(↑(bn c9.toNat c1.toNat):Int):Rat)*c c1.toNat,c7+ah))else rat q ah),c3])))) (leaf (exit 2) ([c4,int i64 c9,c8,int i64 c6,c5,int i64 c1],[((1:Nat),gX fun x=>rat q ah),c3]))):=ag
theorem Vy {m i k:Nat} {c x:Nat->Rat} {q:Rat}:aH T qU [] 60 sB (behind yA [1,0,1]++[part yd [1,1]]) ⟨aE vH (Dg m c i k),[(1,tR q ah),(0,cZ i x ah)],2⟩=
  let c1:Int:=(↑i:Int)+1;some (aj [(0:Nat)<1,(1:Nat)*3<=2^24,(i+1)*((56:Nat)+1)*2<=2^47] (aj [-(2:Int)^63<=c1/\c1<2^63] (leaf normal ([aq 3 (m+1) fun i=>rat (c i) ah,int i64 (↑m:Int),own 12290 3 0 (i+1),int i64 c1],[(12290,ay.mk true true 3 (i+1) fun i_1=>if i_1<i then rat (x i_1) ah else nth [rat q ah] (rat 0 1) (i_1-i+0))])))):=ag
theorem YK {m i:Nat} {c x:Nat->Rat}:dA T qU [] 60 f96 [part v7 [1,1,1,1,1]] ⟨aE sB (BB m c i),[(0,cZ i x ah)],1⟩=
  some (leaf ret [aq 3 i fun i=>rat (x (i+0)) ah,int i64 0]):=ag
theorem JA:bT P qU:=ja (aN II (aN (jZ fun _ _ K hn=>Hq hn.1 hn.2 K) o4))
theorem aef {m:Nat} {c:Nat->Rat} (hm1:m<=40) (hz:jG (m+1) c) (K:Nat):aQ P 96 K [bD c (m+1) ah] [] (aM (.tuple [bD (eJ (m+1) c) (m+1) ah,.int .i64 0]) []):=by
 refine iI (r:=aM (.tuple [bD (eJ (m+1) c) (m+1) ah,.int .i64 0]) []) hT L6 rfl bp rfl (fun _ cx h0=>?_) K []
 have hk:=nV h0
 have hW:=dI
 refine au.qV hT JA hm (x:=v7) [1,1,1,1,0,1] (i:=0) (y:=yd) (z:=part v7 [1,1,1,1,1]) ag ag ag L6.dst [1,0] (j:=1) (x1:=yA) (zb:=part yd [1,1]) ag ag ag [1,0,1] (i2:=2) (y2:=part yA [1,0,1,0,0]) ag ag rfl hk
  (f1:=[200014,200017]) (f2:=[20]) (f3:=[]) (f4:=[25]) (f5:=[]) 60 sB vH 1 2 (fun i:Nat=>BB m c i) (fun i=>[(0,cZ i (eJ (m+1) c) ah)]) (fun i=>i<=m+1) (fun i=>i=m+1) (fun i=>m+1-i) (fun i=>i<m+1) (fun _=>False) (fun _=>False)
  (fun i (k:Nat)=>Dg m c i k) (fun i k=>[(1,tR (jK (m+1) c i k) ah),(0,cZ i (eJ (m+1) c) ah)]) (fun i k=>k<=i+1) (fun i k=>k=i+1) (fun i k=>i+1-k)
  ⟨_,OG,?_⟩ (fun i hi=>⟨_,Xv,?_⟩) (fun i hi hG=>⟨_,XS,?_⟩) (fun i hi hG k hk=>⟨_,ZN,?_⟩) (fun i hi hG k hk=>⟨_,Vy,?_⟩) (fun i hi=>?_) (fun _ _ h=>h.elim) (fun _ _ h=>h.elim)
 ·simp only[af.all,aA,cond_false,bO]
  exact⟨aa,aa,aa,0,aa,[],rfl,by rw[show((m+1:Nat):Int)-1=(m:Nat) by omega];rfl,rfl,uw rfl aa aa trivial⟩
 ·simp only[af.all,aA,bK,bO]
  exact⟨fun h=>⟨aa,[(0,0)],rfl,rfl,rfl,bH rfl rfl rfl (fun i hi=>bX rfl rfl) trivial⟩,fun h=>⟨rfl,i,aa,[(0,0)],rfl,rfl,rfl,bH rfl rfl rfl (fun i hi=>bX rfl rfl) trivial⟩⟩
 ·simp only[af.all,aA]
  exact⟨0,aa,[(0,0),(1,1)],rfl,rfl,rfl,mu rfl rfl (.inr ⟨rfl,dD rfl aa⟩) (bH rfl rfl rfl (fun i hi=>bX rfl rfl) trivial)⟩
 ·simp only[af.all,aA,bK,bO,bE]
  exact⟨fun h=>⟨aa,aa,k+1,aa,by dsimp only;omega,[(0,0),(1,1)],rfl,rfl,rfl,mu rfl rfl (.inr ⟨rfl,fj rfl (hz i (k+1) hG aa)⟩) (bH rfl rfl rfl (fun i hi=>bX rfl rfl) trivial)⟩,fun h=>⟨rfl,k,aa,[(0,0),(1,1)],rfl,rfl,rfl,dY (bH rfl rfl rfl (fun i hi=>bX rfl rfl) trivial)⟩⟩
 ·subst hk
  simp only[af.all,aA]
  refine⟨aa,aa,i+1,aa,by dsimp only;omega,[(0,12290)],rfl,rfl,rfl,bH rfl rfl rfl (fun j hj=>?_) trivial⟩
  by_cases h:j<i
  ·rw[if_pos h];exact bX rfl rfl
  ·rw[if_neg h,show j-i+0=0 by omega,show j=i by omega];exact bX rfl rfl
 ·subst hi
  refine au.m7 ((aF.fin hT JA hm 60 YK ag ?_).mono fun _ _ h=>.inl h)
  exact⟨.refl _,.refl _,trivial⟩
theorem Sw:bA P LH 96:=fF fun⟨⟨n,p⟩,_⟩ K hn=>by
 obtain⟨h1,h2,h3⟩:=hn
 simp only at h1 h2 h3
 obtain⟨m,rfl⟩:∃m,n=m+1:=⟨n-1,aa⟩
 exact aef aa h3 K
end Go.Am.B
namespace Go.Am
def iT (a b:PP):Prop:=a.1=b.1/\∀i,i<a.1->a.2 i=b.2 i
theorem iT.refl (a:PP):iT a a:=⟨rfl,fun _ _=>rfl⟩
theorem iT.symm {a b:PP} (h:iT a b):iT b a:=⟨h.1.symm,fun i hi=>(h.2 i (by rw[h.1];exact hi)).symm⟩
theorem iT.trans {a b c:PP} (h:iT a b) (h':iT b c):iT a c:=⟨h.1.trans h'.1,fun i hi=>(h.2 i hi).trans (h'.2 i (by rw[<-h.1];exact hi))⟩
theorem Jc {n e R:Nat} {d d' a a':Nat->Rat} (hR:R=n-e) (ha:∀i,i<n->a i=a' i) (hd:∀i,i<=e->d i=d' i):∀j,j<=R->∀i,i<n->cD e d a R j i=cD e d' a' R j i
 |0,_,i,hi=>ha i hi
 |j+1,hj,i,hi=>by
  have ih:=Jc hR ha hd j (by omega)
  show gR e d (R-1-j) (cD e d a R j) i=gR e d' (R-1-j) (cD e d' a' R j) i
  unfold gR
  by_cases h:R-1-j<=i/\i<R-1-j+e+1
  ·rw[if_pos h,if_pos h,ih i hi,ih (R-1-j+e) (by omega),hd e (Nat.le_refl _),hd (i-(R-1-j)) (by omega)]
  ·rw[if_neg h,if_neg h,ih i hi]
theorem OB {n e R:Nat} {d a:Nat->Rat} {l m:Rat} (hm:m≠0):∀j i,cD e (fun i=>m*d i) (fun i=>l*a i) R j i=l*cD e d a R j i
 |0,i=>rfl
 |j+1,i=>by
  have ih:=OB (n:=n) (e:=e) (R:=R) (d:=d) (a:=a) (l:=l) hm j
  show gR e (fun i=>m*d i) (R-1-j) (cD e (fun i=>m*d i) (fun i=>l*a i) R j) i=l*gR e d (R-1-j) (cD e d a R j) i
  unfold gR
  by_cases h:R-1-j<=i/\i<R-1-j+e+1
  ·rw[if_pos h,if_pos h,ih,ih]
   show _-_/(m*d e)*(m*d (i-(R-1-j)))=_
   generalize cD e d a R j i=x
   generalize cD e d a R j (R-1-j+e)=y
   generalize d (i-(R-1-j))=z
   by_cases h0:d e=0
   ·rw[h0];simp only[Rat.mul_zero,Rat.div_def,Rat.inv_zero,Rat.zero_mul];grind
   ·have e1:l*y/(m*d e)*(m*z)=l*(y/d e*z):=by
     rw[Rat.div_def,Rat.div_def,Rat.inv_mul_rev]
     have:m⁻¹*m=1:=Rat.inv_mul_cancel _ hm
     generalize (d e)⁻¹=w
     calc l*y*(w*m⁻¹)*(m*z)=l*y*w*(m⁻¹*m)*z:=by grind
      _=l*(y*w*z):=by rw[this];grind
    rw[e1];grind
  ·rw[if_neg h,if_neg h,ih]
theorem F6 {k:Nat->Rat} {l:Rat} (hl:l≠0):∀n,bY (fun i=>l*k i) n=bY k n
 |0=>rfl
 |n+1=>by
  unfold bY
  by_cases h:k n=0
  ·rw[if_pos h,if_pos (by rw[h,Rat.mul_zero]),F6 hl n]
  ·rw[if_neg h,if_neg fun h0=>(Rat.mul_eq_zero.1 h0).elim hl h]
def oO (a b:PP):Prop:=∃l:Rat,l≠0/\a.1=b.1/\∀i,i<a.1->a.2 i=l*b.2 i
theorem oO.cV {a b:PP} (h:oO a b):iT (ga a) (ga b):=by
 obtain⟨l,hl,h1,h2⟩:=h
 refine⟨h1,fun i hi=>?_⟩
 have hi:i<a.1:=hi
 show Go.Am.cV a.1 a.2 i=Go.Am.cV b.1 b.2 i
 unfold Go.Am.cV
 rw[h2 i hi,h2 (a.1-1) (by omega),h1,Rat.div_def,Rat.div_def,Rat.inv_mul_rev]
 have:l*l⁻¹=1:=Rat.mul_inv_cancel _ hl
 generalize (b.2 (b.1-1))⁻¹=w
 calc l*b.2 i*(w*l⁻¹)=(l*l⁻¹)*(b.2 i*w):=by grind
  _=_:=by rw[this,Rat.one_mul]
theorem oO.rem {a b d f:PP} (h:oO a b) (h':oO d f) (hd:0<d.1):oO (fl a d) (fl b f):=by
 obtain⟨l,hl,h1,h2⟩:=h
 obtain⟨m,hm,g1,g2⟩:=h'
 have key:∀i,i<a.1->cD (d.1-1) d.2 a.2 (a.1-(d.1-1)) (a.1-(d.1-1)) i=l*cD (d.1-1) f.2 b.2 (a.1-(d.1-1)) (a.1-(d.1-1)) i:=fun i hi=>by
  rw[Jc (a':=fun i=>l*b.2 i) (d':=fun i=>m*f.2 i) rfl h2 (fun i hi=>g2 i (by omega)) _ (Nat.le_refl _) i hi,OB (n:=a.1) hm]
 have e1:(fl a d).1=(fl b f).1:=by
  show bY _ _=bY _ _
  rw[<-g1,<-h1,Au key,F6 hl]
 refine⟨l,hl,e1,fun i hi=>?_⟩
 have hi:i<(fl a d).1:=hi
 show cD _ _ _ _ _ i=l*cD _ _ _ _ _ i
 rw[<-g1,<-h1]
 exact key i (Nat.lt_of_lt_of_le hi fP)
theorem iT.rT {a b:PP} (h:iT a b):oO a b:=⟨1,by decide,h.1,fun i hi=>by rw[h.2 i hi,Rat.one_mul]⟩
end Go.Am
namespace Go.Am.B
open Go Go.Am.N AV af ak IntKind Proofs.Tryz
def aa9 (a b:PP):Prop:=dj a.1 (cV a.1 a.2)/\dj b.1 (cV b.1 b.2)/\oJ (ga a,ga b)
def PA (a:PP):Prop:=a.1≠0->aa9 a (bL a)/\rj a (bW a (bL a))/\dj (aZ a).1 (aZ a).2
def BC (a:PP):Prop:=a.1≠0/\a.1<2^30/\Trim a/\dj (a.1-1) (dw a.2)/\PA a
def FE (a:PP):Prop:=BC a/\dj ((aZ a).1-1) (dw (aZ a).2)/\wI (dO a)
def acE (p:PP):Prop:=(aJ p).1≠0->BC (aJ p)/\tO (aZ (aJ p))
def PF (p:PP) (a b:Rat):Prop:=mF p/\((aJ p).1≠0->FE (aJ p)/\bU (aJ p)<2^30/\eI (bU (aJ p)) (bN (aJ p)) a/\eI (bU (aJ p)) (bN (aJ p)) b)
theorem DJ {u v:AV} (h:bG u v):bG (.bR u) (.bR v):=by
 refine⟨rfl,fun M w cs hc=>?_⟩
 cases hc with
 |bR h1 h2 h3=>cases h3;exact .bR (h.2 _ _ _ h1) h2 .nil
theorem XC {f:FuncId} {us vs:List AV} (h:gI us vs) (hv:(vs.all fun v=>!v.isAgg&&!v.isTuple)=true):bG (.func f us) (.func f vs):=by
 refine⟨rfl,fun M w cs hc=>?_⟩
 cases hc with
 |func h1 h2 h3=>cases h3;exact .func (E0 h h1) hv .nil
def VN {α:Type} (k:Kind α):Kind α:=⟨fun v=>match v with
 |.bR v=>k.read v
 |_=>none,fun a=>.bR (k.make a),fun {v a q} h hq=>by
  split at h
  ·exact DJ (k.ok h hq)
  ·simp at h⟩
abbrev gM (a b:Rat) (n:Nat):AV:=.agg [.rat a n,.rat b n]
def kSa (s:Nat):Kind (Rat×Rat):=⟨fun v=>match v with
 |.agg [x,y]=>some ((aW x,aW y),[bG x (.rat (aW x) s),bG y (.rat (aW y) s)])
 |_=>none,fun a=>gM a.1 a.2 s,fun {v a q} h hq=>by
  split at h
  ·simp only[ax,Prod.mk.injEq]at h
   obtain⟨rfl,rfl⟩:=h
   exact nD ⟨hq.1,hq.2,trivial⟩
  ·simp at h⟩
def Xf:Kind Unit:=⟨fun v=>match v with
 |.agg [.bool false,.aq 1 1 f,.aq 1 1 g]=>some ((),[f 0=.int .u32 1,g 0=.int .u32 2])
 |_=>none,fun _=>.rat (1/2) 3,fun {v a q} h hq=>by
  split at h
  ·simp only[ax,Prod.mk.injEq]at h
   obtain⟨_,rfl⟩:=h
   refine bG.trans (nD (vs:=[.bool false,.mag 1,.mag 2]) ⟨.refl _,kK (N:=1) (by decide) (fun i hi=>by obtain rfl:i=0:=aa;exact hq.1),kK (N:=2) (by decide) (fun i hi=>by obtain rfl:i=0:=aa;exact hq.2),trivial⟩) (rB (b:=false) (x:=1) (y:=2) (q:=1/2) ⟨by decide+kernel,by decide+kernel⟩ (by decide+kernel) (by decide+kernel) (by decide+kernel))
  ·simp at h⟩
def I8:Spec:=fu (kC kR (kC Xf kN)) (fun a=>.rat (a.1.1*(1/2)) (a.1.2+3)) fun a=>[a.1.2<2^42]
def K3:Spec:=fu (kC (gE ah) (kC (gE ah) kN)) (fun a=>.rat (iD a.1 a.2.1) ah) fun _=>[]
def MD:Spec:=fu (kC (gE ah) (kC (gE ah) kN)) (fun a=>.rat (iF a.1 a.2.1) ah) fun _=>[]
def MY:bB:=nG::(130,K3)::(131,MD)::ia
def IT:bB:=nG::(129,I8)::(132,Db T [sG] [] 20 f132)::ia
def cK (a b:Rat):Rat:=(a+b)*(1/2)
def CW:Spec:=fu (kC (gE ah) (kC (gE ah) kN)) (fun a=>gM (iD a.1 a.2.1) (iF a.1 a.2.1) ah) fun _=>[]
def KP:bB:=nG::(68,CW)::ia
def Hy:bB:=zG::(66,vZ)::ia
def Ho:bB:=nG::(66,vZ)::(60,Bq)::ia
theorem Pc:bu 69 f69:=bz func69
theorem Wj:bu 132 f132:=bz func132
theorem TB:bu 68 f68:=bz func68
theorem Yt:bu 70 f70:=bz func70
theorem Za:bu 74 f74:=bz func74
theorem Qt:bu 64 f64:=bz func64
theorem V5 {x y:Rat}:cq T MY [] 60 f68 (aG f68) ⟨aV 0 [.rat x ah,.rat y ah],[],0⟩=
  let c1:Prop:=0<1;some (aj [c1,c1,ah<=ah,ah<=ah,c1,c1,ah<=ah,ah<=ah,c1] (aj [c1] (leaf ret [agg [rat (iD x y) ah,rat (iF x y) ah]]))):=ag
theorem YT {x y:Rat}:cq T IT [] 60 f69 (aG f69) ⟨aV 0 [.rat x ah,.rat y ah],[],0⟩=
  let c2:Nat:=2^42;let c1:Prop:=0<1;some (aj [c1,c1,ah<c2,ah<c2,(1:Nat)*1<=2^24,nth [int u32 (1:Int)] (int u32 (0:Int)) ((0:Nat)+0)=int u32 (1:Int),nth [int u32 (2:Int)] (int u32 (0:Int)) ((0:Nat)+0)=int u32 (2:Int),ah+ah+1<c2,c1] (aj [c1] (leaf ret [rat ((x+y)*(1/2:Rat)) (ah+ah+1+3)]))):=ag
theorem ack {x:Rat}:cq T KP [] 60 f70 (aG f70) ⟨aV 0 [.rat x ah],[],0⟩=
  let c1:Prop:=0<1;some (aj [c1,c1,ah<=ah,ah<=ah,c1] (aj [c1] (leaf ret [agg [rat (iD x x) ah,rat (iF x x) ah]]))):=ag
theorem ZJ {n:Nat} {c:Nat->PP} {x:Rat}:cq T Hy [] 60 f64 (aG f64) ⟨aV 0 [.rat x ah,.bR (iE n c)],[],0⟩=
  let c1:PP:=c (Int.toNat (0:Int));let c2:Nat×(Nat->Rat):=(c1.fst,fun i=>aW (rat (c1.snd i) ah));some (aj [(0:Int)<=0/\Int.toNat (0:Int)<n,(0:Nat)<1,dU (fun i=>rat (c1.snd i) ah) c1.fst ah,ah<=ah,c1.fst<2^40,mh c2 x,ah<2^42] (leaf ret [AV.bool (bC (dm c2 x)==0)])):=ag
theorem UX {n:Nat} {c:Nat->PP} {x y:Rat}:cq T Ho [9] 60 f74 (aG f74) ⟨aV 0 [iE n c,gM x y ah],[],0⟩=
  let c4:Int:=iM n (fun i=>dH (aX (c i))) x y;let c3:Prop:=ah<2^42;let c2:Prop:=0<1;let c1:PP:=c (Int.toNat (0:Int));let c5:Nat×(Nat->Rat):=(c1.fst,fun i=>aW (rat (c1.snd i) ah));some (aj [c2,c2,c3,c3] (fork (decide (x=y)) (aj [(0:Int)<=0/\Int.toNat (0:Int)<n,c2,dU (fun i=>rat (c1.snd i) ah) c1.fst ah,ah<=ah,c1.fst<2^40,mh c5 x,c3] (leaf ret [AV.bool (bC (dm c5 x)==0)])) (aj [c2,c2,∀(i:Nat),i<n->bG (aX (c i)) (aX (dH (aX (c i)))),ah<=ah,ah<=ah,(0:Nat)<n,n<2^40,eI n (fun i=>dH (aX (c i))) x,eI n (fun i=>dH (aX (c i))) y] (leaf ret [AV.bool (decide (c4>0))])))):=ag
theorem Qw:bA P K3 130:=fF fun⟨x,y,_⟩ K _=>by
 have hW:=dI
 have:=Rh (q:=x) (r:=y) (n:=ah) (m:=ah) aa aa K
 rw[Nat.max_self]at this;exact this
theorem aeZ:bA P MD 131:=fF fun⟨x,y,_⟩ K _=>by
 have hW:=dI
 have:=Y4 (q:=x) (r:=y) (n:=ah) (m:=ah) aa aa K
 rw[Nat.max_self]at this;exact this
theorem XF:bA P I8 129:=fF fun⟨x,_,_⟩ K hn=>Ip hn aa K
theorem Xt:bT P MY:=jM (aN Qw (aN aeZ ir))
theorem Xz:bT P IT:=jM (aN XF (aN (Ku hT (yM ct) hm Wj _ _) ir))
theorem QE {x y:Rat} (K:Nat):aQ P 68 K [.rat x ah,.rat y ah] [] (aM (gM (iD x y) (iF x y) ah) []):=by
 refine cA hT Xt hm TB rfl bp rfl 60 V5 (fun _=>?_) K []
 simp only[af.all,aA]
 exact⟨⟨aa,aa,aa,aa,aa,aa,aa,aa,aa⟩,aa,.refl _⟩
theorem MR:bA P CW 68:=fF fun⟨x,y,_⟩ K _=>QE K
theorem abr:bT P KP:=jM (aN MR ir)
def Cb:Spec:=fu (kC (gE ah) kN) (fun a=>gM a.1 a.1 ah) fun _=>[]
theorem Xr (x:Rat):iD x x=x:=by unfold iD;split<;>rfl
theorem RW (x:Rat):iF x x=x:=by unfold iF;split<;>rfl
theorem Hf:bA P Cb 70:=fF fun⟨x,_⟩ K _=>by
 refine cA hT abr hm Yt rfl bp rfl 60 ack (fun _=>?_) K []
 simp only[af.all,aA,Xr,RW]
 exact⟨⟨aa,aa,aa,aa,aa⟩,aa,.refl _⟩
def HE:Spec:=fu (kC (gE ah) (kC (gE ah) kN)) (fun a=>.rat (cK a.1 a.2.1) ah) fun a=>[Sz (cK a.1 a.2.1) ah]
theorem Ym:bA P HE 69:=fF fun⟨x,y,_⟩ K hn=>by
 have hW:=dI
 refine cA hT Xz hm Pc rfl bp rfl 60 YT (fun _=>?_) K []
 simp only[af.all,aA]
 exact⟨⟨aa,aa,aa,aa,aa,rfl,rfl,aa,aa⟩,aa,fj rfl hn⟩
def Ez:Spec:=fu (kC (gE ah) (kC (VN uD) kN)) (fun a=>.bool (decide (dm (a.2.1.2 0) a.1=0))) fun a=>[0<a.2.1.1,eI a.2.1.1 a.2.1.2 a.1]
theorem aeG:bT P Hy:=ja (aN zP ir)
theorem HV:bA P Ez 64:=fF fun⟨x,⟨n,c⟩,_⟩ K hn=>by
 have hW:=dI
 refine cA hT aeG hm Qt rfl bp rfl 60 ZJ (fun _=>?_) K []
 obtain⟨h1,h2⟩:=hn.2 0 hn.1
 simp only[af.all,aA]
 exact⟨⟨⟨aa,hn.1⟩,aa,eG aS,aS,h1,h2,aa⟩,eO (by simp only[rV];rfl)⟩
theorem WN:bT P Ho:=jM (aN zP (aN EB ir))
def o9 (n:Nat) (c:Nat->PP) (x y:Rat):Bool:=if x=y then decide (dm (c 0) x=0)else decide (0<iM n c x y)
def KX:Spec:=fu (kC uD (kC (kSa ah) kN)) (fun a=>.bool (o9 a.1.1 a.1.2 a.2.1.1 a.2.1.2)) fun a=>[0<a.1.1,a.1.1<2^40,eI a.1.1 a.1.2 a.2.1.1,eI a.1.1 a.1.2 a.2.1.2]
theorem acv:bA P KX 74:=fF fun⟨⟨n,c⟩,⟨x,y⟩,_⟩ K hn=>by
 have hW:=dI
 refine cA hT WN hm Za rfl bp rfl 60 UX (fun _=>?_) K []
 obtain⟨g1,g2,g3,g4⟩:=hn
 obtain⟨h1,h2⟩:=g3 0 g1
 simp only[af.all,aA,bK,bO]
 refine⟨⟨aa,aa,aa,aa⟩,fun h=>⟨⟨⟨aa,g1⟩,aa,eG aS,aS,h1,h2,aa⟩,?_⟩,fun h=>⟨⟨aa,aa,fun i _=>.refl _,aS,aS,g1,g2,g3,g4⟩,?_⟩⟩
 ·exact eO (by unfold o9;rw[if_pos h];simp only[rV];rfl)
 ·exact eO (by unfold o9;rw[if_neg h];rfl)
def dh (n:Nat) (c:Nat->PP):Nat->Rat->Rat->List (Rat×Rat)
 |0,_,_=>[]
 |d+1,x,y=>if iM n c x y=0 then []else if iM n c x y=1 then [(iD x y,iF x y)]else
  dh n c d x (cK x y)++(if dm (c 0) (cK x y)=0 then(cK x y,cK x y)::dh n c d (cK x y) y else dh n c d (cK x y) y)
def jy (n:Nat) (c:Nat->PP):Nat->Rat->Rat->Prop
 |0,_,_=>False
 |d+1,x,y=>eI n c x/\eI n c y/\(iM n c x y≠0->iM n c x y≠1->Sz (cK x y) ah/\jy n c d x (cK x y)/\jy n c d (cK x y) y)
def lR:AV->Rat×Rat
 |.agg [x,y]=>(aW x,aW y)
 |_=>(0,0)
def jk (f:Nat->AV) (m:Nat):List (Rat×Rat):=(List.range m).map fun i=>lR (f i)
def aU (l:List (Rat×Rat)) (i:Nat):Rat×Rat:=l.getD i (0,0)
abbrev de (l:List (Rat×Rat)) (i:Nat):AV:=gM (aU l i).1 (aU l i).2 ah
abbrev r7 (l:List (Rat×Rat)):ay:=⟨true,true,6,l.length,de l⟩
abbrev rF:FuncId:=64
abbrev mM:FuncId:=67
abbrev BA (n:Nat) (c:Nat->PP):AV:=.func rF [.bR (iE n c)]
abbrev Lv (n:Nat) (c:Nat->PP) (kf kl:Nat):AV:=.func mM [.bR (iE n c),.ptr kf 0 1 0 [],.ptr kl 0 1 0 [],.bR (BA n c)]
abbrev uC (k m:Nat):ay:=⟨false,true,1,1,fun _=>.own k 6 0 m⟩
abbrev sO (n:Nat) (c:Nat->PP) (kf kl:Nat):ay:=⟨false,true,1,1,fun _=>Lv n c kf kl⟩
abbrev gone:ay:=⟨true,false,0,0,fun _=>.nil⟩
def isVar (o:ay):Bool:=!o.row&&o.wr&&o.es==1&&o.len==1
def CG (st:aD) (k:Nat):Option (Nat×Nat×(Nat->AV)×Nat):=match look k st with
 |some o=>if isVar o then match o.f 0 with
  |.own k0 6 0 m=>match look k0 st with
   |some r=>if r.row&&r.wr&&r.es==6&&k0 !=k then some (k0,m,r.f,r.len)else none
   |none=>none
  |_=>none else none
 |none=>none
def Es (st:aD) (kf kl:Nat):Option (AV×AV):=match look kl st with
 |some o=>if isVar o then match o.f 0 with
  |.func g [.bR ch,.ptr kf' 0 1 0 [],.ptr kl' 0 1 0 [],.bR is]=>if g==mM&&kf'==kf&&kl'==kl&&kl !=kf then some (ch,is)else none
  |_=>none else none
 |none=>none
def z6:AV->Option AV
 |.func g [.bR ch]=>if g==rF then some ch else none
 |_=>none
def pR (d:Nat):Spec:=fun K args st=>match args with
 |[x,y,.bR ch,.ptr kf 0 1 0 [],.ptr kl 0 1 0 [],.bR is]=>match(gE ah).read x,(gE ah).read y,uD.read ch,z6 is with
  |some (x,q1),some (y,q2),some ((n,c),q3),some ch1=>match CG st kf,Es st kf kl with
   |some (k0,m,f,len),some (ch2,is2)=>match z6 is2 with
    |some ch3=>if k0 !=kl&&Nat.blt kf K&&Nat.blt kl K&&Nat.blt k0 K then
      some ⟨.tuple [],[(kf,uC K (jk f m++dh n c d x y).length),(kl,sO n c kf kl),(K,r7 (jk f m++dh n c d x y)),(k0,gone)],
       [aA q1,aA q2,aA q3,bG ch1 (iE n c),bG ch2 (iE n c),bG ch3 (iE n c),m=len,∀i,i<m->keys (f i)=[]/\bG (f i) (gM (lR (f i)).1 (lR (f i)).2 ah),0<n,n<2^40,jy n c d x y,m+(dh n c d x y).length<2^30]⟩else none
    |none=>none
   |_,_=>none
  |_,_,_,_=>none
 |_=>none
def HI (d:Nat):bB:=nG::(60,Bq)::(68,CW)::(70,Cb)::(69,HE)::(rF,Ez)::(mM,pR d)::ia
abbrev GU:Code:=aG f67
abbrev CU (n:Nat) (c:Nat->PP) (x y:Rat):List AV:=[.rat x ah,.rat y ah,.bR (iE n c),.ptr 0 0 1 0 [],.ptr 1 0 1 0 [],.bR (BA n c)]
abbrev HU (n:Nat) (c:Nat->PP) (l:List (Rat×Rat)):aD:=[(0,uC 2 l.length),(1,sO n c 0 1),(2,r7 l)]
theorem F8:bu mM f67:=bz func67
theorem ab5 {d n:Nat} {c:Nat->PP} {x y:Rat} {l:List (Rat×Rat)}:aH T (HI d) [32,34,22] 60 [3,4] [GU] ⟨aV 0 (CU n c x y),HU n c l,3⟩=
  let c31:AV:=iE n fun i=>dH (aX (c i));let c29:Int:=iM n (fun i=>dH (aX (c i))) x y;let c26:Nat:=2^30;let c25:Prop:=0<n;let c24:Prop:=1*6<=2^24;let c21:Rat:=cK x y;let c19:Nat:=l.length;let c18:AV:=rat 0 1;let c17:Prop:=n<2^40;let c16:Prop:=ah<=ah;let c14:AV:=ptr 0 0 1 0 [];let c13:AV:=ptr 1 0 1 0 [];let c11:Prop:=aA [∀(i:Nat),i<n->bG (aX (dH (aX (c i)))) (aX (dH (aX (dH (aX (c i))))))];let c10:AV:=(aq 1 n fun i=>aq 3 (c i).fst fun i_1=>rat ((c i).snd i_1) ah).bR;let c9:AV:=(aq 1 n fun i=>aq 3 (c i).fst fun i_1=>rat (aW (rat (aW (rat ((c i).snd i_1) ah)) ah)) ah).bR;let c6:Prop:=0<1;let c33:List (Rat×Rat):=dh n (fun i=>dH (aX (c i))) d x c21;let c32:Nat:=c19+1;let c30:Rat:=dm (dH (aX (c 0))) c21;let c28:Prop:=aA [c16];let c27:AV:=own 2 6 0 c19;let c20:Prop:=jy n (fun i=>dH (aX (dH (aX (c i))))) d c21 y;let c12:Prop:=bG (iE n c) c31;let c8:List AV:=[c14,c13];let c7:List (Rat×Rat):=dh n (fun i=>dH (aX (dH (aX (c i))))) d c21 y;let c5:Prop:=bG c31 (iE n fun i=>dH (aX (dH (aX (c i)))));let c4:Nat×ay:=(1,ay.mk false true 1 1 fun x=>func 67 [c10,c14,c13,(func 64 [c10]).bR]);let c3:Nat×ay:=(1,ay.mk false true 1 1 fun x=>func 67 [c9,c14,c13,(func 64 [c9]).bR]);let c1:List (Rat×Rat):=jk (de l) c19++c33;let c15:Nat:=c1.length;let c23:List (Rat×Rat):=jk (de c1) c15++c7;let c22:Nat:=c15+1;let c2:List (Rat×Rat):=jk (fun i=>if i<c15 then de c1 i else nth [agg [rat c21 ah,rat c21 ah]] (agg [c18,c18]) (i-c15+0)) c22++c7;some (aj [c6,c6,∀(i:Nat),i<n->bG (aX (c i)) (aX (dH (aX (c i)))),c16,c16,c25,c17,eI n (fun i=>dH (aX (c i))) x,eI n (fun i=>dH (aX (c i))) y] (fork (c29==0) (leaf normal (c8,[c4,(0,ay.mk false true 1 1 fun x=>c27),(2,ay.mk true true 6 c19 fun i=>agg [rat (aU l i).fst ah,rat (aU l i).snd ah])])) (fork (c29==1) (aj [c6,c6,c6,c16,c16,c24,c32*((112:Nat)+1)*2<=2^47,c6] (leaf normal (c8,[c4,(0,ay.mk false true 1 1 fun j=>if(j==0)=true then eU (own (nat_lit 61442+1) 6 0 c32)else c27),(61443,ay.mk true true 6 c32 fun i=>if i<c19 then de l i else nth [agg [rat (iD x y) ah,rat (iF x y) ah]] (agg [c18,c18]) (i-c19+0))]))) (aj [c6,c6,c16,c16,Sz c21 ah,c6] (aj [c6,c6,c6,c28,c28,aA [∀(i:Nat),i<n->bG (aX (c i)) (aX (dH (aX (c i))))],c12,c12,c12,c19=c19,∀(i:Nat),i<c19->(de l i).keys=[]/\bG (de l i) (gM (aW (rat (aU l i).fst ah)) (aW (rat (aU l i).snd ah)) ah),c25,c17,jy n (fun i=>dH (aX (c i))) d x c21,c19+c33.length<c26] (aj [c6,c16,∀(i:Nat),i<n->bG (aX (c i)) (aX (dH (aX (c i)))),c25,eI n (fun i=>dH (aX (c i))) c21] (fork (decide (c30=0)) (aj [c6,c6,c16,c24,c22*((112:Nat)+1)*2<=2^47,c6] (aj [c6,c6,c6,c28,c28,c11,c5,c5,c5,c22=c22,∀(i:Nat),i<c22->(if i<c15 then de c1 i else nth [agg [rat c21 ah,rat c21 ah]] (agg [c18,c18]) (i-c15+0)).keys=[]/\bG (if i<c15 then de c1 i else nth [agg [rat c21 ah,rat c21 ah]] (agg [c18,c18]) (i-c15+0)) (gM (lR (if i<c15 then de c1 i else nth [agg [rat c21 ah,rat c21 ah]] (agg [c18,c18]) (i-c15+0))).fst (lR (if i<c15 then de c1 i else nth [agg [rat c21 ah,rat c21 ah]] (agg [c18,c18]) (i-c15+0))).snd ah),c25,c17,c20,c22+c7.length<c26] (leaf normal (c8,[c3,(0,ay.mk false true 1 1 fun x=>own 126979 6 0 c2.length),(126979,ay.mk true true 6 c2.length fun i=>agg [rat (aU c2 i).fst ah,rat (aU c2 i).snd ah])])))) (aj [c6,c6,c6,c28,c28,c11,c5,c5,c5,c15=c15,∀(i:Nat),i<c15->(de c1 i).keys=[]/\bG (de c1 i) (gM (aW (rat (aU c1 i).fst ah)) (aW (rat (aU c1 i).snd ah)) ah),c25,c17,c20,c15+c7.length<c26] (leaf normal (c8,[c3,(0,ay.mk false true 1 1 fun x=>own 102403 6 0 c23.length),(102403,ay.mk true true 6 c23.length fun i=>agg [rat (aU c23 i).fst ah,rat (aU c23 i).snd ah])])))))))))):=ag
theorem Lm {s:Nat} {v:AV} {x:Rat} {q:List Prop} (h:(gE s).read v=some (x,q)):v.isTuple=false:=by
 unfold gE at h
 dsimp only at h
 split at h
 ·rename_i h1
  unfold oN at h1
  split at h1
  ·rfl
  ·rfl
  ·simp at h1
 ·simp at h
theorem Ms {s:Nat} {v:AV} {x:Rat} {q:List Prop} (h:(gE s).read v=some (x,q)):keys v=[]:=by
 unfold gE at h
 dsimp only at h
 split at h
 ·rename_i h1
  unfold oN at h1
  split at h1
  ·rfl
  ·rfl
  ·simp at h1
 ·simp at h
theorem Il {o:ay} (h:isVar o=true):o=⟨false,true,1,1,o.f⟩:=by
 obtain⟨r,w,es,len,f⟩:=o
 unfold isVar at h
 simp only[Bool.and_eq_true,Bool.not_eq_true',beq_iff_eq]at h
 obtain⟨⟨⟨h1,h2⟩,h3⟩,h4⟩:=h
 subst h1 h2 h3 h4;rfl
theorem OE {st:aD} {k k0 m len:Nat} {f:Nat->AV} (h:CG st k=some (k0,m,f,len)):∃g,look k st=some ⟨false,true,1,1,g⟩/\g 0=.own k0 6 0 m/\look k0 st=some ⟨true,true,6,len,f⟩/\k0≠k:=by
 unfold CG at h
 split at h
 ·rename_i o ho
  split at h
  ·rename_i hv
   have hv:=Il hv
   split at h
   ·rename_i k0' m' hf
    split at h
    ·rename_i r hr
     split at h
     ·rename_i hc
      simp only[Bool.and_eq_true,beq_iff_eq,bne_iff_ne,ne_eq]at hc
      obtain⟨⟨⟨c1,c2⟩,c3⟩,c4⟩:=hc
      simp only[ax,Prod.mk.injEq]at h
      obtain⟨rfl,rfl,rfl,rfl⟩:=h
      refine⟨o.f,by rw[ho,<-hv],hf,?_,c4⟩
      rw[hr]
      obtain⟨r1,r2,r3,r4,r5⟩:=r
      subst c1 c2 c3;rfl
     ·simp at h
    ·simp at h
   ·simp at h
  ·simp at h
 ·simp at h
theorem XW {st:aD} {kf kl:Nat} {ch is:AV} (h:Es st kf kl=some (ch,is)):∃g,look kl st=some ⟨false,true,1,1,g⟩/\g 0=.func mM [.bR ch,.ptr kf 0 1 0 [],.ptr kl 0 1 0 [],.bR is]/\kl≠kf:=by
 unfold Es at h
 split at h
 ·rename_i o ho
  split at h
  ·rename_i hv
   have hv:=Il hv
   split at h
   ·rename_i g' ch' kf' kl' is' hf
    split at h
    ·rename_i hc
     simp only[Bool.and_eq_true,beq_iff_eq,bne_iff_ne,ne_eq]at hc
     obtain⟨⟨⟨c1,c2⟩,c3⟩,c4⟩:=hc
     simp only[ax,Prod.mk.injEq]at h
     obtain⟨rfl,rfl⟩:=h
     subst c1 c2 c3
     exact⟨o.f,by rw[ho,<-hv],hf,c4⟩
    ·simp at h
   ·simp at h
  ·simp at h
 ·simp at h
theorem It {v ch:AV} (h:z6 v=some ch):v=.func rF [.bR ch]:=by
 unfold z6 at h
 split at h
 ·split at h
  ·rename_i hc
   have:=eq_of_beq hc
   simp only[ax]at h
   subst h this;rfl
  ·simp at h
 ·simp at h
theorem yu {f:Nat->AV} {m:Nat}:(jk f m).length=m:=by simp[jk]
theorem Uh {f:Nat->AV} {m i:Nat} (h:i<m):aU (jk f m) i=lR (f i):=by
 unfold aU jk
 simp[List.getD,h]
theorem MI {f:Nat->AV} {m:Nat} {l:List (Rat×Rat)} (hl:l.length=m) (h:∀i,i<m->lR (f i)=aU l i):jk f m=l:=by
 apply List.ext_getElem
 ·rw[yu,hl]
 ·intro i h1 h2
  have:=h i (by rwa [yu]at h1)
  simp only[jk,List.getElem_map,List.getElem_range,this,aU]
  simp[List.getD,h2]
theorem GL {l:List (Rat×Rat)}:jk (de l) l.length=l:=MI rfl fun i _=>rfl
theorem O6 {l l':List (Rat×Rat)} {i:Nat}:aU (l++l') i=if i<l.length then aU l i else aU l' (i-l.length):=by
 unfold aU
 simp only[List.getD,List.getElem?_append]
 split<;>rfl
theorem Al {s':aI} {e:ak} {n:Nat} {c:Nat->PP} {kf kl K kx:Nat} {vs:List AV} {vf vl row:ay} {L:List (Rat×Rat)} (he:e=.normal) (h1:kl≠kf) (g1:kf<K) (g2:kl<K) (hv:bh [3,4] s'=some (vs,[(1,vl),(0,vf),(kx,row)])) (hkx:2<=kx) (hl:vl=sO n c 0 1)
  (hf:vf=⟨false,true,1,1,vf.f⟩) (hf0:vf.f 0=.own kx 6 0 L.length) (hr:row=⟨true,true,6,L.length,row.f⟩) (hr0:∀i,i<L.length->row.f i=de L i):
  (e=.normal\/e=.ret)/\∃ls vs os kx o1 o2 o3,bh ls s'=some (vs,os)/\2<=kx/\
   look 0 os=some o1/\dG (aY [(kf,0),(kl,1),(K,kx)]) o1 (uC K L.length)/\look 1 os=some o2/\dG (aY [(kf,0),(kl,1),(K,kx)]) o2 (sO n c kf kl)/\look kx os=some o3/\dG (aY [(kf,0),(kl,1),(K,kx)]) o3 (r7 L):=by
 have n1:¬kf=K:=aa
 have n2:¬kl=K:=aa
 have n3:¬0=kx:=aa
 have n4:¬1=kx:=aa
 have r1:aY [(kf,0),(kl,1),(K,kx)] kf=some 0:=by simp[aY,look]
 have r2:aY [(kf,0),(kl,1),(K,kx)] kl=some 1:=by simp[aY,look,h1.symm]
 have r3:aY [(kf,0),(kl,1),(K,kx)] K=some kx:=by simp[aY,look,n1,n2]
 refine⟨.inl he,[3,4],vs,_,kx,vf,vl,row,hv,hkx,by simp[look],?_,by simp[look],?_,by simp[look,n3,n4],?_⟩
 ·rw[hf]
  exact iH rfl fun i hi=>by obtain rfl:i=0:=aa;rw[hf0];exact en r3 rfl rfl
 ·rw[hl]
  exact iH rfl fun i hi=>F3 ⟨⟨rfl,jb rfl (.refl _)⟩,⟨rfl,g7 r1⟩,⟨rfl,g7 r2⟩,⟨rfl,jb rfl (.refl _)⟩,trivial⟩ rfl
 ·rw[hr]
  exact iH rfl fun i hi=>by rw[hr0 i hi];exact jb rfl (.refl _)
theorem X5 {d:Nat} (h:∀K args pre r,pR d K args pre=some r->aQ P mM K args pre r):bT P (HI d):=jM (aN EB (aN MR (aN Hf (aN Ym (aN HV (aN h ir))))))
theorem jy.right {n d:Nat} {c:Nat->PP} {x y:Rat} (h:jy n c d x y):eI n c y:=by
 cases d with
 |zero=>exact h.elim
 |succ d=>exact h.2.1
theorem Ld {v z:AV} {i:Nat} (h:i=0):nth [v] z i=v:=by subst h;rfl
theorem uR {l:List (Rat×Rat)} {p:Rat×Rat} {z:AV} {i:Nat} (hi:i<l.length+1):(if i<l.length then de l i else nth [gM p.1 p.2 ah] z (i-l.length+0))=de (l++[p]) i:=by
 unfold de
 rw[O6]
 split
 ·rfl
 ·rw[Ld aa,show i-l.length=0 by omega];rfl
theorem HL {l:List (Rat×Rat)} {p:Rat×Rat} {z:AV}:jk (fun i=>if i<l.length then de l i else nth [gM p.1 p.2 ah] z (i-l.length+0)) (l.length+1)=l++[p]:=
 MI (by simp) fun i hi=>by
  have:=uR (p:=p) (z:=z) hi
  rw[this];rfl
theorem TT {d:Nat} (hd:∀K args pre r,pR d K args pre=some r->aQ P mM K args pre r) {n:Nat} {c:Nat->PP} {x y:Rat} {l:List (Rat×Rat)} {kf kl K:Nat} (h1:kl≠kf) (g1:kf<K) (g2:kl<K) (hn0:0<n) (hn:n<2^40) (hz:jy n c (d+1) x y) (hb:l.length+(dh n c (d+1) x y).length<2^30) (cx:Ctx):
  au P cx f67.ntmps GU ⟨aV 0 (CU n c x y),HU n c l,3⟩ fun e s'=>(e=.normal\/e=.ret)/\∃ls vs os kx o1 o2 o3,bh ls s'=some (vs,os)/\2<=kx/\
   look 0 os=some o1/\dG (aY [(kf,0),(kl,1),(K,kx)]) o1 (uC K (l++dh n c (d+1) x y).length)/\look 1 os=some o2/\dG (aY [(kf,0),(kl,1),(K,kx)]) o2 (sO n c kf kl)/\look kx os=some o3/\dG (aY [(kf,0),(kl,1),(K,kx)]) o3 (r7 (l++dh n c (d+1) x y)):=by
 have hW:=dI
 obtain⟨z1,z2,z3⟩:=hz
 have hC:(fun i=>dH (aX (c i)))=c:=rfl
 have hL:dh n c (d+1) x y=if iM n c x y=0 then []else if iM n c x y=1 then [(iD x y,iF x y)]else
  dh n c d x (cK x y)++(if dm (c 0) (cK x y)=0 then(cK x y,cK x y)::dh n c d (cK x y) y else dh n c d (cK x y) y):=rfl
 have hk:∀{l:List (Rat×Rat)} {i:Nat},i<l.length->keys (de l i)=[]/\bG (de l i) (gM (aW (.rat (aU l i).1 ah)) (aW (.rat (aU l i).2 ah)) ah):=fun _=>⟨rfl,.refl _⟩
 have hq:∀{l:List (Rat×Rat)} {p:Rat×Rat} {z:AV} {i:Nat},i<l.length+1->keys (if i<l.length then de l i else nth [gM p.1 p.2 ah] z (i-l.length+0))=[]/\
   bG (if i<l.length then de l i else nth [gM p.1 p.2 ah] z (i-l.length+0)) (gM (lR (if i<l.length then de l i else nth [gM p.1 p.2 ah] z (i-l.length+0))).1 (lR (if i<l.length then de l i else nth [gM p.1 p.2 ah] z (i-l.length+0))).2 ah):=fun hi=>by
  rw[uR hi];exact⟨rfl,.refl _⟩
 refine au.bJ hT (X5 hd) hm 60 [3,4] ab5 F8.dst ?_
 simp only[af.all,aA,hC,beq_iff_eq,beq_eq_false_iff_ne,ne_eq,bK,bO,GL]
 refine⟨⟨aa,aa,fun i _=>.refl _,aS,aS,hn0,hn,z1,z2⟩,fun b0 s' hv=>?_,fun b0=>⟨fun b1=>⟨⟨aa,aa,aa,aS,aS,aa,?_,aa⟩,fun s' hv=>?_⟩,fun b1=>?_⟩⟩
 ·rw[hL,if_pos b0,List.append_nil]
  exact⟨.inl trivial,(Al (L:=l) rfl h1 g1 g2 hv aa rfl rfl rfl rfl fun i _=>rfl).2⟩
 ·rw[hL,if_neg b0,if_pos b1]at hb
  simp only[List.length_cons,List.length_nil]at hb
  omega
 ·rw[hL,if_neg b0,if_pos b1]
  refine⟨.inl trivial,(Al (L:=l++[(iD x y,iF x y)]) rfl h1 g1 g2 hv aa rfl rfl (by rw[List.length_append];rfl) (by rw[List.length_append];rfl) fun i hi=>?_).2⟩
  rw[List.length_append]at hi
  exact uR (p:=(iD x y,iF x y)) hi
 ·obtain⟨m1,m2,m3⟩:=z3 b0 b1
  rw[hL,if_neg b0,if_neg b1]at hb ⊢
  rw[List.length_append]at hb
  have hl2:(dh n c d (cK x y) y).length<=(if dm (c 0) (cK x y)=0 then(cK x y,cK x y)::dh n c d (cK x y) y else dh n c d (cK x y) y).length:=by
   split
   ·exact Nat.le_succ _
   ·exact Nat.le_refl _
  refine⟨⟨aa,aa,aS,aS,m1,aa⟩,⟨aa,aa,aa,aS,aS,fun i _=>.refl _,.refl _,.refl _,.refl _,trivial,fun i hi=>hk hi,hn0,hn,m2,aa⟩,⟨aa,aS,fun i _=>.refl _,hn0,m2.right⟩,fun r0=>⟨⟨aa,aa,aS,aa,?_,aa⟩,⟨aa,aa,aa,aS,aS,fun i _=>.refl _,.refl _,.refl _,.refl _,trivial,fun i hi=>hq (p:=(cK x y,cK x y)) hi,hn0,hn,m3,?_⟩,fun s' hv=>?_⟩,
   fun r0=>⟨⟨aa,aa,aa,aS,aS,fun i _=>.refl _,.refl _,.refl _,.refl _,trivial,fun i hi=>hk hi,hn0,hn,m3,?_⟩,fun s' hv=>?_⟩⟩
  ·rw[List.length_append];omega
  ·have r0:dm (c 0) (cK x y)=0:=r0
   rw[if_pos r0,List.length_cons]at hb
   show(l++dh n c d x (cK x y)).length+1+(dh n c d (cK x y) y).length<2^30
   rw[List.length_append];omega
  ·have r0:dm (c 0) (cK x y)=0:=r0
   rw[if_pos r0]
   have e:=HL (l:=l++dh n c d x (cK x y)) (p:=(cK x y,cK x y)) (z:=.agg [.rat 0 1,.rat 0 1])
   dsimp only at e hv
   rw[e]at hv
   rw[show l++(dh n c d x (cK x y)++(cK x y,cK x y)::dh n c d (cK x y) y)=l++dh n c d x (cK x y)++[(cK x y,cK x y)]++dh n c d (cK x y) y by simp[List.append_assoc]]
   exact⟨.inl trivial,(Al rfl h1 g1 g2 hv aa rfl rfl rfl rfl fun i _=>rfl).2⟩
  ·show(l++dh n c d x (cK x y)).length+(dh n c d (cK x y) y).length<2^30
   rw[List.length_append];omega
  ·have r0:¬dm (c 0) (cK x y)=0:=r0
   rw[if_neg r0,<-List.append_assoc]
   exact⟨.inl trivial,(Al rfl h1 g1 g2 hv aa rfl rfl rfl rfl fun i _=>rfl).2⟩
theorem Nt {d:Nat} (ih:∀e,d=e+1->∀K args pre r,pR e K args pre=some r->aQ P mM K args pre r):bA P (pR d) mM:=by
 intro K args pre r h
 unfold pR at h
 split at h
 ·rename_i x' y' ch kf kl is
  split at h
  ·rename_i x q1 y q2 n c q3 ch1 hx hy hc hi
   split at h
   ·rename_i k0 m f len ch2 is2 hl hcl
    split at h
    ·rename_i ch3 hi3
     split at h
     ·rename_i hk
      simp only[ax]at h
      subst h
      simp only[Bool.and_eq_true,bne_iff_ne,ne_eq,Nat.blt_eq]at hk
      obtain⟨⟨⟨k1,k2⟩,k3⟩,k4⟩:=hk
      obtain⟨e1,l1,l2,l3,l4⟩:=OE hl
      obtain⟨e2,c1,c2,c3⟩:=XW hcl
      obtain rfl:=It hi
      obtain rfl:=It hi3
      intro need
      obtain⟨n1,n2,n3,n4,n5,n6,n7,n8,n9,n10,n11,n12⟩:=need
      have hch:=uD.ok hc n3
      have r0:aY [(0,kf),(1,kl),(2,k0)] 0=some kf:=rfl
      have r1:aY [(0,kf),(1,kl),(2,k0)] 1=some kl:=rfl
      have r2:aY [(0,kf),(1,kl),(2,k0)] 2=some k0:=rfl
      have hcr:∀{ρ:Nat->Option Nat} {u v:AV},bG u v->ij ρ (.bR u) (.bR v):=fun h=>jb rfl (DJ h)
      have hcl:∀{ρ:Nat->Option Nat} {u v:AV},bG u v->ij ρ (.bR (.func rF [.bR u])) (.bR (.func rF [.bR v])):=fun h=>hcr (XC ⟨DJ h,trivial⟩ rfl)
      refine aQ.frame (pre:=[(kf,⟨false,true,1,1,e1⟩),(kl,⟨false,true,1,1,e2⟩),(k0,⟨true,true,6,len,f⟩)]) (Xk hT F8 (args0:=CU n c x y) (oa0:=uC 2 (jk f m).length) (ob0:=sO n c 0 1) (oc0:=r7 (jk f m)) ag rfl c3 l4 k1 k2 k3 k4 (fun _=>?_) bp (fun _=>⟨?_,?_,?_⟩) (fun _ cx _=>?_)) (fun k o hk=>?_) ⟨n1,n2,n3,n4,n5,n6,n7,n8,n9,n10,n11,n12⟩
      ·exact⟨⟨Lm hx,jb (Ms hx) ((gE ah).ok hx n1)⟩,⟨Lm hy,jb (Ms hy) ((gE ah).ok hy n2)⟩,⟨rfl,hcr hch⟩,⟨rfl,g7 r0⟩,⟨rfl,g7 r1⟩,⟨rfl,hcl n4⟩,trivial⟩
      ·rw[yu]
       exact iH rfl fun i hi=>by obtain rfl:i=0:=aa;rw[l2];exact en r2 rfl rfl
      ·exact iH rfl fun i hi=>by
        obtain rfl:i=0:=aa
        rw[c2]
        exact F3 ⟨⟨rfl,hcr n5⟩,⟨rfl,g7 r0⟩,⟨rfl,g7 r1⟩,⟨rfl,hcl n6⟩,trivial⟩ rfl
      ·refine iH (by rw[yu];exact n7) fun i hi=>?_
       obtain⟨p1,p2⟩:=n8 i aa
       unfold de
       rw[Uh (show i<m by omega)]
       exact jb p1 p2
      ·cases d with
       |zero=>exact absurd n11 id
       |succ d=>exact TT (ih d rfl) c3 k2 k3 n9 n10 n11 (by rw[yu];exact n12) cx
      ·rcases qQ hk with⟨e1,e2⟩|⟨e1,_,e2⟩|⟨e1,_,_,e2⟩<;>subst e1<;>subst e2
       ·exact l1
       ·exact c1
       ·exact l3
     ·simp at h
    ·simp at h
   ·simp at h
  ·simp at h
 ·simp at h
theorem LW:∀d K args pre r,pR d K args pre=some r->aQ P mM K args pre r
 |0=>Nt fun e h=>absurd h aa
 |d+1=>Nt fun e h=>by obtain rfl:d=e:=aa;exact LW d
end Go.Am.B
namespace Go.Am
def sg (f:Nat->Rat):Nat->Rat
 |0=>0
 |n+1=>sg f n+f n
theorem gy {f g:Nat->Rat}:∀{n:Nat},(∀i,i<n->f i=g i)->sg f n=sg g n
 |0,_=>rfl
 |n+1,h=>by rw[sg,sg,gy fun i hi=>h i (by omega),h n (by omega)]
theorem mC {f:Nat->Rat}:∀{n:Nat},(∀i,i<n->f i=0)->sg f n=0
 |0,_=>rfl
 |n+1,h=>by rw[sg,mC fun i hi=>h i (by omega),h n (by omega),Rat.add_zero]
theorem pN {f g:Nat->Rat}:∀{n:Nat},sg (fun i=>f i+g i) n=sg f n+sg g n
 |0=>by simp only[sg];grind
 |n+1=>by rw[sg,sg,sg,pN];grind
theorem mG {f:Nat->Rat} {c:Rat}:∀{n:Nat},sg (fun i=>c*f i) n=c*sg f n
 |0=>by simp only[sg];grind
 |n+1=>by rw[sg,sg,mG];grind
theorem sJ {f:Nat->Rat}:∀{n:Nat},sg f (n+1)=f 0+sg (fun i=>f (i+1)) n
 |0=>by simp only[sg];grind
 |n+1=>by rw[sg,sJ,sg];grind
theorem A4 {f:Nat->Rat} {n:Nat}:∀{m:Nat},sg f (n+m)=sg f n+sg (fun i=>f (n+i)) m
 |0=>by simp only[sg];show sg f n=_;grind
 |m+1=>by
  show sg f (n+m)+f (n+m)=sg f n+(sg (fun i=>f (n+i)) m+f (n+m))
  rw[A4];grind
theorem xB {f:Nat->Rat} {n m:Nat} (h:∀i,n<=i->i<m->f i=0) (hm:n<=m):sg f m=sg f n:=by
 obtain⟨l,rfl⟩:∃l,m=n+l:=⟨m-n,by omega⟩
 rw[A4,mC (f:=fun i=>f (n+i)) fun i hi=>h _ (by omega) (by omega),Rat.add_zero]
theorem A0 {f:Nat->Nat->Rat} {n:Nat}:∀{m:Nat},sg (fun i=>sg (fun j=>f i j) n) m=sg (fun j=>sg (fun i=>f i j) m) n
 |0=>(mC fun _ _=>rfl).symm
 |m+1=>by
  rw[sg,A0,<-pN];rfl
theorem pow_add' (t:Rat) (m:Nat):∀n:Nat,t^(m+n)=t^m*t^n
 |0=>by rw[Nat.add_zero,Rat.pow_zero,Rat.mul_one]
 |n+1=>by rw[<-Nat.add_assoc,Rat.pow_succ,pow_add' t m n,Rat.pow_succ,Rat.mul_assoc]
def ev (n:Nat) (k:Nat->Rat) (t:Rat):Rat:=sg (fun i=>k i*t^i) n
theorem ov {n:Nat} {k l:Nat->Rat} {t:Rat} (h:∀i,i<n->k i=l i):ev n k t=ev n l t:=gy fun i hi=>by rw[h i hi]
theorem IP {n:Nat} {k:Nat->Rat} {t:Rat}:ev (n+1) k t=ev n k t+k n*t^n:=rfl
theorem vm {n:Nat} {k:Nat->Rat} {t:Rat}:ev (n+1) k t=k 0+t*ev n (fun i=>k (i+1)) t:=by
 unfold ev
 rw[sJ,<-mG,Rat.pow_zero,Rat.mul_one]
 congr 1
 exact gy fun i _=>by rw[Rat.pow_succ];grind
theorem G6 {n m:Nat} {k:Nat->Rat} {t:Rat} (h:∀i,n<=i->i<m->k i=0) (hm:n<=m):ev m k t=ev n k t:=xB (fun i h1 h2=>by rw[h i h1 h2,Rat.zero_mul]) hm
theorem vh {n:Nat} {k l:Nat->Rat} {t:Rat}:ev n (fun i=>k i+l i) t=ev n k t+ev n l t:=by
 unfold ev;rw[<-pN];exact gy fun i _=>by grind
theorem uI {n:Nat} {k:Nat->Rat} {c t:Rat}:ev n (fun i=>c*k i) t=c*ev n k t:=by
 unfold ev;rw[<-mG];exact gy fun i _=>by grind
theorem Pf {n m:Nat} {k:Nat->Rat} {t:Rat}:ev (m+n) (fun i=>if m<=i then k (i-m)else 0) t=t^m*ev n k t:=by
 unfold ev
 rw[A4,mC fun i hi=>by dsimp only;rw[if_neg (by omega),Rat.zero_mul],Rat.zero_add,<-mG]
 exact gy fun i _=>by dsimp only;rw[if_pos (by omega),pow_add',show m+i-m=i by omega];grind
theorem Ft {n:Nat} {k:Nat->Rat} {t:Rat}:∀m,m<=n->fC n k t m=ev m (fun i=>k (n-m+i)) t
 |0,_=>rfl
 |m+1,h=>by
  rw[fC,Ft m (by omega),vm]
  rw[show n-(m+1)+0=n-1-m by omega,ov (l:=fun i=>k (n-(m+1)+(i+1))) fun i _=>by rw[show n-m+i=n-(m+1)+(i+1) by omega]]
  grind
theorem oL {a:PP} {t:Rat}:dm a t=ev a.1 a.2 t:=by
 unfold dm
 rw[Ft _ (Nat.le_refl _)]
 exact ov fun i _=>by rw[Nat.sub_self,Nat.zero_add]
def jH (n:Nat) (k:Nat->Rat) (c:Rat) (i:Nat):Rat:=fC n k c (n-1-i)
theorem tW {k:Nat->Rat} {c t:Rat}:∀n,ev (n+1) k t=(t-c)*ev n (jH (n+1) k c) t+ev (n+1) k c
 |0=>by simp only[ev,sg];grind
 |n+1=>by
  -- by the lowest coefficient
  have ih:=tW (k:=fun i=>k (i+1)) (c:=c) (t:=t) n
  have e1:∀m,m<=n+1->fC (n+1+1) k c m=fC (n+1) (fun i=>k (i+1)) c m:=fun m=>by
   induction m with
   |zero=>exact fun _=>rfl
   |succ m ihm=>
    intro hm
    rw[fC,fC,ihm (by omega),show n+1+1-1-m=n+1-1-m+1 by omega]
  have e2:ev (n+1) (jH (n+1+1) k c) t=ev (n+1) (fun i=>k (i+1)) c+t*ev n (jH (n+1) (fun i=>k (i+1)) c) t:=by
   rw[vm]
   congr 1
   ·unfold jH
    rw[show n+1+1-1-0=n+1 by omega,e1 (n+1) (Nat.le_refl _)]
    have:=oL (a:=(n+1,fun i=>k (i+1))) (t:=c)
    exact this
   ·congr 1
    refine ov fun i hi=>?_
    unfold jH
    rw[show n+1+1-1-(i+1)=n+1-1-i by omega,e1 _ (by omega)]
  rw[vm (n:=n+1) (t:=t),vm (n:=n+1) (t:=c),ih,e2]
  grind
theorem NZ {a b:Nat} (h:((a:Int):Rat)=((b:Int):Rat)):a=b:=by
 have:(a:Int)=(b:Int):=by exact_mod_cast h
 omega
theorem JI:∀(n:Nat) (k:Nat->Rat) (s:Nat),(∀j,s<=j->j<s+n->ev n k ((j:Int):Rat)=0)->∀i,i<n->k i=0
 |0,_,_,_=>fun i hi=>absurd hi (Nat.not_lt_zero i)
 |n+1,k,s,h=>by
  have h0:=h s (Nat.le_refl _) (by omega)
  have hq:∀i,i<n->jH (n+1) k ((s:Int):Rat) i=0:=JI n _ (s+1) fun j h1 h2=>by
   have:=h j (by omega) (by omega)
   rw[tW (c:=((s:Int):Rat)),h0,Rat.add_zero]at this
   rcases Rat.mul_eq_zero.1 this with h3|h3
   ·have:((j:Int):Rat)=((s:Int):Rat):=by grind
    have:=NZ this
    omega
   ·exact h3
  have hh:∀m,m<=n->fC (n+1) k ((s:Int):Rat) m=0:=fun m hm=>by
   cases m with
   |zero=>rfl
   |succ m=>
    have:=hq (n-(m+1)) (by omega)
    unfold jH at this
    rwa [show n+1-1-(n-(m+1))=m+1 by omega]at this
  have hl:fC (n+1) k ((s:Int):Rat) (n+1)=0:=by
   have:=oL (a:=(n+1,k)) (t:=((s:Int):Rat))
   exact this.trans h0
  intro i hi
  have e:fC (n+1) k ((s:Int):Rat) (n-i+1)=fC (n+1) k ((s:Int):Rat) (n-i)*((s:Int):Rat)+k (n+1-1-(n-i)):=rfl
  rw[hh (n-i) (by omega),Rat.zero_mul,Rat.zero_add,show n+1-1-(n-i)=i by omega]at e
  rw[<-e]
  rcases Nat.eq_zero_or_pos i with h1|h1
  ·subst h1;exact hl
  ·exact hh _ (by omega)
theorem JT {n:Nat} {k l:Nat->Rat} (h:∀t,ev n k t=ev n l t):∀i,i<n->k i=l i:=fun i hi=>by
 have:=JI n (fun i=>k i+-1*l i) 0 (fun j _ _=>by
  rw[vh,uI (k:=l),h];grind) i hi
 grind
def ef (a:PP) (i:Nat):Rat:=if i<a.1 then a.2 i else 0
def aC (a:PP) (t:Rat):Rat:=ev a.1 a.2 t
theorem qj {a:PP} {t:Rat} {m:Nat} (h:a.1<=m):ev m (ef a) t=aC a t:=by
 rw[G6 (n:=a.1) (fun i h1 h2=>by unfold ef;rw[if_neg (by omega)]) h]
 exact ov fun i hi=>by unfold ef;rw[if_pos hi]
theorem p6 {a b:PP} (h:∀t,aC a t=aC b t):∀i,ef a i=ef b i:=fun i=>by
 by_cases hi:i<max a.1 b.1
 ·exact JT (n:=max a.1 b.1) (fun t=>by rw[qj (Nat.le_max_left _ _),qj (Nat.le_max_right _ _),h]) i hi
 ·unfold ef
  rw[if_neg (by omega),if_neg (by omega)]
theorem tK {a b:PP} (ha:Trim a) (h:∀i,ef a i=ef b i):a.1<=b.1:=by
 rcases ha with ha|ha
 ·omega
 ·rcases Nat.lt_or_ge b.1 a.1 with h1|h1
  ·have:=h (a.1-1)
   unfold ef at this
   rw[if_pos (by omega),if_neg (by omega)]at this
   exact absurd this ha
  ·exact h1
theorem Az {a b:PP} (ha:Trim a) (hb:Trim b) (h:∀t,aC a t=aC b t):iT a b:=by
 have hc:=p6 h
 have h1:=tK ha hc
 have h2:=tK hb fun i=>(hc i).symm
 refine⟨by omega,fun i hi=>?_⟩
 have:=hc i
 unfold ef at this
 rwa [if_pos hi,if_pos (by omega)]at this
theorem iT.ev {a b:PP} (h:iT a b) (t:Rat):aC a t=aC b t:=by
 unfold aC
 rw[<-h.1]
 exact ov h.2
theorem qY {n:Nat} {k:Nat->Rat} {t:Rat}:ev (bY k n) k t=ev n k t:=(G6 (fun i h1 h2=>Cq h1 h2) fP).symm
theorem Tt {n e k:Nat} {d r:Nat->Rat} {t:Rat} (h:k+e<n):ev n (gR e d k r) t=ev n r t-r (k+e)/d e*(t^k*ev (e+1) d t):=by
 obtain⟨l,rfl⟩:∃l,n=k+(e+1)+l:=⟨n-(k+(e+1)),by omega⟩
 have h1:ev (k+(e+1)) (gR e d k r) t=ev (k+(e+1)) r t-r (k+e)/d e*(t^k*ev (e+1) d t):=by
  rw[<-Pf (k:=d),Rat.sub_eq_add_neg,<-Rat.neg_mul,<-uI,<-vh]
  refine ov fun i hi=>?_
  unfold gR
  by_cases h2:k<=i
  ·rw[if_pos ⟨h2,by omega⟩,if_pos h2];grind
  ·rw[if_neg (by omega),if_neg h2,Rat.mul_zero,Rat.add_zero]
 have h2:∀(f:Nat->Rat),ev (k+(e+1)+l) f t=ev (k+(e+1)) f t+sg (fun i=>f (k+(e+1)+i)*t^(k+(e+1)+i)) l:=fun f=>A4
 rw[h2,h2 r,h1,gy (f:=fun i=>gR e d k r (k+(e+1)+i)*t^(k+(e+1)+i)) (g:=fun i=>r (k+(e+1)+i)*t^(k+(e+1)+i)) fun i _=>by unfold gR;rw[if_neg (by omega)]]
 grind
theorem Ka {n e R:Nat} {d a:Nat->Rat} {t:Rat} (hR:R=n-e):∀j,j<=R->ev n a t=ev n (cD e d a R j) t+ev R (fun k=>if k+j<R then 0 else fA e d a R k) t*ev (e+1) d t
 |0,_=>by
  rw[show ev R (fun k=>if k+0<R then 0 else fA e d a R k) t=0 from mC fun i hi=>by dsimp only;rw[if_pos (by omega),Rat.zero_mul],Rat.zero_mul,Rat.add_zero];rfl
 |j+1,hj=>by
  have ih:=Ka (t:=t) hR j (by omega) (d:=d) (a:=a)
  have e1:ev n (cD e d a R (j+1)) t=_:=Tt (k:=R-1-j) (r:=cD e d a R j) (by omega)
  have e2:cD e d a R j (R-1-j+e)/d e=fA e d a R (R-1-j):=by unfold fA;rw[show R-1-(R-1-j)=j by omega]
  rw[e2]at e1
  have e3:ev R (fun k=>if k+(j+1)<R then 0 else fA e d a R k) t=ev R (fun k=>if k+j<R then 0 else fA e d a R k) t+fA e d a R (R-1-j)*t^(R-1-j):=by
   have:∀i,(if i+(j+1)<R then 0 else fA e d a R i)=(if i+j<R then 0 else fA e d a R i)+(if i=R-1-j then fA e d a R (R-1-j)else 0):=fun i=>by
    by_cases h1:i+(j+1)<R
    ·rw[if_pos h1,if_pos (by omega),if_neg (by omega),Rat.add_zero]
    ·rw[if_neg h1]
     by_cases h2:i=R-1-j
     ·rw[if_pos (by omega),if_pos h2,Rat.zero_add,h2]
     ·rw[if_neg (by omega),if_neg h2,Rat.add_zero]
   rw[show(fun k=>if k+(j+1)<R then 0 else fA e d a R k)=fun i=>(if i+j<R then 0 else fA e d a R i)+(if i=R-1-j then fA e d a R (R-1-j)else 0)from funext this,vh]
   congr 1
   -- a single power
   unfold ev
   rw[xB (n:=R-1-j+1) (fun i h1 h2=>by dsimp only;rw[if_neg (by omega),Rat.zero_mul]) (by omega),sg,mC fun i hi=>by dsimp only;rw[if_neg (by omega),Rat.zero_mul],Rat.zero_add]
   dsimp only
   rw[if_pos rfl]
  rw[e1,e3,ih]
  grind
theorem rm {a d:PP} (hd:0<d.1) (t:Rat):aC a t=aC (gk a d) t*aC d t+aC (fl a d) t:=by
 have:=Ka (n:=a.1) (e:=d.1-1) (d:=d.2) (a:=a.2) (t:=t) rfl _ (Nat.le_refl _)
 rw[show d.1-1+1=d.1 by omega]at this
 have e1:aC (gk a d) t=ev _ _ t:=qY
 have e2:aC (fl a d) t=ev _ _ t:=qY
 show ev a.1 a.2 t=aC (gk a d) t*ev d.1 d.2 t+aC (fl a d) t
 rw[e1,e2,this]
 rw[ov (k:=fun k=>if k+(a.1-(d.1-1))<a.1-(d.1-1)then 0 else fA (d.1-1) d.2 a.2 (a.1-(d.1-1)) k) (l:=fA (d.1-1) d.2 a.2 (a.1-(d.1-1))) fun i hi=>if_neg (by omega)]
 grind
def cs:Nat->(Nat->Rat)->Rat->Rat
 |0,p,_=>p 0
 |m+1,p,t=>(1-t)*cs m p t+t*cs m (fun i=>p (i+1)) t
abbrev bq (n k:Nat):Rat:=((bn n k:Int):Rat)
theorem FT (n k:Nat):bq (n+1) (k+1)=bq n k+bq n (k+1):=by
 show((bn (n+1) (k+1):Int):Rat)=_
 rw[oy,Int.natCast_add,Rat.intCast_add]
theorem ot (n:Nat):bq n 0=1:=by show((bn n 0:Int):Rat)=1;rw[qc];rfl
theorem xj {n k:Nat} (h:n<k):bq n k=0:=by show((bn n k:Int):Rat)=0;rw[nS h];rfl
theorem z8 {n k:Nat} (h:k<=n):bq n k≠0:=by
 intro h0
 have h1:((bn n k:Int):Rat).num=(0:Rat).num:=congrArg Rat.num h0
 rw[Rat.num_intCast,show(0:Rat).num=0 from rfl]at h1
 have:=zn h
 omega
theorem E3 {p:Nat->Rat}:∀k i,ek p k (i+1)=ek (fun i=>p (i+1)) k i
 |0,_=>rfl
 |k+1,i=>by rw[ek,ek,E3 (p:=p) k (i+1),E3 (p:=p) k i]
theorem E2 {p q:Nat->Rat}:∀k i,(∀j,j<=i+k->p j=q j)->ek p k i=ek q k i
 |0,i,h=>h i (by omega)
 |k+1,i,h=>by rw[ek,ek,E2 k (i+1) fun j hj=>h j (by omega),E2 k i fun j hj=>h j (by omega)]
theorem ES:∀(m:Nat) (p:Nat->Rat) (t:Rat),ev (m+1) (fun k=>bq m k*ek p k 0) t=cs m p t
 |0,p,t=>by
  show 0+bq 0 0*p 0*t^0=p 0
  rw[ot,Rat.pow_zero];grind
 |m+1,p,t=>by
  have h1:=ES m p t
  have h2:=ES m (fun i=>p (i+1)) t
  rw[cs,<-h1,<-h2,vm (n:=m+1)]
  have e1:∀k,bq (m+1) (k+1)*ek p (k+1) 0=bq m (k+1)*ek p (k+1) 0+(bq m k*ek (fun i=>p (i+1)) k 0+-1*(bq m k*ek p k 0)):=fun k=>by
   rw[FT,<-E3]
   have:ek p (k+1) 0=ek p k 1-ek p k 0:=rfl
   rw[this];grind
  rw[show(fun i=>bq (m+1) (i+1)*ek p (i+1) 0)=fun k=>bq m (k+1)*ek p (k+1) 0+(bq m k*ek (fun i=>p (i+1)) k 0+-1*(bq m k*ek p k 0))from funext e1,vh,vh,uI]
  rw[IP (k:=fun k=>bq m (k+1)*ek p (k+1) 0),xj (Nat.lt_succ_self m),Rat.zero_mul,Rat.zero_mul,Rat.add_zero]
  rw[vm (k:=fun k=>bq m k*ek p k 0),ot,ot]
  have:ek p 0 0=p 0:=rfl
  rw[this]
  generalize ev m (fun i=>bq m (i+1)*ek p (i+1) 0) t=A
  generalize ev (m+1) (fun k=>bq m k*ek (fun i=>p (i+1)) k 0) t=B
  grind
theorem Ea {m:Nat} {p:Nat->Rat} {t:Rat}:ev (m+1) (gA (m+1) p) t=cs m p t:=ES m p t
def hv (m:Nat) (u:Nat->Rat) (x y:Rat):Rat:=sg (fun i=>u i*(x^i*y^(m-i))) (m+1)
theorem uh:∀(m:Nat) (p:Nat->Rat) (t:Rat),hv m (fun i=>bq m i*p i) t (1-t)=cs m p t
 |0,p,t=>by
  show 0+bq 0 0*p 0*(t^0*(1-t)^0)=p 0
  rw[ot,Rat.pow_zero,Rat.pow_zero];grind
 |m+1,p,t=>by
  have h1:=uh m p t
  have h2:=uh m (fun i=>p (i+1)) t
  rw[cs,<-h1,<-h2]
  unfold hv
  rw[sJ (n:=m+1)]
  dsimp only
  rw[ot]
  have e1:∀i,i<m+1->bq (m+1) (i+1)*p (i+1)*(t^(i+1)*(1-t)^(m+1-(i+1)))=t*(bq m i*p (i+1)*(t^i*(1-t)^(m-i)))+bq m (i+1)*p (i+1)*(t^(i+1)*(1-t)^(m-i)):=fun i hi=>by
   rw[FT,show m+1-(i+1)=m-i by omega,Rat.pow_succ];grind
  rw[gy e1,pN,mG]
  have e2:sg (fun i=>bq m (i+1)*p (i+1)*(t^(i+1)*(1-t)^(m-i))) (m+1)=sg (fun i=>(1-t)*(bq m (i+1)*p (i+1)*(t^(i+1)*(1-t)^(m-(i+1))))) m:=by
   rw[sg,xj (Nat.lt_succ_self m),Rat.zero_mul,Rat.zero_mul,Rat.add_zero]
   exact gy fun i hi=>by rw[show m-i=m-(i+1)+1 by omega,Rat.pow_succ (1-t)];grind
  rw[e2,mG,sJ (f:=fun i=>bq m i*p i*(t^i*(1-t)^(m-i))),ot,Rat.pow_zero,Nat.sub_zero,Nat.sub_zero,Rat.pow_succ]
  generalize sg (fun i=>bq m (i+1)*p (i+1)*(t^(i+1)*(1-t)^(m-(i+1)))) m=A
  generalize sg (fun i=>bq m i*p (i+1)*(t^i*(1-t)^(m-i))) (m+1)=B
  grind
def jQ (m n:Nat) (u v:Nat->Rat) (k:Nat):Rat:=sg (fun i=>sg (fun j=>if i+j=k then u i*v j else 0) (n+1)) (m+1)
theorem BL {f:Nat->Rat} {i n:Nat} (hi:i<n) (h:∀j,j<n->j≠i->f j=0):sg f n=f i:=by
 rw[xB (n:=i+1) (fun j h1 h2=>h j h2 (by omega)) (by omega),sg,mC fun j hj=>h j (by omega) (by omega),Rat.zero_add]
theorem Dd {m n:Nat} {u v X:Nat->Rat}:sg (fun k=>jQ m n u v k*X k) (m+n+1)=sg (fun i=>sg (fun j=>u i*v j*X (i+j)) (n+1)) (m+1):=by
 unfold jQ
 have e1:∀k,sg (fun i=>sg (fun j=>if i+j=k then u i*v j else 0) (n+1)) (m+1)*X k=sg (fun i=>sg (fun j=>if i+j=k then u i*v j*X k else 0) (n+1)) (m+1):=fun k=>by
  rw[Rat.mul_comm,<-mG]
  refine gy fun i _=>?_
  rw[<-mG]
  refine gy fun j _=>?_
  by_cases h:i+j=k
  ·rw[if_pos h,if_pos h];grind
  ·rw[if_neg h,if_neg h,Rat.mul_zero]
 rw[gy fun k _=>e1 k,A0]
 refine gy fun i hi=>?_
 rw[A0]
 refine gy fun j hj=>?_
 rw[BL (i:=i+j) (by omega) fun k _ h=>if_neg fun h'=>h h'.symm,if_pos rfl]
theorem abG {m n:Nat} {u v:Nat->Rat} {x y:Rat}:hv (m+n) (jQ m n u v) x y=hv m u x y*hv n v x y:=by
 unfold hv
 rw[Dd (X:=fun k=>x^k*y^(m+n-k)),<-mG (f:=fun i=>v i*(x^i*y^(n-i)))]
 rw[show(fun i=>sg (fun i=>u i*(x^i*y^(m-i))) (m+1)*(v i*(x^i*y^(n-i))))=fun j=>sg (fun i=>v j*(x^j*y^(n-j))*(u i*(x^i*y^(m-i)))) (m+1)from funext fun j=>by rw[mG];grind]
 rw[<-A0]
 refine gy fun i hi=>gy fun j hj=>?_
 rw[show m+n-(j+i)=(m-j)+(n-i) by omega,pow_add',pow_add'];grind
def j4 (m n:Nat) (p q:Nat->Rat) (k:Nat):Rat:=jQ m n (fun i=>bq m i*p i) (fun j=>bq n j*q j) k/bq (m+n) k
theorem aaS {m n:Nat} {p q:Nat->Rat} {t:Rat}:cs (m+n) (j4 m n p q) t=cs m p t*cs n q t:=by
 rw[<-uh,<-uh,<-uh,<-abG]
 unfold hv
 refine gy fun i hi=>?_
 show bq (m+n) i*j4 m n p q i*_=jQ _ _ _ _ i*_
 rw[show bq (m+n) i*j4 m n p q i=jQ m n (fun i=>bq m i*p i) (fun j=>bq n j*q j) i from by unfold j4;rw[Rat.mul_comm,Rat.div_mul_cancel (z8 (by omega))]]
theorem OC {n:Nat} {c:Nat->Rat} {i:Nat}:∀k,jK n c i k=sg (fun k=>bq i k/bq (n-1) k*c k) k
 |0=>rfl
 |k+1=>by rw[jK,sg,OC k]
theorem EG {g:Nat->Rat} {n:Nat} (hg:∀k,n<=k->g k=0):∀j i,ek (fun i=>sg (fun k=>bq i k*g k) n) j i=sg (fun k=>bq i k*g (k+j)) n
 |0,i=>rfl
 |j+1,i=>by
  rw[ek,EG hg j,EG hg j]
  cases n with
  |zero=>simp only[sg];grind
  |succ n=>
   rw[sJ,sJ (f:=fun k=>bq i k*g (k+j)),ot,ot]
   rw[gy (f:=fun k=>bq (i+1) (k+1)*g (k+1+j)) (g:=fun k=>bq i k*g (k+(j+1))+bq i (k+1)*g (k+1+j)) fun k _=>by rw[FT,show k+(j+1)=k+1+j by omega];grind,pN,sg,hg (n+(j+1)) (by omega),Rat.mul_zero,Rat.add_zero]
   grind
theorem TP {m:Nat} {c:Nat->Rat} {j:Nat} (hj:j<=m):gA (m+1) (eJ (m+1) c) j=c j:=by
 obtain⟨g,hg⟩:∃g:Nat->Rat,g=fun k=>if k<m+1 then c k/bq m k else 0:=⟨_,rfl⟩
 have h0:∀k,m+1<=k->g k=0:=fun k hk=>by rw[hg];exact if_neg (by omega)
 have h1:∀i,i<=m->eJ (m+1) c i=sg (fun k=>bq i k*g k) (m+1):=fun i hi=>by
  unfold eJ
  rw[OC,xB (f:=fun k=>bq i k*g k) (n:=i+1) (m:=m+1) (fun k k1 k2=>by rw[xj (by omega),Rat.zero_mul]) (by omega)]
  refine gy fun k hk=>?_
  rw[hg]
  dsimp only
  rw[if_pos (by omega),show m+1-1=m by omega,Rat.div_def,Rat.div_def];grind
 show bq (m+1-1) j*ek (eJ (m+1) c) j 0=c j
 rw[E2 (q:=fun i=>sg (fun k=>bq i k*g k) (m+1)) j 0 fun i hi=>h1 i (by omega),EG h0,BL (i:=0) (by omega) fun k _ hk=>by rw[xj (by omega),Rat.zero_mul],ot,Rat.one_mul,Nat.zero_add,hg]
 dsimp only
 rw[if_pos (by omega),show m+1-1=m by omega,Rat.mul_comm,Rat.div_mul_cancel (z8 hj)]
theorem XM {m:Nat} {c:Nat->Rat} {t:Rat}:cs m (eJ (m+1) c) t=ev (m+1) c t:=by
 rw[<-Ea]
 exact ov fun i hi=>TP (by omega)
def jv (a b:PP):PP:=(max a.1 b.1,fun i=>ef a i+ef b i)
def gQ (r:Rat) (a:PP):PP:=(a.1,fun i=>r*a.2 i)
def cj (a b:PP):PP:=(a.1+b.1+1,jQ a.1 b.1 (ef a) (ef b))
theorem jU {a b:PP} {t:Rat}:aC (jv a b) t=aC a t+aC b t:=by
 show ev (max a.1 b.1) (fun i=>ef a i+ef b i) t=_
 rw[vh,qj (Nat.le_max_left _ _),qj (Nat.le_max_right _ _)]
theorem gx {r:Rat} {a:PP} {t:Rat}:aC (gQ r a) t=r*aC a t:=uI
theorem Dn {m n:Nat} {f g:Nat->Rat}:sg (fun i=>sg (fun j=>f i*g j) n) m=sg f m*sg g n:=by
 rw[Rat.mul_comm,<-mG]
 exact gy fun i _=>by rw[mG,Rat.mul_comm]
theorem cF {a b:PP} {t:Rat}:aC (cj a b) t=aC a t*aC b t:=by
 rw[<-qj (a:=a) (Nat.le_succ a.1),<-qj (a:=b) (Nat.le_succ b.1)]
 show sg (fun k=>jQ a.1 b.1 (ef a) (ef b) k*t^k) (a.1+b.1+1)=_
 rw[Dd (X:=fun k=>t^k)]
 unfold ev
 rw[<-Dn]
 exact gy fun i _=>gy fun j _=>by rw[pow_add'];grind
def dX (t:Rat) (i:Nat):Rat:=((i:Int):Rat)*t^(i-1)
theorem P7 {t:Rat} {i j:Nat}:dX t (i+j)=dX t i*t^j+t^i*dX t j:=by
 unfold dX
 cases i with
 |zero=>
  rw[Nat.zero_add,Rat.pow_zero,show((0:Nat):Int)=0 from rfl,show((0:Int):Rat)=0 from rfl];grind
 |succ i=>
  cases j with
  |zero=>rw[Nat.add_zero,Rat.pow_zero,show((0:Nat):Int)=0 from rfl,show((0:Int):Rat)=0 from rfl];grind
  |succ j=>
   rw[show i+1+(j+1)-1=i+(j+1) by omega,show i+1-1=i by omega,show j+1-1=j by omega,show((i+1+(j+1):Nat):Int)=((i+1:Nat):Int)+((j+1:Nat):Int) by omega,Rat.intCast_add,pow_add',Rat.pow_succ,Rat.pow_succ];grind
def ej (a:PP) (t:Rat):Rat:=sg (fun i=>a.2 i*dX t i) a.1
theorem ug {a:PP} {t:Rat} {m:Nat} (h:a.1<=m):sg (fun i=>ef a i*dX t i) m=ej a t:=by
 rw[xB (n:=a.1) (fun i h1 h2=>by unfold ef;rw[if_neg (by omega),Rat.zero_mul]) h]
 exact gy fun i hi=>by unfold ef;rw[if_pos hi]
theorem jx {a:PP} {t:Rat}:aC (bL a) t=ej a t:=by
 have e1:aC (bL a) t=ev (a.1-1) (dw a.2) t:=qY
 rw[e1]
 unfold ej
 rcases Nat.eq_zero_or_pos a.1 with h|h
 ·rw[h];rfl
 ·obtain⟨n,hn⟩:∃n,a.1=n+1:=⟨a.1-1,by omega⟩
  rw[hn,sJ,show n+1-1=n by omega]
  have:dX t 0=0:=by unfold dX;rw[show((0:Nat):Int)=0 from rfl,show((0:Int):Rat)=0 from rfl,Rat.zero_mul]
  rw[this,Rat.mul_zero,Rat.zero_add]
  refine gy fun i _=>?_
  unfold dw dX
  rw[show i+1-1=i by omega];grind
theorem GX {a b:PP} (h:∀t,aC a t=aC b t) (t:Rat):ej a t=ej b t:=by
 rw[<-ug (Nat.le_max_left a.1 b.1),<-ug (Nat.le_max_right a.1 b.1)]
 exact gy fun i _=>by rw[p6 h i]
theorem mS {a b c:PP} (h:∀t,aC c t=aC a t*aC b t) (t:Rat):ej c t=ej a t*aC b t+aC a t*ej b t:=by
 rw[GX (b:=cj a b) (fun t=>by rw[h,cF]) t]
 show sg (fun k=>jQ a.1 b.1 (ef a) (ef b) k*dX t k) (a.1+b.1+1)=_
 rw[Dd (X:=dX t),<-ug (a:=a) (Nat.le_succ a.1),<-ug (a:=b) (Nat.le_succ b.1),<-qj (a:=a) (Nat.le_succ a.1),<-qj (a:=b) (Nat.le_succ b.1)]
 unfold ev
 rw[<-Dn,<-Dn,<-pN]
 refine gy fun i _=>?_
 rw[<-pN]
 exact gy fun j _=>by rw[P7];grind
def Dv (h a:PP):Prop:=∃w:PP,∀t,aC a t=aC h t*aC w t
def gJ:PP:=(1,fun _=>1)
theorem jf {t:Rat}:aC gJ t=1:=by show 0+1*t^0=1;rw[Rat.pow_zero];grind
theorem Dv.refl (a:PP):Dv a a:=⟨gJ,fun t=>by rw[jf,Rat.mul_one]⟩
theorem Dv.of_eq {h a b:PP} (hd:Dv h a) (e:∀t,aC a t=aC b t):Dv h b:=hd.imp fun w hw t=>by rw[<-e,hw]
theorem Dv.trans {a b c:PP} (h1:Dv a b) (h2:Dv b c):Dv a c:=by
 obtain⟨v,hv⟩:=h1
 obtain⟨w,hw⟩:=h2
 exact⟨cj v w,fun t=>by rw[hw,hv,cF,Rat.mul_assoc]⟩
theorem Dv.comb {h a b c u v:PP} (ha:Dv h a) (hb:Dv h b) (e:∀t,aC c t=aC u t*aC a t+aC v t*aC b t):Dv h c:=by
 obtain⟨x,hx⟩:=ha
 obtain⟨y,hy⟩:=hb
 exact⟨jv (cj u x) (cj v y),fun t=>by rw[e,hx,hy,jU,cF,cF];grind⟩
theorem Dv.rT {h a:PP} (ha:Dv h a) (r:Rat) {b:PP} (e:∀t,aC b t=r*aC a t):Dv h b:=by
 obtain⟨x,hx⟩:=ha
 exact⟨gQ r x,fun t=>by rw[e,hx,gx];grind⟩
theorem Dv.rem {h a d:PP} (hd:0<d.1) (h1:Dv h a) (h2:Dv h d):Dv h (fl a d):=
 Dv.comb (u:=gJ) (v:=gQ (-1) (gk a d)) h1 h2 fun t=>by rw[rm (a:=a) hd t,jf,gx];grind
theorem xU {a:PP} {t:Rat}:aC (ga a) t=(a.2 (a.1-1))⁻¹*aC a t:=by
 show ev a.1 (cV a.1 a.2) t=_
 rw[show aC a t=ev a.1 a.2 t from rfl,<-uI]
 exact ov fun i _=>by unfold cV;rw[Rat.div_def,Rat.mul_comm]
theorem Et {a:PP} (ha:Trim a) {t:Rat}:aC a t=a.2 (a.1-1)*aC (ga a) t:=by
 rw[xU,<-Rat.mul_assoc]
 rcases ha with h|h
 ·have:aC a t=0:=by show ev a.1 a.2 t=0;rw[h];rfl
  rw[this,Rat.mul_zero]
 ·rw[Rat.mul_inv_cancel _ h,Rat.one_mul]
theorem Dv.cV {h a:PP} (h1:Dv h a):Dv h (ga a):=h1.rT _ fun _=>xU
theorem Dv.GV {h a:PP} (ha:Trim a) (h1:Dv h (ga a)):Dv h a:=h1.rT _ fun _=>Et ha
theorem M5 {h:PP} {s:PP×PP} (h1:Dv h s.1) (h2:Dv h s.2):∀j,Dv h (bZ s j).1/\Dv h (bZ s j).2
 |0=>⟨h1,h2⟩
 |j+1=>by
  obtain⟨i1,i2⟩:=M5 h1 h2 j
  show Dv h (gb _).1/\Dv h (gb _).2
  unfold gb
  by_cases h0:(bZ s j).2.1=0
  ·rw[if_pos h0];exact⟨i1,i2⟩
  ·rw[if_neg h0];exact⟨i2,(i1.rem (by omega) i2).cV⟩
theorem DN {h a b:PP} (h1:Dv h a) (h2:Dv h b):Dv h (bW a b):=(M5 (s:=(a,b)) h1 h2 _).1.cV
theorem Fm {h:PP} {s:PP×PP} (t1:Trim s.1) (t2:Trim s.2):∀j,Dv h (bZ s j).1->Dv h (bZ s j).2->Dv h s.1/\Dv h s.2
 |0,h1,h2=>⟨h1,h2⟩
 |j+1,h1,h2=>by
  have h1:Dv h (gb (bZ s j)).1:=h1
  have h2:Dv h (gb (bZ s j)).2:=h2
  unfold gb at h1 h2
  by_cases h0:(bZ s j).2.1=0
  ·rw[if_pos h0]at h1 h2;exact Fm t1 t2 j h1 h2
  ·rw[if_neg h0]at h1 h2
   refine Fm t1 t2 j (Dv.comb (u:=gk (bZ s j).1 (bZ s j).2) (v:=gJ) h1 (h2.GV qZ) fun t=>?_) h1
   rw[jf,Rat.one_mul]
   exact rm (a:=(bZ s j).1) (d:=(bZ s j).2) (by omega) t
theorem iO {a:PP} (h:a.1=0) (t:Rat):aC a t=0:=by show ev a.1 a.2 t=0;rw[h];rfl
theorem vj {a b:PP} (t1:Trim a) (t2:Trim b):Dv (bW a b) a/\Dv (bW a b) b:=by
 have h0:(bZ (a,b) b.1).2.1=0:=by have:=yQ (s:=(a,b)) t1 t2 b.1;dsimp only at this;omega
 have ht:=mY (s:=(a,b)) t1 t2 b.1
 refine Fm (s:=(a,b)) t1 t2 b.1 (Dv.GV ht.1 (Dv.refl _)) ⟨(0,fun _=>0),fun t=>?_⟩
 rw[iO h0,iO (a:=(0,fun _=>(0:Rat))) rfl,Rat.mul_zero]
theorem Ca {a:PP} (h:0<a.1) (ht:Trim a):ef a (a.1-1)≠0:=by
 unfold ef
 rw[if_pos (by omega)]
 rcases ht with h'|h'
 ·omega
 ·exact h'
theorem KR {a b:PP} (ha:0<a.1) (hb:0<b.1) (ta:Trim a) (tb:Trim b):ef (cj a b) (a.1-1+(b.1-1))≠0:=by
 have e:ef (cj a b) (a.1-1+(b.1-1))=jQ a.1 b.1 (ef a) (ef b) (a.1-1+(b.1-1)):=by
  show(if _<a.1+b.1+1 then _ else _)=_
  rw[if_pos (by omega)];rfl
 rw[e]
 unfold jQ
 have z:∀{c:PP} {i:Nat},c.1<=i->ef c i=0:=fun h=>by unfold ef;rw[if_neg (by omega)]
 rw[BL (i:=a.1-1) (by omega) fun i hi hne=>mC fun j hj=>by
  by_cases h:i+j=a.1-1+(b.1-1)
  ·rw[if_pos h]
   by_cases h2:a.1<=i
   ·rw[z h2,Rat.zero_mul]
   ·rw[z (c:=b) (i:=j) (by omega),Rat.mul_zero]
  ·rw[if_neg h],BL (i:=b.1-1) (by omega) fun j hj hne=>if_neg (by omega),if_pos rfl]
 exact fun h0=>(Rat.mul_eq_zero.1 h0).elim (Ca ha ta) (Ca hb tb)
def b9 (a:PP):PP:=(bY a.2 a.1,a.2)
theorem eL {a:PP} (t:Rat):aC (b9 a) t=aC a t:=qY
theorem fN {a:PP}:Trim (b9 a):=k8
theorem oI {a b c:PP} (h:∀t,aC c t=aC a t*aC b t) (hc:0<c.1) (tc:Trim c) (ta:Trim a) (tb:Trim b):0<a.1/\0<b.1/\c.1=a.1-1+(b.1-1)+1:=by
 have h0:¬∀t,aC c t=aC (0,fun _=>0) t:=fun h1=>by
  have:=tK tc fun i=>p6 h1 i
  dsimp only at this;omega
 have ha:0<a.1:=by
  rcases Nat.eq_zero_or_pos a.1 with h1|h1
  ·exact absurd (fun t=>by rw[h,iO h1,iO (a:=(0,fun _=>(0:Rat))) rfl,Rat.zero_mul]) h0
  ·exact h1
 have hb:0<b.1:=by
  rcases Nat.eq_zero_or_pos b.1 with h1|h1
  ·exact absurd (fun t=>by rw[h,iO h1,iO (a:=(0,fun _=>(0:Rat))) rfl,Rat.mul_zero]) h0
  ·exact h1
 have hcf:∀i,ef c i=ef (cj a b) i:=p6 fun t=>by rw[h,cF]
 refine⟨ha,hb,?_⟩
 have h1:a.1-1+(b.1-1)<c.1:=by
  rcases Nat.lt_or_ge (a.1-1+(b.1-1)) c.1 with h2|h2
  ·exact h2
  ·exact absurd (by rw[<-hcf];unfold ef;rw[if_neg (by omega)]) (KR ha hb ta tb)
 have h2:¬a.1-1+(b.1-1)+1<c.1:=fun h3=>by
  have:=Ca hc tc
  rw[hcf]at this
  refine this ?_
  show(if _<a.1+b.1+1 then jQ a.1 b.1 (ef a) (ef b) (c.1-1)else 0)=0
  split
  ·unfold jQ
   refine mC fun i hi=>mC fun j hj=>?_
   have z:∀{c:PP} {i:Nat},c.1<=i->ef c i=0:=fun h=>by unfold ef;rw[if_neg (by omega)]
   by_cases h4:i+j=c.1-1
   ·rw[if_pos h4]
    by_cases h5:a.1<=i
    ·rw[z h5,Rat.zero_mul]
    ·rw[z (c:=b) (i:=j) (by omega),Rat.mul_zero]
   ·rw[if_neg h4]
  ·rfl
 omega
theorem Dv.len {h g:PP} (hd:Dv h g) (hg:0<g.1) (tg:Trim g) (th:Trim h):h.1<=g.1:=by
 obtain⟨w,hw⟩:=hd
 have:=oI (b:=b9 w) (fun t=>by rw[hw,eL]) hg tg th fN
 omega
structure jo (c h f:PP):Prop where
 eq:∀t,aC c t=aC h t*aC f t
 dv:Dv h (bL c)
theorem jo.one:jo gJ gJ gJ:=⟨fun t=>by rw[jf,Rat.mul_one],⟨bL gJ,fun t=>by rw[jf,Rat.one_mul]⟩⟩
theorem jo.Fl {c h f q c':PP} (s:jo c h f) (e:∀t,aC c' t=aC c t*aC q t):jo c' h (cj f q):=
 ⟨fun t=>by rw[e,s.eq,cF,Rat.mul_assoc],Dv.comb (u:=q) (v:=bL q) s.dv ⟨f,s.eq⟩ fun t=>by rw[jx,mS e,jx,jx];grind⟩
theorem jo.NU {c h f q c':PP} (s:jo c h f) (e:∀t,aC c' t=aC c t*aC q t*aC q t):jo c' (cj h q) (cj f q):=by
 refine⟨fun t=>by rw[e,s.eq,cF,cF];grind,?_⟩
 obtain⟨w,hw⟩:=s.dv
 refine⟨jv (cj w q) (gQ 2 (cj f (bL q))),fun t=>?_⟩
 have e1:∀t,aC (cj c q) t=aC c t*aC q t:=fun t=>cF
 have e2:∀t,aC c' t=aC (cj c q) t*aC q t:=fun t=>by rw[e,e1]
 have hw':ej c t=aC h t*aC w t:=by rw[<-jx];exact hw t
 rw[jx,mS e2,mS e1,e1,hw',jU,gx,cF,cF,cF,jx,s.eq]
 grind
theorem OK {c h f:PP} (s:jo c h f) (hc:0<c.1) (tc:Trim c):(aZ c).1<=(b9 f).1:=by
 obtain⟨h1,h2,h3⟩:=oI (a:=b9 h) (b:=b9 f) (fun t=>by rw[s.eq,eL,eL]) hc tc fN fN
 have hd:Dv h c:=⟨f,s.eq⟩
 have hg:Dv (b9 h) (bW c (bL c)):=by
  have:=DN hd s.dv
  exact this.imp fun w hw t=>by rw[hw,eL]
 have hl:=hg.len (m8 hc) (jS tc dR) fN
 unfold aZ
 rw[if_neg (by omega)]
 show bY _ _<=_
 refine Nat.le_trans fP ?_
 omega
end Go.Am
