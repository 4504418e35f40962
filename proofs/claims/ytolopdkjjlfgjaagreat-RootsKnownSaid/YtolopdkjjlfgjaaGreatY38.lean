/- roots.sturm. -/
import Derived.Test.YtolopdkjjlfgjaaGreatY37
import Derived.Test.YtolopdkjjlfgjaaGreatZ2
set_option linter.unusedVariables false
noncomputable section
namespace Go.Am.B
open Go Go.Am.N AV af au IntKind Proofs.Tryz
abbrev MV (n:Nat) (s:PP×PP):AV:=.az 1 n fun i=>aO (bZ s i).1
abbrev E0 (n:Nat) (s:PP×PP):aC:=⟨true,true,1,n,fun i=>aO (bZ s i).1⟩
def B6:bG:=zG::(88,B2)::(121,DG)::(73,Bf)::(80,Ia)::gF
abbrev yL:Code:=aJ f59
abbrev zS:List Nat:=[3,4,5]
abbrev Oi (s:PP×PP) (j:Nat):List AV:=[aO (bZ s j).1,.own 0 1 0 (j+1),aO (bZ s j).2]
def x6 (s:PP×PP):Prop:=∀j,j<fl s->s7 (bZ s j).1 (bZ s j).2/\dy (bZ s (j+1)).2.1 (bZ s (j+1)).2.2
theorem Ta:bC 59 f59:=bD func59
theorem aad {a:PP}:aK T B6 [] 60 zS (before yL [1,1,1,0,1]) ⟨bf 0 [aO a],[],0⟩=
  let c2:Nat×(Nat->Rat):=(a.fst,fun i=>aN (rat (a.snd i) ag));let c1:PP:=aW c2;some (aj [cX (fun i=>rat (a.snd i) ag) a.fst ag,a.fst<2^30,Trim c2,dy (a.fst-1) (dF fun i=>aN (rat (a.snd i) ag)),zR c2] (aj [(1:Nat)*1<=2^24] (aj [cX (fun i=>rat (c1.snd i) ag) c1.fst ag,c1.fst<2^40,dy (c1.fst-1) (dF fun i=>aN (rat (c1.snd i) ag))] (leaf normal ([az 3 c1.fst fun i=>rat (c1.snd i) ag,own 20480 1 0 1,az 3 (cr (dF fun i=>aN (rat (c1.snd i) ag)) (c1.fst-1)) fun i=>rat (dF (fun i=>aN (rat (c1.snd i) ag)) i) ag],[(20480,aC.mk true true 1 1 fun i=>nth [az 3 c1.fst fun i=>rat (c1.snd i) ag] nil i)]))))):=ah
theorem acA {x y:PP} {s:PP×PP} {j:Nat}:aK T B6 [16] 60 zS [part yL [1,1,1,0,1,0,0]] ⟨aH zS [aO x,.own 0 1 0 (j+1),aO y],[(0,E0 (j+1) s)],1⟩=
  let c6:Int:=(-1:Int);let c4:AV:=az 3 y.fst fun i=>rat (y.snd i) ag;let c3:Nat:=j+1;let c2:Nat:=y.fst-1;let c7:Nat:=c3+1;let c5:Nat:=x.fst-c2;let c1:Nat:=cr (cM c2 (fun i=>aN (rat (y.snd i) ag)) (fun i=>aN (rat (x.snd i) ag)) c5 c5) x.fst;some (fork (decide ((↑y.fst:Int)>0)) (aj [(1:Nat)*1<=2^24,c7*((24:Nat)+1)*2<=2^47] (aj [cX (fun i=>rat (x.snd i) ag) x.fst ag,cX (fun i=>rat (y.snd i) ag) y.fst ag,x.fst<2^30,(1:Nat)<=y.fst,y.fst<2^30,x.fst=0\/aN (rat (x.snd (x.fst-1)) ag)≠0,aN (rat (y.snd c2) ag)≠0,tM x.fst c2 (fun i=>aN (rat (y.snd i) ag)) fun i=>aN (rat (x.snd i) ag)] (aj [-(2:Int)^63<=c6,c6<2^63,cX (fun i=>rat (cM c2 (fun i=>aN (rat (y.snd i) ag)) (fun i=>aN (rat (x.snd i) ag)) c5 c5 i) ag) c1 ag,Max.max 1 (bU c6.natAbs)<=vL,c1<2^40,dy c1 fun i=>(↑c6:Rat)*aN (rat (cM c2 (fun i=>aN (rat (y.snd i) ag)) (fun i=>aN (rat (x.snd i) ag)) c5 c5 i) ag)] (leaf normal ([c4,own 24577 1 0 c7,az 3 c1 fun i=>rat ((↑c6:Rat)*aN (rat (cM c2 (fun i=>aN (rat (y.snd i) ag)) (fun i=>aN (rat (x.snd i) ag)) c5 c5 i) ag)) ag],[(24577,aC.mk true true 1 c7 fun i=>if i<c3 then aO (bZ s i).fst else nth [az 3 y.fst fun i=>rat (y.snd i) ag] nil (i-c3+0))]))))) (leaf (exit 0) ([az 3 x.fst fun i=>rat (x.snd i) ag,own 0 1 0 c3,c4],[(0,aC.mk true true 1 c3 fun i=>az 3 (bZ s i).fst.fst fun i_1=>rat ((bZ s i).fst.snd i_1) ag)]))):=ah
theorem T3 {s:PP×PP} {j:Nat}:dJ T B6 [] 60 f59 [part yL [1,1,1,1]] ⟨aH zS (Oi s j),[(0,E0 (j+1) s)],1⟩=
  some (leaf ret [az 1 (j+1) fun i=>az 3 (bZ s (i+0)).fst.fst fun i_1=>rat ((bZ s (i+0)).fst.snd i_1) ag]):=ah
theorem ZL:cm P B6:=jD (aM CZ (aM JJ (aM Gc (aM Rq gU))))
theorem UB {a:PP} (ha:a.1<2^30) (ta:Trim a) (hd:dy (a.1-1) (dF a.2)) (hz:zR a) (hd2:dy ((aW a).1-1) (dF (aW a).2)) (hs:x6 (ek a)) (K:Nat):aY P 59 K [aO a] [] (aT (MV (fl (ek a)+1) (ek a)) []):=by
 obtain⟨s,hss⟩:∃s,s=ek a:=⟨_,rfl⟩
 have t1:Trim s.1:=by rw[hss];exact iA
 have t2:Trim s.2:=by rw[hss];exact dS
 have hTr:=m9 t1 t2
 obtain⟨g1,g2,g3⟩:=mc t1 t2
 have hfl:(aW a).1<=a.1:=by
  unfold aW;split
  ·exact Nat.zero_le _
  ·exact Nat.le_trans fU (Nat.sub_le _ _)
 have hdl:(bh (aW a)).1<=(aW a).1-1:=fU
 have hB:=Iq (s:=s) (B:=2^30-1) (by rw[hss];show(aW a).1<=_;omega) (by rw[hss];show(bh (aW a)).1<=_;omega) t1 t2
 have hg0:s.2.1=(bh (aW a)).1:=by rw[hss];rfl
 have hg:fl s<2^30:=aa
 rw[<-hss]at hs ⊢
 refine pX (r:=aT (MV (fl s+1) s) []) hT ZL hm Ta rfl br rfl [1,1,1,0,1] (i:=0) (y:=part yL [1,1,1,0,1,0,0]) (z:=part yL [1,1,1,1]) ah ah ah (f1:=[]) (f2:=[16]) (f3:=[]) 60 zS 1
  (fun j:Nat=>Oi s j) (fun j=>[(0,E0 (j+1) s)]) (fun j=>j<=fl s) (fun j=>j=fl s) (fun j=>fl s-j) (fun _=>⟨⟨_,aad,?_⟩,fun j hj=>⟨_,acA (x:=(bZ s j).1) (y:=(bZ s j).2),?_⟩,fun j hj=>⟨_,T3,?_⟩⟩) K []
 ·simp only[af.all,aF]
  refine⟨⟨eG aX,ha,ta,hd,hz⟩,aa,⟨eG aX,Nat.lt_of_le_of_lt hfl aa,hd2⟩,0,Nat.zero_le _,[(0,20480)],rfl,by rw[hss];rfl,rfl,bX rfl rfl rfl (fun i hi=>?_) trivial⟩
  obtain rfl:i=0:=aa
  rw[hss];exact cA rfl rfl
 ·have h1:=hTr j
  have h3:=hB j hj
  have hb:bU (Int.natAbs (-1))=1:=by decide
  have hW:=dc
  have hX:=Fv
  simp only[af.all,aF,bI,bO]
  refine⟨fun h=>?_,fun h=>?_⟩
  ·have hy:(bZ s j).2.1≠0:=aa
   have hjl:j<fl s:=by
    rcases Nat.lt_or_ge j (fl s)with h|h
    ·exact h
    ·exact absurd (by rw[show j=fl s by omega];exact g2) hy
   have hr:(fe (bZ s j).1 (bZ s j).2).1<(bZ s j).2.1:=oG aa h1.2
   have ty:(bZ s j).2.2 ((bZ s j).2.1-1)≠0:=by rcases h1.2 with h|h;omega;exact h
   refine⟨⟨aa,aa⟩,⟨eG aX,eG aX,aa,aa,aa,h1.1,ty,(hs j hjl).1⟩,⟨aa,aa,eG aX,by rw[hb,Nat.max_self];omega,by show(fe (bZ s j).1 (bZ s j).2).1<_;omega,(hs j hjl).2⟩,j+1,hjl,by dsimp only;omega,[(0,24577)],rfl,rfl,rfl,bX rfl rfl rfl (fun i hi=>?_) trivial⟩
   by_cases hi2:i<j+1
   ·rw[if_pos hi2];exact cA rfl rfl
   ·rw[if_neg hi2,show i-(j+1)+0=0 by omega,show i=j+1 by omega];exact cA rfl rfl
  ·have hjl:j=fl s:=by
    rcases Nat.lt_or_ge j (fl s)with h'|h'
    ·have:=g3 j h';omega
    ·omega
   exact⟨rfl,j,hjl,[(0,0)],rfl,rfl,rfl,bX rfl rfl rfl (fun i hi=>cA rfl rfl) trivial⟩
 ·subst hj
  exact .refl _
abbrev sK:Nat:=4096
abbrev ls (k:Nat->Rat) (n:Nat):AV:=bS k n sK
abbrev ND (n:Nat) (k:Nat->Rat) (i:Nat):List AV:=[ls k n,.ptr 0 0 3 0 [],.int .i64 i,.int .i64 0,.int .i64 0]
theorem ads {a b:Rat}:gr a b>=0↔b<=a:=by
 have:=@AM a b
 constructor
 ·intro h
  have:¬a<b:=fun h'=>by have:=AM.2 h';omega
  grind
 ·intro h
  have:¬gr a b<0:=fun h'=>by have:=AM.1 h';grind
  omega
def Lp (n:Nat) (k:Nat->Rat) (t:Rat):Prop:=t<k 0\/k (n-1)<t
instance {n:Nat} {k:Nat->Rat} {t:Rat}:Decidable (Lp n k t):=inferInstanceAs (Decidable (t<k 0\/k (n-1)<t))
def Jk (k:Nat->Rat) (i:Nat) (t:Rat) (d j:Nat):Rat:=if j=0 then 0 else fr (k (i-d+(j-1))) (k (i-d+(j-1)+(d+1))) t*vB k i t d (j-1)
abbrev sB:Nat:=536870912
theorem abC:bC 56 f56:=bD func56
theorem adO:bC 113 f113:=bD func113
def yo (k:Nat->Rat) (t:Rat):Nat->Nat
 |0=>0
 |i+1=>yo k t i+if k i=t then 1 else 0
def St (k:Nat->Rat) (i:Nat):Prop:=i=0\/k i≠k (i-1)
instance {k:Nat->Rat} {i:Nat}:Decidable (St k i):=inferInstanceAs (Decidable (i=0\/k i≠k (i-1)))
def acr (n:Nat) (k:Nat->Rat) (p:Nat) (t:Rat):Prop:=((t=k 0\/t=k (n-1))/\yo k t n≠p+1)\/(¬(t=k 0\/t=k (n-1))/\p<yo k t n)
instance {n:Nat} {k:Nat->Rat} {p:Nat} {t:Rat}:Decidable (acr n k p t):=inferInstanceAs (Decidable (((t=k 0\/t=k (n-1))/\yo k t n≠p+1)\/(¬(t=k 0\/t=k (n-1))/\p<yo k t n)))
def loadT (o:Oper):Nat:=match o.op with
 |.load t _=>t
 |_=>0
def S3 (o:Oper):Nat:=match o.op with
 |.binOp _ t _ _ _=>t
 |_=>0
def aah (o:Oper):Array TypeId:=match o.op with
 |.call c=>c.argTypes
 |_=>#[]
def unT (o:Oper):Nat:=match o.op with
 |.unOp _ t _=>t
 |_=>0
def KK:Code->Code×Code
 |.block _ (.rangeFunc _ _ x y)=>(x,y)
 |_=>(.skip,.skip)
def jx (a:PP) (t:Rat):Prop:=∀m,m<=a.1->Sz (fT a.1 a.2 t m) ag
abbrev LW:FuncId:=127
abbrev zV:FuncId:=163
abbrev wv:Code:=aJ f163
def b7 (v:AV):PP:=match xe v with
 |some (n,f)=>(n,fun i=>aN (f i))
 |none=>(0,fun _=>0)
abbrev gB (n:Nat) (c:Nat->PP):AV:=.az 1 n fun i=>aO (c i)
def ry:Kind (Nat×(Nat->PP)):=⟨fun v=>match v with
 |.az 1 n f=>some ((n,fun i=>b7 (f i)),[∀i,i<n->bg (f i) (aO (b7 (f i)))])
 |_=>none,fun a=>gB a.1 a.2,fun {v a q} h hq=>by
  split at h
  ·simp only[aB,Prod.mk.injEq]at h
   obtain⟨rfl,rfl⟩:=h
   exact ko hq
  ·simp at h⟩
def sk:Spec:=eR (kC (kL ag) (kC (ic ag) kN)) (fun a=>.rat (cC a.1 a.2.1) ag) fun a=>[a.1.1<2^40,jx a.1 a.2.1]
def dR (c:Nat->PP) (t:Rat) (i:Nat):Int:=bR (cC (c i) t)
def Ax:bG:=zG::(66,sk)::gF
abbrev yb:Code:=aJ f122
abbrev xq:List Nat:=[3,5,6,10,11,12]
abbrev Ck (n:Nat) (c:Nat->PP) (l:Int) (m i:Nat):List AV:=[.ptr 0 0 3 0 [],.int .i64 l,.int .i64 m,gB n c,.int .i64 n,.int .i64 i]
def cJ (n:Nat) (c:Nat->PP) (t:Rat):Prop:=∀i,i<n->(c i).1<2^40/\jx (c i) t
def Mr:Spec:=eR (kC ry (kC (ic ag) kN)) (fun a=>.int .i64 ((cN (dR a.1.2 a.2.1) a.1.1).2:Nat)) fun a=>[a.1.1<2^40,cJ a.1.1 a.1.2 a.2.1]
def Kg:bG:=nG::(122,Mr)::(66,sk)::gF
def fR (n:Nat) (c:Nat->PP) (a b:Rat):Int:=if a>=b then 0 else((cN (dR c a) n).2:Int)-((cN (dR c b) n).2:Int)-(if cC (c 0) b=0 then 1 else 0)
theorem Ug:bC LW f127:=bD func127
theorem CS:bC zV f163:=bD func163
theorem LJ:bC 66 f66:=bD func66
theorem UH:bC 122 f122:=bD func122
theorem Zc:bC 60 f60:=bD func60
abbrev LD:Nat:=loadT (fj wv [0] 0)
abbrev Pv:Nat:=loadT (fj wv [1,0,0,1,0,0,0] 5)
abbrev ZT:Nat:=S3 (fj wv [0] 2)
theorem Si:JU wv LD Pv ZT:=⟨ah,⟨ah,ah,ah⟩,⟨ah,ah,ah⟩,⟨ah,ah,ah⟩,⟨ah,ah,ah⟩,⟨ah,ah,ah⟩,⟨ah,ah,ah⟩,⟨ah,ah,ah⟩,⟨ah,ah,ah⟩,⟨ah,ah,ah⟩,⟨ah,ah,ah⟩,⟨ah,ah,ah⟩,⟨ah,ah,ah⟩,
 ⟨aah (fj wv [1,0,0,1,0,0,0] 6),ah,ah,ah⟩,⟨unT (fj wv [1,0,0,1,0,0,0] 7),ah,ah,ah⟩,⟨ah,ah,ah⟩,⟨ah,ah,ah⟩,⟨ah,ah,ah⟩⟩
theorem afC {n s:Nat} {k:Nat->Rat} (hn:n<2^62):Bs P zV [.bW (bS k n s)] n (fun i=>.int .i64 ((n:Int)-1-i)) (fun i=>.rat (k (n-1-i)) s):=
 XV hT (tiS:=(look LD T).getD ⟨.bool,0,0,.nil⟩) (tiE:=(look Pv T).getD ⟨.bool,0,0,.nil⟩) ah ah ah ah CS.get CS.body ah ah Si (f:=fun i=>.rat (k i) s) hn ah fun i hi=>⟨rfl,rfl⟩
def yC:bG:=nG::(LW,GF T [sG] [] 20 f127)::gF
abbrev xg:List Nat:=[3,4,5,9]
abbrev F2 (a:PP):List AV:=[.ptr 0 0 3 0 [],.ptr 1 0 3 0 [],.ptr 2 0 3 0 [],.func zV [.bW (aO a)]]
abbrev tR (q:Rat) (s:Nat):aC:=⟨false,true,3,1,fun _=>.rat q s⟩
abbrev wT (t x:Rat):aG:=[(2,tR x ag),(1,tR 0 1),(0,tR t ag)]
abbrev F7:List Nat:=[3,4,5,9,7]
abbrev Lb (a:PP):List AV:=[.ptr 0 0 3 0 [],.ptr 1 0 3 0 [],.ptr 2 0 3 0 [],.func zV [.bW (aO a)],.ptr 3 0 3 0 []]
abbrev tU:Code:=aJ f66
abbrev HB:Code:=(KK (part tU [1,1,0,1])).1
abbrev Ju:Code:=(KK (part tU [1,1,0,1])).2
theorem adA {a:PP} {t:Rat}:aK T yC [] 60 xg (before tU [1,1,0,1]) ⟨bf 0 [aO a,.rat t ag],[],0⟩=
  let c1:aC:=iz fun x=>rat 0 1;some (leaf normal ([ptr 0 0 (dM (rat t ag)).size 0 [],ptr 4096 0 3 0 [],ptr 8192 0 3 0 [],func 163 [(az 3 a.fst fun i=>rat (a.snd i) ag).bW]],[((8192:Nat),c1),((4096:Nat),c1),(0,aC.mk false true (dM (rat t ag)).size 1 fun x=>rat t ag)])):=ah
theorem ac5 {a:PP} {t x v:Rat} {u:Int}:aK T yC [] 60 F7 [HB] ⟨aH (xg++[10,11]) (F2 a++[.int .i64 u,.rat v ag]),wT t x,3⟩=
  let c1:AV:=rat 0 1;some (aj [(0:Nat)<1] (leaf normal ([ptr 0 0 3 0 [],ptr 1 0 3 0 [],ptr 2 0 3 0 [],func 163 [(az 3 a.fst fun i=>rat (a.snd i) ag).bW],ptr 3 0 3 0 []],[((3:Nat),iz fun j=>if(j==0)=true then dM (rat v ag)else c1),((2:Nat),iz fun x_1=>rat x ag),((1:Nat),iz fun x=>c1),((0:Nat),iz fun x=>rat t ag)]))):=ah
theorem To {a:PP} {t x v:Rat}:aK T yC [] 60 xg [Ju] ⟨aH F7 (Lb a),(3,tR v ag)::wT t x,4⟩=
  let c2:Prop:=0<1;let c1:Nat:=2^42;some (aj [c2,c2,ag<c1,ag<c1,c2,ag+ag<c1,ag<c1,c2] (leaf normal ([ptr 0 0 3 0 [],ptr 1 0 3 0 [],ptr 2 0 3 0 [],func 163 [(az 3 a.fst fun i=>rat (a.snd i) ag).bW]],[((2:Nat),iz fun j=>if(j==0)=true then dM (B3 (x*t,ag+ag) (v,ag))else rat x ag),((1:Nat),iz fun x=>rat 0 1),((0:Nat),iz fun x=>rat t ag)]))):=ah
theorem adB {a:PP} {t x:Rat}:dJ T yC [] 60 f66 [part tU [1,1,1]] ⟨aH xg (F2 a),wT t x,3⟩=
  let c1:Prop:=0<1;some (aj [c1,c1] (aj [c1] (leaf ret [rat x ag]))):=ah
theorem Zq {n:Nat} {c:Nat->PP} {t:Rat}:aK T Ax [] 60 xq (before yb [1,1,0,1]) ⟨bf 0 [gB n c,.rat t ag],[],0⟩=
  let c1:AV:=int i64 0;some (leaf normal ([ptr 0 0 (dM (rat t ag)).size 0 [],c1,c1,az 1 n fun i=>az 3 (c i).fst fun i_1=>rat ((c i).snd i_1) ag,int i64 (↑n:Int),c1],[(0,aC.mk false true (dM (rat t ag)).size 1 fun x=>rat t ag)])):=ah
theorem Vc {n m i:Nat} {c:Nat->PP} {l:Int} {t:Rat}:aK T Ax [13,23,27] 60 xq [part yb [1,1,0,1,0,0]] ⟨aH xq (Ck n c l m i),[(0,tR t ag)],1⟩=
  let c14:Int:=(↑n:Int);let c11:AV:=int i64 (↑m:Int);let c9:Int:=(↑m:Int)+1;let c8:AV:=az 1 n fun i=>az 3 (c i).fst fun i_1=>rat ((c i).snd i_1) ag;let c7:Int:=(2:Int)^63;let c6:Int:=(↑i:Int);let c5:AV:=ptr 0 0 3 0 [];let c3:List (Nat×aC):=[((0:Nat),iz fun x=>rat t ag)];let c13:Int:=c6+1;let c12:PP:=c c6.toNat;let c10:Nat×(Nat->Rat):=(c12.fst,fun i=>aN (rat (c12.snd i) ag));let c4:List Prop:=[-c7<=c13/\c13<c7];let c2:List AV:=[c8,int i64 c14,int i64 c13];let c1:Int:=bR (cC c10 t);some (fork (decide (c6<c14)) (aj [(0:Int)<=c6/\c6.toNat<n] (aj [(0:Nat)<1,cX (fun i=>rat (c12.snd i) ag) c12.fst ag,ag<=ag,c12.fst<2^40,jx c10 t,ag<2^42] (aj [-c7<=c1*l/\c1*l<c7] (fork (decide (c1*l<0)) (aj [-c7<=c9/\c9<c7] (fork (c1 !=(0:Int)) (aj c4 (leaf normal (c5::int i64 c1::int i64 c9::c2,c3))) (aj c4 (leaf normal (c5::int i64 l::int i64 c9::c2,c3))))) (fork (c1 !=(0:Int)) (aj c4 (leaf normal (c5::int i64 c1::c11::c2,c3))) (aj c4 (leaf normal (c5::int i64 l::c11::c2,c3)))))))) (leaf (exit 0) ([c5,int i64 l,c11,c8,int i64 c14,int i64 c6],c3))):=ah
theorem Re {n m i:Nat} {c:Nat->PP} {l:Int} {t:Rat}:dJ T Ax [] 60 f122 [part yb [1,1,1]] ⟨aH xq (Ck n c l m i),[(0,tR t ag)],1⟩=
  some (leaf ret [int i64 (↑m:Int)]):=ah
theorem YN {n:Nat} {c:Nat->PP} {x y:Rat}:cy T Kg [11,25] 60 f60 (aJ f60) ⟨bf 0 [gB n c,.rat x ag,.rat y ag],[],0⟩=
  let c6:Nat:=2^40;let c5:Prop:=ag<2^42;let c4:Int:=(2:Int)^63;let c3:Prop:=0<1;let c2:PP:=c (Int.toNat (0:Int));let c1:Int:=(↑(cN (dR (fun i=>b7 (aO (c i))) x) n).snd:Int)-(↑(cN (dR (fun i=>b7 (aO (c i))) y) n).snd:Int);let c8:Int:=c1-1;let c7:Nat×(Nat->Rat):=(c2.fst,fun i=>aN (rat (c2.snd i) ag));some (aj [c3,c3,c5,c5] (fork (decide (gr x y>=0)) (leaf ret [int i64 0]) (aj [c3,∀(i:Nat),i<n->bg (aO (c i)) (aO (b7 (aO (c i)))),ag<=ag,n<c6,cJ n (fun i=>b7 (aO (c i))) x,c3,∀(i:Nat),i<n->bg (aO (c i)) (aO (b7 (aO (c i)))),ag<=ag,n<c6,cJ n (fun i=>b7 (aO (c i))) y,-c4<=c1/\c1<c4] (aj [(0:Int)<=0/\Int.toNat (0:Int)<n,c3,cX (fun i=>rat (c2.snd i) ag) c2.fst ag,ag<=ag,c2.fst<c6,jx c7 y,c5] (fork (bR (cC c7 y)==0) (aj [-c4<=c8/\c8<c4] (leaf ret [int i64 c8])) (leaf ret [int i64 c1])))))):=ah
theorem KV:cm P yC:=jh (aM (NH hT (B7 cK) hm Ug _ _) gU)
theorem SN {a:PP} {t:Rat} (hn:a.1<2^40) (hz:jx a t) (K:Nat):aY P 66 K [aO a,.rat t ag] [] (aT (.rat (cC a t) ag) []):=by
 have hW:=dc
 refine acv (r:=aT (.rat (cC a t) ag) []) hT LJ rfl br rfl (fun _ cx hro hk=>?_) K []
 refine aA.Tc hT KV hm (x:=tU) (assign:=HB) (body:=Ju) (g:=9) (p0:=10) (p1:=11) [1,1,0,1] (i:=0) ah ah LJ.dst hro hk CS.enters (afC (s:=ag) (k:=a.2) (n:=a.1) aa) br br (by decide) (f1:=[]) (f2:=[]) (f3:=[])
  60 xg F7 (F2 a) (fun _=>rfl) rfl (fun i=>wT t (fT a.1 a.2 t i)) 3 4 (fun _=>Lb a) (fun i=>(3,tR (a.2 (a.1-1-i)) ag)::wT t (fT a.1 a.2 t i)) [0,1,2] ⟨_,adA,?_⟩ (fun i hi=>⟨_,ac5,?_⟩) (fun i hi=>⟨_,To,?_⟩) ?_
 ·simp only[af.all,aF]
  exact⟨trivial,[(0,0),(1,4096),(2,8192)],rfl,rfl,rfl,kW rfl rfl (.inr ⟨rfl,fh rfl aa⟩) (fq (fq trivial))⟩
 ·simp only[af.all,aF]
  exact⟨aa,trivial,[(0,0),(1,1),(2,2),(3,3)],rfl,rfl,rfl,fq (fq (fq (fq trivial)))⟩
 ·simp only[af.all,aF]
  exact⟨aa,trivial,[(0,0),(1,1),(2,2)],rfl,rfl,rfl,kW rfl rfl (.inr ⟨rfl,fO rfl (hz (i+1) hi)⟩) (fq (fq trivial))⟩
 ·rw[show behind tU [1,1,0,1]=[part tU [1,1,1]]from by kernel_rfl]
  exact(aI.fin hT KV hm 60 adB ah (by simp only[af.all,aF];exact⟨aa,aa,.refl _⟩)).mono fun _ _ h=>.inl h
theorem vX:bF P sk 66:=fk fun⟨a,t,_⟩ K hn=>SN hn.1 hn.2 K
theorem Zj (q:Rat):-1<=bR q/\bR q<=1:=by unfold bR;split<;>(try split)<;>omega
theorem AT {s:Nat->Int} (h:∀i,-1<=s i/\s i<=1):∀i,(-1<=(cN s i).1/\(cN s i).1<=1)/\(cN s i).2<=i
 |0=>⟨⟨show(-1:Int)<=0 by decide,show(0:Int)<=1 by decide⟩,aX⟩
 |i+1=>by
  have ih:=AT h i
  have hi:=h i
  refine⟨?_,?_⟩
  ·show-1<=(if s i=0 then(cN s i).1 else s i)/\(if s i=0 then(cN s i).1 else s i)<=1
   split
   ·exact ih.1
   ·exact hi
  ·show(if s i*(cN s i).1<0 then(cN s i).2+1 else(cN s i).2)<=i+1
   split<;>omega
theorem AO {c:Nat->PP} {t:Rat} (i:Nat):-1<=dR c t i/\dR c t i<=1:=Zj _
theorem Sd {a b:Int} (ha:-1<=a/\a<=1) (hb:-1<=b/\b<=1):-1<=a*b/\a*b<=1:=by
 rcases(show a=-1\/a=0\/a=1 by omega)with rfl|rfl|rfl<;>omega
theorem Y6:cm P Ax:=jD (aM vX gU)
theorem ab1 {n:Nat} {c:Nat->PP} {t:Rat} (hn:n<2^40) (hz:cJ n c t) (K:Nat):aY P 122 K [gB n c,.rat t ag] [] (aT (.int .i64 ((cN (dR c t) n).2:Nat)) []):=by
 have hW:=dc
 refine pX (r:=aT (.int .i64 ((cN (dR c t) n).2:Nat)) []) hT Y6 hm UH rfl br rfl [1,1,0,1] (i:=0) (y:=part yb [1,1,0,1,0,0]) (z:=part yb [1,1,1]) ah ah ah (f1:=[]) (f2:=[13,23,27]) (f3:=[]) 60 xq 1
  (fun i:Nat=>Ck n c (cN (dR c t) i).1 (cN (dR c t) i).2 i) (fun _=>[(0,tR t ag)]) (fun i=>i<=n) (fun i=>i=n) (fun i=>n-i) (fun _=>⟨⟨_,Zq,?_⟩,fun i hi=>⟨_,Vc,?_⟩,fun i hi=>⟨_,Re,?_⟩⟩) K []
 ·simp only[af.all,aF]
  exact⟨0,Nat.zero_le _,[(0,0)],rfl,rfl,rfl,fq trivial⟩
 ·obtain⟨h1,h2⟩:=AT (s:=dR c t) AO i
  have h3:=AO (c:=c) (t:=t) i
  have h4:=Sd h3 h1
  have e1:bR (cC (c i) t)=dR c t i:=rfl
  have e2:(cN (dR c t) (i+1)).1=if dR c t i=0 then(cN (dR c t) i).1 else dR c t i:=rfl
  have e3:(cN (dR c t) (i+1)).2=if dR c t i*(cN (dR c t) i).1<0 then(cN (dR c t) i).2+1 else(cN (dR c t) i).2:=rfl
  simp only[af.all,aF,bI,bO,bJ,bne_iff_ne,ne_eq,bne_eq_false_iff_eq]
  show((i:Int)<n->_/\(_/\cX _ _ _/\_/\_/\jx (c i) t/\_)/\(-2^63<=dR c t i*_/\dR c t i*_<2^63)/\(dR c t i*_<0->_/\(¬dR c t i=0->_)/\(dR c t i=0->_))/\(¬dR c t i*_<0->(¬dR c t i=0->_)/\(dR c t i=0->_)))/\_
  have re:∀{l:Int} {m:Int},l=(cN (dR c t) (i+1)).1->m=((cN (dR c t) (i+1)).2:Nat)->fm [] ([.ptr 0 0 3 0 [],.int .i64 l,.int .i64 m,gB n c,.int .i64 n,.int .i64 ((i:Int)+1)],[((0:Nat),tR t ag)]) (Ck n c (cN (dR c t) (i+1)).1 (cN (dR c t) (i+1)).2 (i+1)) [(0,tR t ag)] 1:=fun {l m} hl hm=>by
   subst hl hm
   exact⟨[(0,0)],rfl,by rw[show(i:Int)+1=((i+1:Nat):Int) by omega];rfl,rfl,fq trivial⟩
  refine⟨fun h=>⟨aa,⟨aa,eG aX,aX,(hz i aa).1,(hz i aa).2,aa⟩,aa,fun h5=>⟨aa,fun h6=>⟨aa,i+1,aa,by dsimp only;omega,re (by rw[e2,if_neg h6];rfl) (by rw[e3,if_pos h5];omega)⟩,fun h6=>⟨aa,i+1,aa,by dsimp only;omega,re (by rw[e2,if_pos h6]) (by rw[e3,if_pos h5];omega)⟩⟩,
   fun h5=>⟨fun h6=>⟨aa,i+1,aa,by dsimp only;omega,re (by rw[e2,if_neg h6];rfl) (by rw[e3,if_neg h5])⟩,fun h6=>⟨aa,i+1,aa,by dsimp only;omega,re (by rw[e2,if_pos h6]) (by rw[e3,if_neg h5])⟩⟩⟩,fun h=>⟨rfl,i,aa,[(0,0)],rfl,rfl,rfl,fq trivial⟩⟩
 ·subst hi;exact .refl _
theorem XW:bF P Mr 122:=fk fun⟨⟨n,c⟩,t,_⟩ K hn=>ab1 hn.1 hn.2 K
theorem Rb:cm P Kg:=jh (aM XW (aM vX gU))
theorem RL {n:Nat} {c:Nat->PP} {x y:Rat} (h0:0<n) (hn:n<2^40) (hx:cJ n c x) (hy:cJ n c y) (K:Nat):aY P 60 K [gB n c,.rat x ag,.rat y ag] [] (aT (.int .i64 (fR n c x y)) []):=by
 have hW:=dc
 refine cB hT Rb hm Zc rfl br rfl 60 YN (fun _=>?_) K []
 have hbx:=(AT (s:=dR c x) AO n).2
 have hby:=(AT (s:=dR c y) AO n).2
 simp only[af.all,aF,ads,bI,bO,xo]
 show _/\(x>=y->_)/\(¬x>=y->(_/\(∀i,i<n->bg (aO (c i)) (aO (c i)))/\_/\_/\cJ n c x/\_/\_/\_/\_/\cJ n c y/\(-2^63<=((cN (dR c x) n).2:Int)-((cN (dR c y) n).2:Int)/\((cN (dR c x) n).2:Int)-((cN (dR c y) n).2:Int)<2^63))/\(_/\_/\_/\_/\_/\jx (c 0) y/\_)/\(cC (c 0) y=0->_)/\(¬cC (c 0) y=0->_))
 refine⟨aa,fun h=>?_,fun h=>⟨⟨aa,fun i _=>.refl _,aX,hn,hx,aa,fun i _=>.refl _,aX,hn,hy,aa⟩,⟨aa,aa,eG aX,aX,(hy 0 h0).1,(hy 0 h0).2,aa⟩,fun h2=>⟨?_,?_⟩,fun h2=>?_⟩⟩
 ·exact cu (if_pos h).symm
 ·show-2^63<=((cN (dR c x) n).2:Int)-((cN (dR c y) n).2:Int)-1/\((cN (dR c x) n).2:Int)-((cN (dR c y) n).2:Int)-1<2^63
  omega
 ·exact cu (by unfold fR;rw[if_neg h,if_pos h2];rfl)
 ·exact cu (by unfold fR;rw[if_neg h,if_neg h2,Int.sub_zero];rfl)
def sX:Spec:=eR (kC ry (kC (ic ag) (kC (ic ag) kN))) (fun a=>.int .i64 (fR a.1.1 a.1.2 a.2.1 a.2.2.1)) fun a=>[0<a.1.1,a.1.1<2^40,cJ a.1.1 a.1.2 a.2.1,cJ a.1.1 a.1.2 a.2.2.1]
theorem u6:bF P sX 60:=fk fun⟨⟨n,c⟩,x,y,_⟩ K hn=>RL hn.1 hn.2.1 hn.2.2.1 hn.2.2.2 K
def ak (p:PP):PP:=(cr (gI p.1 p.2) p.1,gI p.1 p.2)
def Q3 (a:PP):PP:=(GY a.1,Ot a.1 a.2)
def iU (p:PP):Prop:=1<=p.1/\p.1<=41/\yK p.1 p.2
def Q8 (a:PP):Prop:=a.1<=41/\mT a.1 a.2
abbrev aR (a:PP):Prop:=cX (fun i=>.rat (a.2 i) ag) a.1 ag
def xd:Spec:=eR (kC (kL ag) kN) (fun a=>aO (ak a.1)) fun a=>[iU a.1]
def Ok:Spec:=eR (kC (kL ag) kN) (fun a=>aO (Q3 a.1)) fun a=>[Q8 a.1]
def Ln:Spec:=eR (kC (kL ag) (kC (kL ag) kN)) (fun a=>.tuple [aO (gJ a.1 a.2.1),aO (fe a.1 a.2.1)]) fun a=>[a.1.1<2^30,1<=a.2.1.1,a.2.1.1<2^30,Trim a.1,Trim a.2.1,s7 a.1 a.2.1]
def BK (a:PP):Prop:=a.1<2^30/\Trim a/\dy (a.1-1) (dF a.2)/\zR a
def jK (a:PP):Prop:=BK a/\dy ((aW a).1-1) (dF (aW a).2)/\x6 (ek a)
def LO:Spec:=eR (kC (kL ag) kN) (fun a=>aO (aW a.1)) fun a=>[BK a.1]
def aS (a:PP) (i:Nat):PP:=(bZ (ek a) i).1
def aV (a:PP):Nat:=fl (ek a)+1
def wJ:Spec:=eR (kC (kL ag) kN) (fun a=>gB (aV a.1) (aS a.1)) fun a=>[jK a.1]
def Pq:bG:=zG::(57,xd)::(88,Ln)::(81,Ok)::(80,LO)::(72,zq)::(59,wJ)::(60,sX)::gF
def pS (p:PP) (a b:Rat):Int:=if(ak p).1=0 then 3 else if a>b then 7 else 0
def vP (p:PP) (a b:Rat):Int:=if pS p a b=0 then fR (aV (ak p)) (aS (ak p)) a b else 0
theorem abl:bC 16 f16:=bD func16
theorem Yz {p:PP} {a b:Rat}:cy T Pq [11,15] 60 f16 (aJ f16) ⟨bf 0 [aO p,.rat a ag,.rat b ag],[],0⟩=
  some (aj [aR p,iU p] (fork (((ak p).1:Int)==0) (leaf ret [int i64 0,int i64 3]) (aj [(0:Nat)<1,(0:Nat)<1,ag<2^42,ag<2^42] (fork (decide (gr a b>0)) (leaf ret [int i64 0,int i64 7]) (aj [aR (ak p),jK (ak p),(0:Nat)<1,(0:Nat)<1,∀i,i<aV (ak p)->bg (aO (aS (ak p) i)) (aO (aS (ak p) i)),ag<=ag,ag<=ag,0<aV (ak p),aV (ak p)<2^40,cJ (aV (ak p)) (aS (ak p)) a,cJ (aV (ak p)) (aS (ak p)) b] (leaf ret [int i64 (fR (aV (ak p)) (aS (ak p)) a b),int i64 0])))))):=ah
theorem AN:bF P xd 57:=fk fun⟨a,_⟩ K hn=>XL hn.1 hn.2.1 hn.2.2 K
theorem WH:bF P Ok 81:=fk fun⟨a,_⟩ K hn=>TJ hn.1 hn.2 K
theorem abt:bF P Ln 88:=fk fun⟨⟨n,a⟩,⟨m,d⟩,_⟩ K hn=>by
 obtain⟨h1,h2,h3,h4,h5,h6⟩:=hn
 simp only at h1 h2 h3
 obtain⟨e,rfl⟩:∃e,m=e+1:=⟨m-1,aa⟩
 have hd:d e≠0:=h5.resolve_left (Nat.succ_ne_zero e)
 cases n with
 |zero=>exact OR aa K
 |succ n=>exact JT h1 aa (h4.resolve_left (Nat.succ_ne_zero n)) hd h6 K
theorem acI:bF P LO 80:=fk fun⟨a,_⟩ K hn=>JW hn.1 hn.2.1 hn.2.2.1 hn.2.2.2 K
theorem Bw:bF P wJ 59:=fk fun⟨a,_⟩ K hn=>UB hn.1.1 hn.1.2.1 hn.1.2.2.1 hn.1.2.2.2 hn.2.1 hn.2.2 K
theorem aa4:cm P Pq:=jD (aM AN (aM abt (aM WH (aM acI (aM As (aM Bw (aM u6 gU)))))))
theorem mG {a:PP}:aR a:=eG aX
def Cn (p:PP) (a b:Rat):Prop:=iU p/\((ak p).1≠0->jK (ak p)/\aV (ak p)<2^40/\cJ (aV (ak p)) (aS (ak p)) a/\cJ (aV (ak p)) (aS (ak p)) b)
theorem Sn {p:PP} {a b:Rat} (hz:Cn p a b) (K:Nat):aY P 16 K [aO p,.rat a ag,.rat b ag] [] (aT (.tuple [.int .i64 (vP p a b),.int .i64 (pS p a b)]) []):=by
 obtain⟨hp,hz⟩:=hz
 have hW:=dc
 refine cB hT aa4 hm abl rfl br rfl 60 Yz (fun _=>?_) K []
 have hgt:∀{x y:Rat},gr x y>0↔x>y:=OC
 simp only[af.all,aF,beq_iff_eq,beq_eq_false_iff_ne,bI,bO,hgt]
 refine⟨⟨mG,hp⟩,fun h=>?_,fun h=>⟨aa,fun h2=>?_,fun h2=>?_⟩⟩
 ·have h0:(ak p).1=0:=aa
  have e1:pS p a b=3:=if_pos h0
  exact⟨cu (by unfold vP;rw[e1];rfl),cu e1.symm,trivial⟩
 ·have h0:¬(ak p).1=0:=aa
  have e1:pS p a b=7:=by unfold pS;rw[if_neg h0,if_pos h2]
  exact⟨cu (by unfold vP;rw[e1];rfl),cu e1.symm,trivial⟩
 ·have h0:¬(ak p).1=0:=aa
  have e1:pS p a b=0:=by unfold pS;rw[if_neg h0,if_neg h2]
  obtain⟨z1,z2,z3,z4⟩:=hz h0
  exact⟨⟨mG,z1,aa,aa,fun i _=>.refl _,aX,aX,Nat.succ_pos _,z2,z3,z4⟩,cu (by unfold vP;rw[if_pos e1]),cu e1.symm,trivial⟩
def AQ:bG:=zG::(46,Ay)::qR
abbrev xS:Code:=aJ f91
abbrev zy:List Nat:=[0,1,4,5,6]
abbrev EN (n k i:Nat):List AV:=[.int .i64 n,.int .i64 k,.ptr 0 0 3 0 [],.ptr 1 0 3 0 [],.int .i64 i]
abbrev C4 (x:Rat):aG:=[(1,tR x 64),(0,tR 0 1)]
def F3:Spec:=cw fun l=>match l with
 |[.int .i64 n,.int .i64 k]=>some (aT (.rat ((bn n.toNat k.toNat:Int):Rat) 64) [0<=k,k<=n,n<=40])
 |_=>none
theorem RC:bC 91 f91:=bD func91
theorem Yl {n k:Nat}:aK T AQ [] 60 zy (before xS [1,1,0,1]) ⟨bf 0 [.int .i64 n,.int .i64 k],[],0⟩=
  let c1:AV:=rat 0 1;some (aj [-(2:Int)^63<=(1:Int),(1:Int)<2^63,(0:Nat)<1] (leaf normal ([int i64 (↑n:Int),int i64 (↑k:Int),ptr 0 0 3 0 [],ptr 8192 0 3 0 [],int i64 0],[((8192:Nat),iz fun j=>if(j==0)=true then dM (rat (↑(1:Int):Rat) (Max.max 1 (bU (Int.natAbs (1:Int)))))else c1),((0:Nat),iz fun x=>c1)]))):=ah
theorem aeJ {n k i:Nat} {x:Rat}:aK T AQ [10] 60 zy [part xS [1,1,0,1,0,0]] ⟨aH zy (EN n k i),C4 x,2⟩=
  let c9:Int:=(↑k:Int);let c8:Int:=(↑i:Int);let c7:Prop:=64<2^41;let c6:AV:=ptr 1 0 3 0 [];let c5:AV:=ptr 0 0 3 0 [];let c4:Nat×aC:=((0:Nat),iz fun x=>rat 0 1);let c1:Int:=(2:Int)^63;let c3:Int:=(↑n:Int)-c8;let c2:Int:=c8+1;some (fork (decide (c8<c9)) (aj [(0:Nat)<1,-c1<=c3/\c3<c1,-c1<=c2/\c2<c1,-c1<=c3,c3<c1,-c1<=c2,c2<c1,c7,c7,(0:Nat)<1] (aj [-c1<=c2/\c2<c1] (leaf normal ([int i64 (↑n:Int),int i64 c9,c5,c6,int i64 c2],[((1:Nat),iz fun j=>if(j==0)=true then dM (DI (x,(64:Nat)) ((↑c3:Rat)/(↑c2:Rat),(64:Nat)))else rat x 64),c4])))) (leaf (exit 0) ([int i64 (↑n:Int),int i64 c9,c5,c6,int i64 c8],[((1:Nat),iz fun x_1=>rat x 64),c4]))):=ah
theorem WE {n k i:Nat} {x:Rat}:dJ T AQ [] 60 f91 [part xS [1,1,1]] ⟨aH zy (EN n k i),C4 x,2⟩=
  let c1:Prop:=0<1;some (aj [c1,c1] (aj [c1] (leaf ret [rat x 64]))):=ah
theorem TL:cm P AQ:=jD (aM Ff tu)
theorem Yr {n i:Nat} (h:i<n):((bn n i:Int):Rat)*((((n:Int)-(i:Int):Int):Rat)/(((i:Int)+1:Int):Rat))=((bn n (i+1):Int):Rat):=by
 have h1:=Ad n i
 have h2:(((i:Int)+1:Int):Rat)≠0:=by
  intro h0
  have:((i:Int)+1:Int)=0:=by exact_mod_cast h0
  omega
 have h3:((bn n (i+1):Int):Rat)*(((i:Int)+1:Int):Rat)=((bn n i:Int):Rat)*(((n:Int)-(i:Int):Int):Rat):=by
  rw[<-Rat.intCast_mul,<-Rat.intCast_mul]
  congr 1
  have:((bn n (i+1)*(i+1):Nat):Int)=((bn n i*(n-i):Nat):Int):=by rw[Nat.mul_comm,h1,Nat.mul_comm]
  rw[Int.natCast_mul,Int.natCast_mul,Int.natCast_sub aa]at this
  exact this
 rw[Rat.div_def,<-Rat.mul_assoc,<-h3,Rat.mul_assoc,Rat.mul_inv_cancel _ h2,Rat.mul_one]
theorem ada {n k:Nat} (hk0:k<=n) (hn:n<=40) (K:Nat):aY P 91 K [.int .i64 n,.int .i64 k] [] (aT (.rat ((bn n k:Int):Rat) 64) []):=by
 refine pX (r:=aT (.rat ((bn n k:Int):Rat) 64) []) hT TL hm RC rfl br rfl [1,1,0,1] (i:=0) (y:=part xS [1,1,0,1,0,0]) (z:=part xS [1,1,1]) ah ah ah (f1:=[]) (f2:=[10]) (f3:=[]) 60 zy 2
  (fun i:Nat=>EN n k i) (fun i=>C4 ((bn n i:Int):Rat)) (fun i=>i<=k) (fun i=>i=k) (fun i=>k-i) (fun _=>⟨⟨_,Yl,?_⟩,fun i hi=>⟨_,aeJ,?_⟩,fun i hi=>⟨_,WE,?_⟩⟩) K []
 ·simp only[af.all,aF]
  exact⟨⟨aa,aa,aa⟩,0,Nat.zero_le _,[(0,0),(1,8192)],rfl,rfl,rfl,kW rfl rfl (.inr ⟨rfl,fh (by rw[rq];rfl) (by decide)⟩) (fq trivial)⟩
 ·have h1:=Af (n:=n) (k:=i+1) hn
  simp only[af.all,aF,bI,bO]
  refine⟨fun h=>⟨⟨aa,aa,aa,aa,aa,aa,aa,aa,aa,aa⟩,aa,i+1,aa,by dsimp only;omega,[(0,0),(1,1)],rfl,by rw[show(i:Int)+1=((i+1:Nat):Int) by omega];rfl,rfl,kW rfl rfl (.inr ⟨rfl,fO (Yr aa) (Ek (y:=0) aa aa)⟩) (fq trivial)⟩,fun h=>⟨rfl,i,aa,[(0,0),(1,1)],rfl,rfl,rfl,fq (fq trivial)⟩⟩
 ·subst hi
  simp only[af.all,aF]
  exact⟨⟨aa,aa⟩,aa,.refl _⟩
theorem LQ:bF P F3 91:=by
 refine cY fun K args r hk hs _=>?_
 split at hs
 ·rename_i n k
  simp only[aB]at hs
  subst hs
  intro hn
  have h1:0<=k:=hn.1
  have h2:k<=n:=hn.2.1
  have h3:n<=40:=hn.2.2
  have:=ada (n:=n.toNat) (k:=k.toNat) aa aa K
  rw[Int.toNat_of_nonneg h1,Int.toNat_of_nonneg aa]at this
  exact this trivial
 ·simp at hs
def uf:bG:=zG::(91,F3)::(93,jV kR kR NS qq)::qR
abbrev wZ:Code:=aJ f96
abbrev wQ:Code:=part wZ [1,1,1,1,0,1,0,0]
abbrev xU:Code:=part wQ [1,0,0]
abbrev sS:List Nat:=[0,4,5,6]
abbrev Cd (m:Nat) (c:Nat->Rat) (i:Nat):List AV:=[bS c (m+1) ag,.int .i64 m,.own 0 3 0 i,.int .i64 i]
abbrev wF:List Nat:=[0,4,5,6,7,8]
abbrev Gb (m:Nat) (c:Nat->Rat) (i k:Nat):List AV:=[bS c (m+1) ag,.int .i64 m,.own 0 3 0 i,.int .i64 i,.ptr 1 0 3 0 [],.int .i64 k]
def I3:Spec:=eR (kC (kL ag) kN) (fun a=>.tuple [bS (jd a.1.1 a.1.2) a.1.1 ag,.int .i64 0]) fun a=>[1<=a.1.1,a.1.1<=41,mT a.1.1 a.1.2]
theorem Oj:bC 96 f96:=bD func96
theorem adC {m:Nat} {c:Nat->Rat}:aK T uf [200014,200017] 60 sS (before wZ [1,1,1,1,0,1]) ⟨bf 0 [bS c (m+1) ag],[],0⟩=
  let c1:Int:=(↑(m+1):Int)-1;some (aj [-(2:Int)^63<=c1/\c1<2^63] (aj [decide (c1<0)=false] (aj [(bif false then true else decide (c1>40))=false] (leaf normal ([az 3 (m+1) fun i=>rat (c i) ag,int i64 c1,nil,int i64 0],[]))))):=ah
theorem W9 {m i:Nat} {c x:Nat->Rat}:aK T uf [20] 60 sS (before wQ [1,0]) ⟨aH sS (Cd m c i),[(0,dL i x ag)],1⟩=
  let c1:List AV×aG:=([az 3 (m+1) fun i=>rat (c i) ag,int i64 (↑m:Int),own 0 3 0 i,int i64 (↑i:Int)],[(0,aC.mk true true 3 i fun i=>rat (x i) ag)]);some (fork (decide ((↑i:Int)<=(↑m:Int))) (leaf normal c1) (leaf (exit 0) c1)):=ah
theorem YC {m i:Nat} {c x:Nat->Rat}:aK T uf [] 60 wF (before xU [1,0,1]) ⟨aH sS (Cd m c i),[(0,dL i x ag)],1⟩=
  some (leaf normal ([az 3 (m+1) fun i=>rat (c i) ag,int i64 (↑m:Int),own 0 3 0 i,int i64 (↑i:Int),ptr 1 0 3 0 [],int i64 0],[((1:Nat),iz fun x=>rat 0 1),(0,aC.mk true true 3 i fun i=>rat (x i) ag)])):=ah
theorem S4 {m i k:Nat} {c x:Nat->Rat} {q:Rat}:aK T uf [25] 60 wF [part xU [1,0,1,0,0]] ⟨aH wF (Gb m c i k),[(1,tR q ag),(0,dL i x ag)],2⟩=
  let c9:Int:=(↑m:Int);let c8:AV:=own 0 3 0 i;let c7:Nat:=64+64;let c6:Int:=(↑i:Int);let c5:AV:=ptr 1 0 3 0 [];let c4:AV:=az 3 (m+1) fun i=>rat (c i) ag;let c3:Nat×aC:=(0,aC.mk true true 3 i fun i=>rat (x i) ag);let c2:Nat:=2^41;let c1:Int:=(↑k:Int);let c11:Prop:=(0:Int)<=c1;let c10:Int:=c1+1;some (fork (decide (c1<=c6)) (aj [(0:Nat)<1,c11,c1<=c6,c6<=40,c11,c1<=c9,c9<=40,(64:Nat)<c2,(64:Nat)<c2,c11/\c1.toNat<m+1,c7<c2,ag<c2,ag<c2,c7+ag<c2,(0:Nat)<1] (aj [-(2:Int)^63<=c10/\c10<2^63] (leaf normal ([c4,int i64 c9,c8,int i64 c6,c5,int i64 c10],[((1:Nat),iz fun j=>if(j==0)=true then dM (B3 (q,ag) ((↑(↑(bn c6.toNat c1.toNat):Int):Rat)/(↑(↑(bn c9.toNat c1.toNat):Int):Rat)*c c1.toNat,c7+ag))else rat q ag),c3])))) (leaf (exit 2) ([c4,int i64 c9,c8,int i64 c6,c5,int i64 c1],[((1:Nat),iz fun x=>rat q ag),c3]))):=ah
theorem Ro {m i k:Nat} {c x:Nat->Rat} {q:Rat}:aK T uf [] 60 sS (behind xU [1,0,1]++[part wQ [1,1]]) ⟨aH wF (Gb m c i k),[(1,tR q ag),(0,dL i x ag)],2⟩=
  let c1:Int:=(↑i:Int)+1;some (aj [(0:Nat)<1,(1:Nat)*3<=2^24,(i+1)*((56:Nat)+1)*2<=2^47] (aj [-(2:Int)^63<=c1/\c1<2^63] (leaf normal ([az 3 (m+1) fun i=>rat (c i) ag,int i64 (↑m:Int),own 12290 3 0 (i+1),int i64 c1],[(12290,aC.mk true true 3 (i+1) fun i_1=>if i_1<i then rat (x i_1) ag else nth [rat q ag] (rat 0 1) (i_1-i+0))])))):=ah
theorem XT {m i:Nat} {c x:Nat->Rat}:dJ T uf [] 60 f96 [part wZ [1,1,1,1,1]] ⟨aH sS (Cd m c i),[(0,dL i x ag)],1⟩=
  some (leaf ret [az 3 i fun i=>rat (x (i+0)) ag,int i64 0]):=ah
theorem JK:cm P uf:=jD (aM LQ (aM (kS fun _ _ K hn=>I0 hn.1 hn.2 K) tu))
theorem aem {m:Nat} {c:Nat->Rat} (hm1:m<=40) (hz:mT (m+1) c) (K:Nat):aY P 96 K [bS c (m+1) ag] [] (aT (.tuple [bS (jd (m+1) c) (m+1) ag,.int .i64 0]) []):=by
 refine ja (r:=aT (.tuple [bS (jd (m+1) c) (m+1) ag,.int .i64 0]) []) hT Oj rfl br rfl (fun _ cx h0=>?_) K []
 have hk:=oD h0
 have hW:=dc
 refine aA.uS hT JK hm (x:=wZ) [1,1,1,1,0,1] (i:=0) (y:=wQ) (z:=part wZ [1,1,1,1,1]) ah ah ah Oj.dst [1,0] (j:=1) (x1:=xU) (zb:=part wQ [1,1]) ah ah ah [1,0,1] (i2:=2) (y2:=part xU [1,0,1,0,0]) ah ah rfl hk
  (f1:=[200014,200017]) (f2:=[20]) (f3:=[]) (f4:=[25]) (f5:=[]) 60 sS wF 1 2 (fun i:Nat=>Cd m c i) (fun i=>[(0,dL i (jd (m+1) c) ag)]) (fun i=>i<=m+1) (fun i=>i=m+1) (fun i=>m+1-i) (fun i=>i<m+1) (fun _=>False) (fun _=>False)
  (fun i (k:Nat)=>Gb m c i k) (fun i k=>[(1,tR (lC (m+1) c i k) ag),(0,dL i (jd (m+1) c) ag)]) (fun i k=>k<=i+1) (fun i k=>k=i+1) (fun i k=>i+1-k)
  ⟨_,adC,?_⟩ (fun i hi=>⟨_,W9,?_⟩) (fun i hi hG=>⟨_,YC,?_⟩) (fun i hi hG k hk=>⟨_,S4,?_⟩) (fun i hi hG k hk=>⟨_,Ro,?_⟩) (fun i hi=>?_) (fun _ _ h=>h.elim) (fun _ _ h=>h.elim)
 ·simp only[af.all,aF,cond_false,bO]
  exact⟨aa,aa,aa,0,aa,[],rfl,by rw[show((m+1:Nat):Int)-1=(m:Nat) by omega];rfl,rfl,xL rfl aa aa trivial⟩
 ·simp only[af.all,aF,bI,bO]
  exact⟨fun h=>⟨aa,[(0,0)],rfl,rfl,rfl,bX rfl rfl rfl (fun i hi=>cA rfl rfl) trivial⟩,fun h=>⟨rfl,i,aa,[(0,0)],rfl,rfl,rfl,bX rfl rfl rfl (fun i hi=>cA rfl rfl) trivial⟩⟩
 ·simp only[af.all,aF]
  exact⟨0,aa,[(0,0),(1,1)],rfl,rfl,rfl,kW rfl rfl (.inr ⟨rfl,fh rfl aa⟩) (bX rfl rfl rfl (fun i hi=>cA rfl rfl) trivial)⟩
 ·simp only[af.all,aF,bI,bO,bJ]
  exact⟨fun h=>⟨aa,aa,k+1,aa,by dsimp only;omega,[(0,0),(1,1)],rfl,rfl,rfl,kW rfl rfl (.inr ⟨rfl,fO rfl (hz i (k+1) hG aa)⟩) (bX rfl rfl rfl (fun i hi=>cA rfl rfl) trivial)⟩,fun h=>⟨rfl,k,aa,[(0,0),(1,1)],rfl,rfl,rfl,fq (bX rfl rfl rfl (fun i hi=>cA rfl rfl) trivial)⟩⟩
 ·subst hk
  simp only[af.all,aF]
  refine⟨aa,aa,i+1,aa,by dsimp only;omega,[(0,12290)],rfl,rfl,rfl,bX rfl rfl rfl (fun j hj=>?_) trivial⟩
  by_cases h:j<i
  ·rw[if_pos h];exact cA rfl rfl
  ·rw[if_neg h,show j-i+0=0 by omega,show j=i by omega];exact cA rfl rfl
 ·subst hi
  refine aA.oQ ((aI.fin hT JK hm 60 XT ah ?_).mono fun _ _ h=>.inl h)
  exact⟨.refl _,.refl _,trivial⟩
theorem PC:bF P I3 96:=fk fun⟨⟨n,p⟩,_⟩ K hn=>by
 obtain⟨h1,h2,h3⟩:=hn
 simp only at h1 h2 h3
 obtain⟨m,rfl⟩:∃m,n=m+1:=⟨n-1,aa⟩
 exact aem aa h3 K
end Go.Am.B
namespace Go.Am
def jm (a b:PP):Prop:=a.1=b.1/\∀i,i<a.1->a.2 i=b.2 i
theorem jm.refl (a:PP):jm a a:=⟨rfl,fun _ _=>rfl⟩
theorem jm.symm {a b:PP} (h:jm a b):jm b a:=⟨h.1.symm,fun i hi=>(h.2 i (by rw[h.1];exact hi)).symm⟩
theorem jm.trans {a b c:PP} (h:jm a b) (h':jm b c):jm a c:=⟨h.1.trans h'.1,fun i hi=>(h.2 i hi).trans (h'.2 i (by rw[<-h.1];exact hi))⟩
theorem MX {n e R:Nat} {d d' a a':Nat->Rat} (hR:R=n-e) (ha:∀i,i<n->a i=a' i) (hd:∀i,i<=e->d i=d' i):∀j,j<=R->∀i,i<n->cM e d a R j i=cM e d' a' R j i
 |0,_,i,hi=>ha i hi
 |j+1,hj,i,hi=>by
  have ih:=MX hR ha hd j (by omega)
  show iC e d (R-1-j) (cM e d a R j) i=iC e d' (R-1-j) (cM e d' a' R j) i
  unfold iC
  by_cases h:R-1-j<=i/\i<R-1-j+e+1
  ·rw[if_pos h,if_pos h,ih i hi,ih (R-1-j+e) (by omega),hd e (Nat.le_refl _),hd (i-(R-1-j)) (by omega)]
  ·rw[if_neg h,if_neg h,ih i hi]
theorem Oo {n e R:Nat} {d a:Nat->Rat} {l m:Rat} (hm:m≠0):∀j i,cM e (fun i=>m*d i) (fun i=>l*a i) R j i=l*cM e d a R j i
 |0,i=>rfl
 |j+1,i=>by
  have ih:=Oo (n:=n) (e:=e) (R:=R) (d:=d) (a:=a) (l:=l) hm j
  show iC e (fun i=>m*d i) (R-1-j) (cM e (fun i=>m*d i) (fun i=>l*a i) R j) i=l*iC e d (R-1-j) (cM e d a R j) i
  unfold iC
  by_cases h:R-1-j<=i/\i<R-1-j+e+1
  ·rw[if_pos h,if_pos h,ih,ih]
   show _-_/(m*d e)*(m*d (i-(R-1-j)))=_
   generalize cM e d a R j i=x
   generalize cM e d a R j (R-1-j+e)=y
   generalize d (i-(R-1-j))=z
   by_cases h0:d e=0
   ·rw[h0];simp only[Rat.mul_zero,Rat.div_def,Rat.inv_zero,Rat.zero_mul];grind
   ·have e1:l*y/(m*d e)*(m*z)=l*(y/d e*z):=by
     rw[Rat.div_def,Rat.div_def,Rat.inv_mul_rev]
     have:m⁻¹*m=1:=Rat.inv_mul_cancel _ hm
     generalize (d e)⁻¹=w
     calc l*y*(w*m⁻¹)*(m*z)=l*y*w*(m⁻¹*m)*z:=by grind
      _=l*(y*w*z):=by rw[this];grind
    rw[e1];grind
  ·rw[if_neg h,if_neg h,ih]
theorem EL {k:Nat->Rat} {l:Rat} (hl:l≠0):∀n,cr (fun i=>l*k i) n=cr k n
 |0=>rfl
 |n+1=>by
  unfold cr
  by_cases h:k n=0
  ·rw[if_pos h,if_pos (by rw[h,Rat.mul_zero]),EL hl n]
  ·rw[if_neg h,if_neg fun h0=>(Rat.mul_eq_zero.1 h0).elim hl h]
def p6 (a b:PP):Prop:=∃l:Rat,l≠0/\a.1=b.1/\∀i,i<a.1->a.2 i=l*b.2 i
theorem p6.cT {a b:PP} (h:p6 a b):jm (gq a) (gq b):=by
 obtain⟨l,hl,h1,h2⟩:=h
 refine⟨h1,fun i hi=>?_⟩
 have hi:i<a.1:=hi
 show Go.Am.cT a.1 a.2 i=Go.Am.cT b.1 b.2 i
 unfold Go.Am.cT
 rw[h2 i hi,h2 (a.1-1) (by omega),h1,Rat.div_def,Rat.div_def,Rat.inv_mul_rev]
 have:l*l⁻¹=1:=Rat.mul_inv_cancel _ hl
 generalize (b.2 (b.1-1))⁻¹=w
 calc l*b.2 i*(w*l⁻¹)=(l*l⁻¹)*(b.2 i*w):=by grind
  _=_:=by rw[this,Rat.one_mul]
theorem p6.rem {a b d f:PP} (h:p6 a b) (h':p6 d f) (hd:0<d.1):p6 (fe a d) (fe b f):=by
 obtain⟨l,hl,h1,h2⟩:=h
 obtain⟨m,hm,g1,g2⟩:=h'
 have key:∀i,i<a.1->cM (d.1-1) d.2 a.2 (a.1-(d.1-1)) (a.1-(d.1-1)) i=l*cM (d.1-1) f.2 b.2 (a.1-(d.1-1)) (a.1-(d.1-1)) i:=fun i hi=>by
  rw[MX (a':=fun i=>l*b.2 i) (d':=fun i=>m*f.2 i) rfl h2 (fun i hi=>g2 i (by omega)) _ (Nat.le_refl _) i hi,Oo (n:=a.1) hm]
 have e1:(fe a d).1=(fe b f).1:=by
  show cr _ _=cr _ _
  rw[<-g1,<-h1,BY key,EL hl]
 refine⟨l,hl,e1,fun i hi=>?_⟩
 have hi:i<(fe a d).1:=hi
 show cM _ _ _ _ _ i=l*cM _ _ _ _ _ i
 rw[<-g1,<-h1]
 exact key i (Nat.lt_of_lt_of_le hi fU)
theorem jm.qT {a b:PP} (h:jm a b):p6 a b:=⟨1,by decide,h.1,fun i hi=>by rw[h.2 i hi,Rat.one_mul]⟩
end Go.Am
namespace Go.Am.B
open Go Go.Am.N AV af au IntKind Proofs.Tryz
def Ho (a b:PP):Prop:=dy a.1 (cT a.1 a.2)/\dy b.1 (cT b.1 b.2)/\oe (gq a,gq b)
def SR (a:PP):Prop:=a.1≠0->Ho a (bh a)/\s7 a (bL a (bh a))/\dy (aW a).1 (aW a).2
def Gu (a:PP):Prop:=a.1≠0/\a.1<2^30/\Trim a/\dy (a.1-1) (dF a.2)/\SR a
def vm (a:PP):Prop:=Gu a/\dy ((aW a).1-1) (dF (aW a).2)/\x6 (ek a)
def aef (p:PP) (a b:Rat):Prop:=iU p/\((ak p).1≠0->vm (ak p)/\aV (ak p)<2^30/\cJ (aV (ak p)) (aS (ak p)) a/\cJ (aV (ak p)) (aS (ak p)) b)
theorem EG {u v:AV} (h:bg u v):bg (.bW u) (.bW v):=by
 refine⟨rfl,fun M w cs hc=>?_⟩
 cases hc with
 |bW h1 h2 h3=>cases h3;exact .bW (h.2 _ _ _ h1) h2 .nil
theorem abc {f:FuncId} {us vs:List AV} (h:ir us vs) (hv:(vs.all fun v=>!v.isAgg&&!v.isTuple)=true):bg (.func f us) (.func f vs):=by
 refine⟨rfl,fun M w cs hc=>?_⟩
 cases hc with
 |func h1 h2 h3=>cases h3;exact .func (FX h h1) hv .nil
def Qr {α:Type} (k:Kind α):Kind α:=⟨fun v=>match v with
 |.bW v=>k.read v
 |_=>none,fun a=>.bW (k.make a),fun {v a q} h hq=>by
  split at h
  ·exact EG (k.ok h hq)
  ·simp at h⟩
abbrev eu (a b:Rat) (n:Nat):AV:=.agg [.rat a n,.rat b n]
def rV (s:Nat):Kind (Rat×Rat):=⟨fun v=>match v with
 |.agg [x,y]=>some ((aN x,aN y),[bg x (.rat (aN x) s),bg y (.rat (aN y) s)])
 |_=>none,fun a=>eu a.1 a.2 s,fun {v a q} h hq=>by
  split at h
  ·simp only[aB,Prod.mk.injEq]at h
   obtain⟨rfl,rfl⟩:=h
   exact mY ⟨hq.1,hq.2,trivial⟩
  ·simp at h⟩
def kHf:Kind Unit:=⟨fun v=>match v with
 |.agg [.bool false,.az 1 1 f,.az 1 1 g]=>some ((),[f 0=.int .u32 1,g 0=.int .u32 2])
 |_=>none,fun _=>.rat (1/2) 3,fun {v a q} h hq=>by
  split at h
  ·simp only[aB,Prod.mk.injEq]at h
   obtain⟨_,rfl⟩:=h
   refine bg.trans (mY (vs:=[.bool false,.mag 1,.mag 2]) ⟨.refl _,l8 (N:=1) (by decide) (fun i hi=>by obtain rfl:i=0:=aa;exact hq.1),l8 (N:=2) (by decide) (fun i hi=>by obtain rfl:i=0:=aa;exact hq.2),trivial⟩) (sD (b:=false) (x:=1) (y:=2) (q:=1/2) ⟨by decide+kernel,by decide+kernel⟩ (by decide+kernel) (by decide+kernel) (by decide+kernel))
  ·simp at h⟩
def IT:Spec:=eR (kC kR (kC kHf kN)) (fun a=>.rat (a.1.1*(1/2)) (a.1.2+3)) fun a=>[a.1.2<2^42]
def Hu:Spec:=eR (kC (ic ag) (kC (ic ag) kN)) (fun a=>.rat (gj a.1 a.2.1) ag) fun _=>[]
def JH:Spec:=eR (kC (ic ag) (kC (ic ag) kN)) (fun a=>.rat (fQ a.1 a.2.1) ag) fun _=>[]
def HR:bG:=nG::(130,Hu)::(131,JH)::gF
def KT:bG:=nG::(129,IT)::(132,GF T [sG] [] 20 f132)::gF
def bE (a b:Rat):Rat:=(a+b)*(1/2)
def za:Spec:=eR (kC (ic ag) (kC (ic ag) kN)) (fun a=>eu (gj a.1 a.2.1) (fQ a.1 a.2.1) ag) fun _=>[]
def NR:bG:=nG::(68,za)::gF
def N5:bG:=zG::(66,sk)::gF
def JX:bG:=nG::(66,sk)::(60,sX)::gF
theorem U5:bC 69 f69:=bD func69
theorem YH:bC 132 f132:=bD func132
theorem Ws:bC 68 f68:=bD func68
theorem VY:bC 70 f70:=bD func70
theorem acF:bC 74 f74:=bD func74
theorem Qe:bC 64 f64:=bD func64
theorem VL {x y:Rat}:cy T HR [] 60 f68 (aJ f68) ⟨bf 0 [.rat x ag,.rat y ag],[],0⟩=
  let c1:Prop:=0<1;some (aj [c1,c1,ag<=ag,ag<=ag,c1,c1,ag<=ag,ag<=ag,c1] (aj [c1] (leaf ret [agg [rat (gj x y) ag,rat (fQ x y) ag]]))):=ah
theorem afq {x y:Rat}:cy T KT [] 60 f69 (aJ f69) ⟨bf 0 [.rat x ag,.rat y ag],[],0⟩=
  let c2:Nat:=2^42;let c1:Prop:=0<1;some (aj [c1,c1,ag<c2,ag<c2,(1:Nat)*1<=2^24,nth [int u32 (1:Int)] (int u32 (0:Int)) ((0:Nat)+0)=int u32 (1:Int),nth [int u32 (2:Int)] (int u32 (0:Int)) ((0:Nat)+0)=int u32 (2:Int),ag+ag+1<c2,c1] (aj [c1] (leaf ret [rat ((x+y)*(1/2:Rat)) (ag+ag+1+3)]))):=ah
theorem Xx {x:Rat}:cy T NR [] 60 f70 (aJ f70) ⟨bf 0 [.rat x ag],[],0⟩=
  let c1:Prop:=0<1;some (aj [c1,c1,ag<=ag,ag<=ag,c1] (aj [c1] (leaf ret [agg [rat (gj x x) ag,rat (fQ x x) ag]]))):=ah
theorem W7 {n:Nat} {c:Nat->PP} {x:Rat}:cy T N5 [] 60 f64 (aJ f64) ⟨bf 0 [.rat x ag,.bW (gB n c)],[],0⟩=
  let c1:PP:=c (Int.toNat (0:Int));let c2:Nat×(Nat->Rat):=(c1.fst,fun i=>aN (rat (c1.snd i) ag));some (aj [(0:Int)<=0/\Int.toNat (0:Int)<n,(0:Nat)<1,cX (fun i=>rat (c1.snd i) ag) c1.fst ag,ag<=ag,c1.fst<2^40,jx c2 x,ag<2^42] (leaf ret [AV.bool (bR (cC c2 x)==0)])):=ah
theorem VO {n:Nat} {c:Nat->PP} {x y:Rat}:cy T JX [9] 60 f74 (aJ f74) ⟨bf 0 [gB n c,eu x y ag],[],0⟩=
  let c4:Int:=fR n (fun i=>b7 (aO (c i))) x y;let c3:Prop:=ag<2^42;let c2:Prop:=0<1;let c1:PP:=c (Int.toNat (0:Int));let c5:Nat×(Nat->Rat):=(c1.fst,fun i=>aN (rat (c1.snd i) ag));some (aj [c2,c2,c3,c3] (fork (decide (x=y)) (aj [(0:Int)<=0/\Int.toNat (0:Int)<n,c2,cX (fun i=>rat (c1.snd i) ag) c1.fst ag,ag<=ag,c1.fst<2^40,jx c5 x,c3] (leaf ret [AV.bool (bR (cC c5 x)==0)])) (aj [c2,c2,∀(i:Nat),i<n->bg (aO (c i)) (aO (b7 (aO (c i)))),ag<=ag,ag<=ag,(0:Nat)<n,n<2^40,cJ n (fun i=>b7 (aO (c i))) x,cJ n (fun i=>b7 (aO (c i))) y] (leaf ret [AV.bool (decide (c4>0))])))):=ah
theorem aai:bF P Hu 130:=fk fun⟨x,y,_⟩ K _=>by
 have hW:=dc
 have:=Zz (q:=x) (r:=y) (n:=ag) (m:=ag) aa aa K
 rw[Nat.max_self]at this;exact this
theorem YV:bF P JH 131:=fk fun⟨x,y,_⟩ K _=>by
 have hW:=dc
 have:=Rp (q:=x) (r:=y) (n:=ag) (m:=ag) aa aa K
 rw[Nat.max_self]at this;exact this
theorem RR:bF P IT 129:=fk fun⟨x,_,_⟩ K hn=>J0 hn aa K
theorem aev:cm P HR:=jh (aM aai (aM YV gU))
theorem aeZ:cm P KT:=jh (aM RR (aM (NH hT (B7 cK) hm YH _ _) gU))
theorem adG {x y:Rat} (K:Nat):aY P 68 K [.rat x ag,.rat y ag] [] (aT (eu (gj x y) (fQ x y) ag) []):=by
 refine cB hT aev hm Ws rfl br rfl 60 VL (fun _=>?_) K []
 simp only[af.all,aF]
 exact⟨⟨aa,aa,aa,aa,aa,aa,aa,aa,aa⟩,aa,.refl _⟩
theorem BS:bF P za 68:=fk fun⟨x,y,_⟩ K _=>adG K
theorem WS:cm P NR:=jh (aM BS gU)
def Bu:Spec:=eR (kC (ic ag) kN) (fun a=>eu a.1 a.1 ag) fun _=>[]
theorem ae1 (x:Rat):gj x x=x:=by unfold gj;split<;>rfl
theorem WN (x:Rat):fQ x x=x:=by unfold fQ;split<;>rfl
theorem EM:bF P Bu 70:=fk fun⟨x,_⟩ K _=>by
 refine cB hT WS hm VY rfl br rfl 60 Xx (fun _=>?_) K []
 simp only[af.all,aF,ae1,WN]
 exact⟨⟨aa,aa,aa,aa,aa⟩,aa,.refl _⟩
def EF:Spec:=eR (kC (ic ag) (kC (ic ag) kN)) (fun a=>.rat (bE a.1 a.2.1) ag) fun a=>[Sz (bE a.1 a.2.1) ag]
theorem HY:bF P EF 69:=fk fun⟨x,y,_⟩ K hn=>by
 have hW:=dc
 refine cB hT aeZ hm U5 rfl br rfl 60 afq (fun _=>?_) K []
 simp only[af.all,aF]
 exact⟨⟨aa,aa,aa,aa,aa,rfl,rfl,aa,aa⟩,aa,fO rfl hn⟩
def FQ:Spec:=eR (kC (ic ag) (kC (Qr ry) kN)) (fun a=>.bool (decide (cC (a.2.1.2 0) a.1=0))) fun a=>[0<a.2.1.1,cJ a.2.1.1 a.2.1.2 a.1]
theorem QL:cm P N5:=jD (aM vX gU)
theorem Ka:bF P FQ 64:=fk fun⟨x,⟨n,c⟩,_⟩ K hn=>by
 have hW:=dc
 refine cB hT QL hm Qe rfl br rfl 60 W7 (fun _=>?_) K []
 obtain⟨h1,h2⟩:=hn.2 0 hn.1
 simp only[af.all,aF]
 exact⟨⟨⟨aa,hn.1⟩,aa,eG aX,aX,h1,h2,aa⟩,fo (by simp only[xo];rfl)⟩
theorem abm:cm P JX:=jh (aM vX (aM u6 gU))
def jL (n:Nat) (c:Nat->PP) (x y:Rat):Bool:=if x=y then decide (cC (c 0) x=0)else decide (0<fR n c x y)
def AL:Spec:=eR (kC ry (kC (rV ag) kN)) (fun a=>.bool (jL a.1.1 a.1.2 a.2.1.1 a.2.1.2)) fun a=>[0<a.1.1,a.1.1<2^40,cJ a.1.1 a.1.2 a.2.1.1,cJ a.1.1 a.1.2 a.2.1.2]
theorem GP:bF P AL 74:=fk fun⟨⟨n,c⟩,⟨x,y⟩,_⟩ K hn=>by
 have hW:=dc
 refine cB hT abm hm acF rfl br rfl 60 VO (fun _=>?_) K []
 obtain⟨g1,g2,g3,g4⟩:=hn
 obtain⟨h1,h2⟩:=g3 0 g1
 simp only[af.all,aF,bI,bO]
 refine⟨⟨aa,aa,aa,aa⟩,fun h=>⟨⟨⟨aa,g1⟩,aa,eG aX,aX,h1,h2,aa⟩,?_⟩,fun h=>⟨⟨aa,aa,fun i _=>.refl _,aX,aX,g1,g2,g3,g4⟩,?_⟩⟩
 ·exact fo (by unfold jL;rw[if_pos h];simp only[xo];rfl)
 ·exact fo (by unfold jL;rw[if_neg h];rfl)
def ej (n:Nat) (c:Nat->PP):Nat->Rat->Rat->List (Rat×Rat)
 |0,_,_=>[]
 |d+1,x,y=>if fR n c x y=0 then []else if fR n c x y=1 then [(gj x y,fQ x y)]else
  ej n c d x (bE x y)++(if cC (c 0) (bE x y)=0 then(bE x y,bE x y)::ej n c d (bE x y) y else ej n c d (bE x y) y)
def j9 (n:Nat) (c:Nat->PP):Nat->Rat->Rat->Prop
 |0,_,_=>False
 |d+1,x,y=>cJ n c x/\cJ n c y/\(fR n c x y≠0->fR n c x y≠1->Sz (bE x y) ag/\j9 n c d x (bE x y)/\j9 n c d (bE x y) y)
def mN:AV->Rat×Rat
 |.agg [x,y]=>(aN x,aN y)
 |_=>(0,0)
def jI (f:Nat->AV) (m:Nat):List (Rat×Rat):=(List.range m).map fun i=>mN (f i)
def bN (l:List (Rat×Rat)) (i:Nat):Rat×Rat:=l.getD i (0,0)
abbrev dx (l:List (Rat×Rat)) (i:Nat):AV:=eu (bN l i).1 (bN l i).2 ag
abbrev tY (l:List (Rat×Rat)):aC:=⟨true,true,6,l.length,dx l⟩
abbrev su:FuncId:=64
abbrev nO:FuncId:=67
abbrev Bm (n:Nat) (c:Nat->PP):AV:=.func su [.bW (gB n c)]
abbrev MB (n:Nat) (c:Nat->PP) (kf kl:Nat):AV:=.func nO [.bW (gB n c),.ptr kf 0 1 0 [],.ptr kl 0 1 0 [],.bW (Bm n c)]
abbrev uP (k m:Nat):aC:=⟨false,true,1,1,fun _=>.own k 6 0 m⟩
abbrev sr (n:Nat) (c:Nat->PP) (kf kl:Nat):aC:=⟨false,true,1,1,fun _=>MB n c kf kl⟩
abbrev gone:aC:=⟨true,false,0,0,fun _=>.nil⟩
def isVar (o:aC):Bool:=!o.row&&o.wr&&o.es==1&&o.len==1
def Di (st:aG) (k:Nat):Option (Nat×Nat×(Nat->AV)×Nat):=match look k st with
 |some o=>if isVar o then match o.f 0 with
  |.own k0 6 0 m=>match look k0 st with
   |some r=>if r.row&&r.wr&&r.es==6&&k0 !=k then some (k0,m,r.f,r.len)else none
   |none=>none
  |_=>none else none
 |none=>none
def C2 (st:aG) (kf kl:Nat):Option (AV×AV):=match look kl st with
 |some o=>if isVar o then match o.f 0 with
  |.func g [.bW ch,.ptr kf' 0 1 0 [],.ptr kl' 0 1 0 [],.bW is]=>if g==nO&&kf'==kf&&kl'==kl&&kl !=kf then some (ch,is)else none
  |_=>none else none
 |none=>none
def Ac:AV->Option AV
 |.func g [.bW ch]=>if g==su then some ch else none
 |_=>none
def qF (d:Nat):Spec:=fun K args st=>match args with
 |[x,y,.bW ch,.ptr kf 0 1 0 [],.ptr kl 0 1 0 [],.bW is]=>match(ic ag).read x,(ic ag).read y,ry.read ch,Ac is with
  |some (x,q1),some (y,q2),some ((n,c),q3),some ch1=>match Di st kf,C2 st kf kl with
   |some (k0,m,f,len),some (oB,is2)=>match Ac is2 with
    |some ch3=>if k0 !=kl&&Nat.blt kf K&&Nat.blt kl K&&Nat.blt k0 K then
      some ⟨.tuple [],[(kf,uP K (jI f m++ej n c d x y).length),(kl,sr n c kf kl),(K,tY (jI f m++ej n c d x y)),(k0,gone)],
       [aF q1,aF q2,aF q3,bg ch1 (gB n c),bg oB (gB n c),bg ch3 (gB n c),m=len,∀i,i<m->keys (f i)=[]/\bg (f i) (eu (mN (f i)).1 (mN (f i)).2 ag),0<n,n<2^40,j9 n c d x y,m+(ej n c d x y).length<2^30]⟩else none
    |none=>none
   |_,_=>none
  |_,_,_,_=>none
 |_=>none
def O9 (d:Nat):bG:=nG::(60,sX)::(68,za)::(70,Bu)::(69,EF)::(su,FQ)::(nO,qF d)::gF
abbrev KJ:Code:=aJ f67
abbrev Gq (n:Nat) (c:Nat->PP) (x y:Rat):List AV:=[.rat x ag,.rat y ag,.bW (gB n c),.ptr 0 0 1 0 [],.ptr 1 0 1 0 [],.bW (Bm n c)]
abbrev JZ (n:Nat) (c:Nat->PP) (l:List (Rat×Rat)):aG:=[(0,uP 2 l.length),(1,sr n c 0 1),(2,tY l)]
theorem Pb:bC nO f67:=bD func67
theorem afG {d n:Nat} {c:Nat->PP} {x y:Rat} {l:List (Rat×Rat)}:aK T (O9 d) [32,34,22] 60 [3,4] [KJ] ⟨bf 0 (Gq n c x y),JZ n c l,3⟩=
  let c31:AV:=gB n fun i=>b7 (aO (c i));let c29:Int:=fR n (fun i=>b7 (aO (c i))) x y;let c26:Nat:=2^30;let c25:Prop:=0<n;let c24:Prop:=1*6<=2^24;let c21:Rat:=bE x y;let c19:Nat:=l.length;let c18:AV:=rat 0 1;let c17:Prop:=n<2^40;let c16:Prop:=ag<=ag;let c14:AV:=ptr 0 0 1 0 [];let c13:AV:=ptr 1 0 1 0 [];let c11:Prop:=aF [∀(i:Nat),i<n->bg (aO (b7 (aO (c i)))) (aO (b7 (aO (b7 (aO (c i))))))];let c10:AV:=(az 1 n fun i=>az 3 (c i).fst fun i_1=>rat ((c i).snd i_1) ag).bW;let c9:AV:=(az 1 n fun i=>az 3 (c i).fst fun i_1=>rat (aN (rat (aN (rat ((c i).snd i_1) ag)) ag)) ag).bW;let c6:Prop:=0<1;let c33:List (Rat×Rat):=ej n (fun i=>b7 (aO (c i))) d x c21;let c32:Nat:=c19+1;let c30:Rat:=cC (b7 (aO (c 0))) c21;let c28:Prop:=aF [c16];let c27:AV:=own 2 6 0 c19;let c20:Prop:=j9 n (fun i=>b7 (aO (b7 (aO (c i))))) d c21 y;let c12:Prop:=bg (gB n c) c31;let c8:List AV:=[c14,c13];let c7:List (Rat×Rat):=ej n (fun i=>b7 (aO (b7 (aO (c i))))) d c21 y;let c5:Prop:=bg c31 (gB n fun i=>b7 (aO (b7 (aO (c i)))));let c4:Nat×aC:=(1,aC.mk false true 1 1 fun x=>func 67 [c10,c14,c13,(func 64 [c10]).bW]);let c3:Nat×aC:=(1,aC.mk false true 1 1 fun x=>func 67 [c9,c14,c13,(func 64 [c9]).bW]);let c1:List (Rat×Rat):=jI (dx l) c19++c33;let c15:Nat:=c1.length;let c23:List (Rat×Rat):=jI (dx c1) c15++c7;let c22:Nat:=c15+1;let c2:List (Rat×Rat):=jI (fun i=>if i<c15 then dx c1 i else nth [agg [rat c21 ag,rat c21 ag]] (agg [c18,c18]) (i-c15+0)) c22++c7;some (aj [c6,c6,∀(i:Nat),i<n->bg (aO (c i)) (aO (b7 (aO (c i)))),c16,c16,c25,c17,cJ n (fun i=>b7 (aO (c i))) x,cJ n (fun i=>b7 (aO (c i))) y] (fork (c29==0) (leaf normal (c8,[c4,(0,aC.mk false true 1 1 fun x=>c27),(2,aC.mk true true 6 c19 fun i=>agg [rat (bN l i).fst ag,rat (bN l i).snd ag])])) (fork (c29==1) (aj [c6,c6,c6,c16,c16,c24,c32*((112:Nat)+1)*2<=2^47,c6] (leaf normal (c8,[c4,(0,aC.mk false true 1 1 fun j=>if(j==0)=true then dM (own (nat_lit 61442+1) 6 0 c32)else c27),(61443,aC.mk true true 6 c32 fun i=>if i<c19 then dx l i else nth [agg [rat (gj x y) ag,rat (fQ x y) ag]] (agg [c18,c18]) (i-c19+0))]))) (aj [c6,c6,c16,c16,Sz c21 ag,c6] (aj [c6,c6,c6,c28,c28,aF [∀(i:Nat),i<n->bg (aO (c i)) (aO (b7 (aO (c i))))],c12,c12,c12,c19=c19,∀(i:Nat),i<c19->(dx l i).keys=[]/\bg (dx l i) (eu (aN (rat (bN l i).fst ag)) (aN (rat (bN l i).snd ag)) ag),c25,c17,j9 n (fun i=>b7 (aO (c i))) d x c21,c19+c33.length<c26] (aj [c6,c16,∀(i:Nat),i<n->bg (aO (c i)) (aO (b7 (aO (c i)))),c25,cJ n (fun i=>b7 (aO (c i))) c21] (fork (decide (c30=0)) (aj [c6,c6,c16,c24,c22*((112:Nat)+1)*2<=2^47,c6] (aj [c6,c6,c6,c28,c28,c11,c5,c5,c5,c22=c22,∀(i:Nat),i<c22->(if i<c15 then dx c1 i else nth [agg [rat c21 ag,rat c21 ag]] (agg [c18,c18]) (i-c15+0)).keys=[]/\bg (if i<c15 then dx c1 i else nth [agg [rat c21 ag,rat c21 ag]] (agg [c18,c18]) (i-c15+0)) (eu (mN (if i<c15 then dx c1 i else nth [agg [rat c21 ag,rat c21 ag]] (agg [c18,c18]) (i-c15+0))).fst (mN (if i<c15 then dx c1 i else nth [agg [rat c21 ag,rat c21 ag]] (agg [c18,c18]) (i-c15+0))).snd ag),c25,c17,c20,c22+c7.length<c26] (leaf normal (c8,[c3,(0,aC.mk false true 1 1 fun x=>own 126979 6 0 c2.length),(126979,aC.mk true true 6 c2.length fun i=>agg [rat (bN c2 i).fst ag,rat (bN c2 i).snd ag])])))) (aj [c6,c6,c6,c28,c28,c11,c5,c5,c5,c15=c15,∀(i:Nat),i<c15->(dx c1 i).keys=[]/\bg (dx c1 i) (eu (aN (rat (bN c1 i).fst ag)) (aN (rat (bN c1 i).snd ag)) ag),c25,c17,c20,c15+c7.length<c26] (leaf normal (c8,[c3,(0,aC.mk false true 1 1 fun x=>own 102403 6 0 c23.length),(102403,aC.mk true true 6 c23.length fun i=>agg [rat (bN c23 i).fst ag,rat (bN c23 i).snd ag])])))))))))):=ah
theorem Ld {s:Nat} {v:AV} {x:Rat} {q:List Prop} (h:(ic s).read v=some (x,q)):v.isTuple=false:=by
 unfold ic at h
 dsimp only at h
 split at h
 ·rename_i h1
  unfold pJ at h1
  split at h1
  ·rfl
  ·rfl
  ·simp at h1
 ·simp at h
theorem Hy {s:Nat} {v:AV} {x:Rat} {q:List Prop} (h:(ic s).read v=some (x,q)):keys v=[]:=by
 unfold ic at h
 dsimp only at h
 split at h
 ·rename_i h1
  unfold pJ at h1
  split at h1
  ·rfl
  ·rfl
  ·simp at h1
 ·simp at h
theorem Hh {o:aC} (h:isVar o=true):o=⟨false,true,1,1,o.f⟩:=by
 obtain⟨r,w,es,len,f⟩:=o
 unfold isVar at h
 simp only[Bool.and_eq_true,Bool.not_eq_true',beq_iff_eq]at h
 obtain⟨⟨⟨h1,h2⟩,h3⟩,h4⟩:=h
 subst h1 h2 h3 h4;rfl
theorem adt {st:aG} {k k0 m len:Nat} {f:Nat->AV} (h:Di st k=some (k0,m,f,len)):∃g,look k st=some ⟨false,true,1,1,g⟩/\g 0=.own k0 6 0 m/\look k0 st=some ⟨true,true,6,len,f⟩/\k0≠k:=by
 unfold Di at h
 split at h
 ·rename_i o ho
  split at h
  ·rename_i hv
   have hv:=Hh hv
   split at h
   ·rename_i k0' m' hf
    split at h
    ·rename_i r hr
     split at h
     ·rename_i hc
      simp only[Bool.and_eq_true,beq_iff_eq,bne_iff_ne,ne_eq]at hc
      obtain⟨⟨⟨c1,c2⟩,c3⟩,c4⟩:=hc
      simp only[aB,Prod.mk.injEq]at h
      obtain⟨rfl,rfl,rfl,rfl⟩:=h
      refine⟨o.f,by rw[ho,<-hv],hf,?_,c4⟩
      rw[hr]
      obtain⟨r1,r2,r3,r4,r5⟩:=r
      subst c1 c2 c3;rfl
     ·simp at h
    ·simp at h
   ·simp at h
  ·simp at h
 ·simp at h
theorem SW {st:aG} {kf kl:Nat} {ch is:AV} (h:C2 st kf kl=some (ch,is)):∃g,look kl st=some ⟨false,true,1,1,g⟩/\g 0=.func nO [.bW ch,.ptr kf 0 1 0 [],.ptr kl 0 1 0 [],.bW is]/\kl≠kf:=by
 unfold C2 at h
 split at h
 ·rename_i o ho
  split at h
  ·rename_i hv
   have hv:=Hh hv
   split at h
   ·rename_i g' ch' kf' kl' is' hf
    split at h
    ·rename_i hc
     simp only[Bool.and_eq_true,beq_iff_eq,bne_iff_ne,ne_eq]at hc
     obtain⟨⟨⟨c1,c2⟩,c3⟩,c4⟩:=hc
     simp only[aB,Prod.mk.injEq]at h
     obtain⟨rfl,rfl⟩:=h
     subst c1 c2 c3
     exact⟨o.f,by rw[ho,<-hv],hf,c4⟩
    ·simp at h
   ·simp at h
  ·simp at h
 ·simp at h
theorem Jo {v ch:AV} (h:Ac v=some ch):v=.func su [.bW ch]:=by
 unfold Ac at h
 split at h
 ·split at h
  ·rename_i hc
   have:=eq_of_beq hc
   simp only[aB]at h
   subst h this;rfl
  ·simp at h
 ·simp at h
theorem wR {f:Nat->AV} {m:Nat}:(jI f m).length=m:=by simp[jI]
theorem WL {f:Nat->AV} {m i:Nat} (h:i<m):bN (jI f m) i=mN (f i):=by
 unfold bN jI
 simp[List.getD,h]
theorem Lf {f:Nat->AV} {m:Nat} {l:List (Rat×Rat)} (hl:l.length=m) (h:∀i,i<m->mN (f i)=bN l i):jI f m=l:=by
 apply List.ext_getElem
 ·rw[wR,hl]
 ·intro i h1 h2
  have:=h i (by rwa [wR]at h1)
  simp only[jI,List.getElem_map,List.getElem_range,this,bN]
  simp[List.getD,h2]
theorem Ow {l:List (Rat×Rat)}:jI (dx l) l.length=l:=Lf rfl fun i _=>rfl
theorem Uy {l l':List (Rat×Rat)} {i:Nat}:bN (l++l') i=if i<l.length then bN l i else bN l' (i-l.length):=by
 unfold bN
 simp only[List.getD,List.getElem?_append]
 split<;>rfl
theorem Bn {s':aL} {e:au} {n:Nat} {c:Nat->PP} {kf kl K kx:Nat} {vs:List AV} {vf vl row:aC} {L:List (Rat×Rat)} (he:e=.normal) (h1:kl≠kf) (g1:kf<K) (g2:kl<K) (hv:bp [3,4] s'=some (vs,[(1,vl),(0,vf),(kx,row)])) (hkx:2<=kx) (hl:vl=sr n c 0 1)
  (hf:vf=⟨false,true,1,1,vf.f⟩) (hf0:vf.f 0=.own kx 6 0 L.length) (hr:row=⟨true,true,6,L.length,row.f⟩) (hr0:∀i,i<L.length->row.f i=dx L i):
  (e=.normal\/e=.ret)/\∃ls vs os kx o1 o2 o3,bp ls s'=some (vs,os)/\2<=kx/\
   look 0 os=some o1/\gQ (bH [(kf,0),(kl,1),(K,kx)]) o1 (uP K L.length)/\look 1 os=some o2/\gQ (bH [(kf,0),(kl,1),(K,kx)]) o2 (sr n c kf kl)/\look kx os=some o3/\gQ (bH [(kf,0),(kl,1),(K,kx)]) o3 (tY L):=by
 have n1:¬kf=K:=aa
 have n2:¬kl=K:=aa
 have n3:¬0=kx:=aa
 have n4:¬1=kx:=aa
 have r1:bH [(kf,0),(kl,1),(K,kx)] kf=some 0:=by simp[bH,look]
 have r2:bH [(kf,0),(kl,1),(K,kx)] kl=some 1:=by simp[bH,look,h1.symm]
 have r3:bH [(kf,0),(kl,1),(K,kx)] K=some kx:=by simp[bH,look,n1,n2]
 refine⟨.inl he,[3,4],vs,_,kx,vf,vl,row,hv,hkx,by simp[look],?_,by simp[look],?_,by simp[look,n3,n4],?_⟩
 ·rw[hf]
  exact jj rfl fun i hi=>by obtain rfl:i=0:=aa;rw[hf0];exact e9 r3 rfl rfl
 ·rw[hl]
  exact jj rfl fun i hi=>FK ⟨⟨rfl,jN rfl (.refl _)⟩,⟨rfl,lG r1⟩,⟨rfl,lG r2⟩,⟨rfl,jN rfl (.refl _)⟩,trivial⟩ rfl
 ·rw[hr]
  exact jj rfl fun i hi=>by rw[hr0 i hi];exact jN rfl (.refl _)
theorem YR {d:Nat} (h:∀K args pre r,qF d K args pre=some r->aY P nO K args pre r):cm P (O9 d):=jh (aM u6 (aM BS (aM EM (aM HY (aM Ka (aM h gU))))))
theorem j9.right {n d:Nat} {c:Nat->PP} {x y:Rat} (h:j9 n c d x y):cJ n c y:=by
 cases d with
 |zero=>exact h.elim
 |succ d=>exact h.2.1
theorem HL {v z:AV} {i:Nat} (h:i=0):nth [v] z i=v:=by subst h;rfl
theorem we {l:List (Rat×Rat)} {p:Rat×Rat} {z:AV} {i:Nat} (hi:i<l.length+1):(if i<l.length then dx l i else nth [eu p.1 p.2 ag] z (i-l.length+0))=dx (l++[p]) i:=by
 unfold dx
 rw[Uy]
 split
 ·rfl
 ·rw[HL aa,show i-l.length=0 by omega];rfl
theorem HM {l:List (Rat×Rat)} {p:Rat×Rat} {z:AV}:jI (fun i=>if i<l.length then dx l i else nth [eu p.1 p.2 ag] z (i-l.length+0)) (l.length+1)=l++[p]:=
 Lf (by simp) fun i hi=>by
  have:=we (p:=p) (z:=z) hi
  rw[this];rfl
theorem Zt {d:Nat} (hd:∀K args pre r,qF d K args pre=some r->aY P nO K args pre r) {n:Nat} {c:Nat->PP} {x y:Rat} {l:List (Rat×Rat)} {kf kl K:Nat} (h1:kl≠kf) (g1:kf<K) (g2:kl<K) (hn0:0<n) (hn:n<2^40) (hz:j9 n c (d+1) x y) (hb:l.length+(ej n c (d+1) x y).length<2^30) (cx:Ctx):
  aA P cx f67.ntmps KJ ⟨bf 0 (Gq n c x y),JZ n c l,3⟩ fun e s'=>(e=.normal\/e=.ret)/\∃ls vs os kx o1 o2 o3,bp ls s'=some (vs,os)/\2<=kx/\
   look 0 os=some o1/\gQ (bH [(kf,0),(kl,1),(K,kx)]) o1 (uP K (l++ej n c (d+1) x y).length)/\look 1 os=some o2/\gQ (bH [(kf,0),(kl,1),(K,kx)]) o2 (sr n c kf kl)/\look kx os=some o3/\gQ (bH [(kf,0),(kl,1),(K,kx)]) o3 (tY (l++ej n c (d+1) x y)):=by
 have hW:=dc
 obtain⟨z1,z2,z3⟩:=hz
 have hC:(fun i=>b7 (aO (c i)))=c:=rfl
 have hL:ej n c (d+1) x y=if fR n c x y=0 then []else if fR n c x y=1 then [(gj x y,fQ x y)]else
  ej n c d x (bE x y)++(if cC (c 0) (bE x y)=0 then(bE x y,bE x y)::ej n c d (bE x y) y else ej n c d (bE x y) y):=rfl
 have hk:∀{l:List (Rat×Rat)} {i:Nat},i<l.length->keys (dx l i)=[]/\bg (dx l i) (eu (aN (.rat (bN l i).1 ag)) (aN (.rat (bN l i).2 ag)) ag):=fun _=>⟨rfl,.refl _⟩
 have hq:∀{l:List (Rat×Rat)} {p:Rat×Rat} {z:AV} {i:Nat},i<l.length+1->keys (if i<l.length then dx l i else nth [eu p.1 p.2 ag] z (i-l.length+0))=[]/\
   bg (if i<l.length then dx l i else nth [eu p.1 p.2 ag] z (i-l.length+0)) (eu (mN (if i<l.length then dx l i else nth [eu p.1 p.2 ag] z (i-l.length+0))).1 (mN (if i<l.length then dx l i else nth [eu p.1 p.2 ag] z (i-l.length+0))).2 ag):=fun hi=>by
  rw[we hi];exact⟨rfl,.refl _⟩
 refine aA.bM hT (YR hd) hm 60 [3,4] afG Pb.dst ?_
 simp only[af.all,aF,hC,beq_iff_eq,beq_eq_false_iff_ne,ne_eq,bI,bO,Ow]
 refine⟨⟨aa,aa,fun i _=>.refl _,aX,aX,hn0,hn,z1,z2⟩,fun b0 s' hv=>?_,fun b0=>⟨fun b1=>⟨⟨aa,aa,aa,aX,aX,aa,?_,aa⟩,fun s' hv=>?_⟩,fun b1=>?_⟩⟩
 ·rw[hL,if_pos b0,List.append_nil]
  exact⟨.inl trivial,(Bn (L:=l) rfl h1 g1 g2 hv aa rfl rfl rfl rfl fun i _=>rfl).2⟩
 ·rw[hL,if_neg b0,if_pos b1]at hb
  simp only[List.length_cons,List.length_nil]at hb
  omega
 ·rw[hL,if_neg b0,if_pos b1]
  refine⟨.inl trivial,(Bn (L:=l++[(gj x y,fQ x y)]) rfl h1 g1 g2 hv aa rfl rfl (by rw[List.length_append];rfl) (by rw[List.length_append];rfl) fun i hi=>?_).2⟩
  rw[List.length_append]at hi
  exact we (p:=(gj x y,fQ x y)) hi
 ·obtain⟨m1,m2,m3⟩:=z3 b0 b1
  rw[hL,if_neg b0,if_neg b1]at hb ⊢
  rw[List.length_append]at hb
  have hl2:(ej n c d (bE x y) y).length<=(if cC (c 0) (bE x y)=0 then(bE x y,bE x y)::ej n c d (bE x y) y else ej n c d (bE x y) y).length:=by
   split
   ·exact Nat.le_succ _
   ·exact Nat.le_refl _
  refine⟨⟨aa,aa,aX,aX,m1,aa⟩,⟨aa,aa,aa,aX,aX,fun i _=>.refl _,.refl _,.refl _,.refl _,trivial,fun i hi=>hk hi,hn0,hn,m2,aa⟩,⟨aa,aX,fun i _=>.refl _,hn0,m2.right⟩,fun r0=>⟨⟨aa,aa,aX,aa,?_,aa⟩,⟨aa,aa,aa,aX,aX,fun i _=>.refl _,.refl _,.refl _,.refl _,trivial,fun i hi=>hq (p:=(bE x y,bE x y)) hi,hn0,hn,m3,?_⟩,fun s' hv=>?_⟩,
   fun r0=>⟨⟨aa,aa,aa,aX,aX,fun i _=>.refl _,.refl _,.refl _,.refl _,trivial,fun i hi=>hk hi,hn0,hn,m3,?_⟩,fun s' hv=>?_⟩⟩
  ·rw[List.length_append];omega
  ·have r0:cC (c 0) (bE x y)=0:=r0
   rw[if_pos r0,List.length_cons]at hb
   show(l++ej n c d x (bE x y)).length+1+(ej n c d (bE x y) y).length<2^30
   rw[List.length_append];omega
  ·have r0:cC (c 0) (bE x y)=0:=r0
   rw[if_pos r0]
   have e:=HM (l:=l++ej n c d x (bE x y)) (p:=(bE x y,bE x y)) (z:=.agg [.rat 0 1,.rat 0 1])
   dsimp only at e hv
   rw[e]at hv
   rw[show l++(ej n c d x (bE x y)++(bE x y,bE x y)::ej n c d (bE x y) y)=l++ej n c d x (bE x y)++[(bE x y,bE x y)]++ej n c d (bE x y) y by simp[List.append_assoc]]
   exact⟨.inl trivial,(Bn rfl h1 g1 g2 hv aa rfl rfl rfl rfl fun i _=>rfl).2⟩
  ·show(l++ej n c d x (bE x y)).length+(ej n c d (bE x y) y).length<2^30
   rw[List.length_append];omega
  ·have r0:¬cC (c 0) (bE x y)=0:=r0
   rw[if_neg r0,<-List.append_assoc]
   exact⟨.inl trivial,(Bn rfl h1 g1 g2 hv aa rfl rfl rfl rfl fun i _=>rfl).2⟩
theorem JE {d:Nat} (ih:∀e,d=e+1->∀K args pre r,qF e K args pre=some r->aY P nO K args pre r):bF P (qF d) nO:=by
 intro K args pre r h
 unfold qF at h
 split at h
 ·rename_i x' y' ch kf kl is
  split at h
  ·rename_i x q1 y q2 n c q3 ch1 hx hy hc hi
   split at h
   ·rename_i k0 m f len oB is2 hl hcl
    split at h
    ·rename_i ch3 hi3
     split at h
     ·rename_i hk
      simp only[aB]at h
      subst h
      simp only[Bool.and_eq_true,bne_iff_ne,ne_eq,Nat.blt_eq]at hk
      obtain⟨⟨⟨k1,k2⟩,k3⟩,k4⟩:=hk
      obtain⟨e1,l1,l2,l3,l4⟩:=adt hl
      obtain⟨e2,c1,c2,c3⟩:=SW hcl
      obtain rfl:=Jo hi
      obtain rfl:=Jo hi3
      intro need
      obtain⟨n1,n2,n3,n4,n5,n6,n7,n8,n9,n10,n11,n12⟩:=need
      have hch:=ry.ok hc n3
      have r0:bH [(0,kf),(1,kl),(2,k0)] 0=some kf:=rfl
      have r1:bH [(0,kf),(1,kl),(2,k0)] 1=some kl:=rfl
      have r2:bH [(0,kf),(1,kl),(2,k0)] 2=some k0:=rfl
      have hcr:∀{ρ:Nat->Option Nat} {u v:AV},bg u v->iQ ρ (.bW u) (.bW v):=fun h=>jN rfl (EG h)
      have hcl:∀{ρ:Nat->Option Nat} {u v:AV},bg u v->iQ ρ (.bW (.func su [.bW u])) (.bW (.func su [.bW v])):=fun h=>hcr (abc ⟨EG h,trivial⟩ rfl)
      refine aY.frame (pre:=[(kf,⟨false,true,1,1,e1⟩),(kl,⟨false,true,1,1,e2⟩),(k0,⟨true,true,6,len,f⟩)]) (VI hT Pb (args0:=Gq n c x y) (oa0:=uP 2 (jI f m).length) (ob0:=sr n c 0 1) (oc0:=tY (jI f m)) ah rfl c3 l4 k1 k2 k3 k4 (fun _=>?_) br (fun _=>⟨?_,?_,?_⟩) (fun _ cx _=>?_)) (fun k o hk=>?_) ⟨n1,n2,n3,n4,n5,n6,n7,n8,n9,n10,n11,n12⟩
      ·exact⟨⟨Ld hx,jN (Hy hx) ((ic ag).ok hx n1)⟩,⟨Ld hy,jN (Hy hy) ((ic ag).ok hy n2)⟩,⟨rfl,hcr hch⟩,⟨rfl,lG r0⟩,⟨rfl,lG r1⟩,⟨rfl,hcl n4⟩,trivial⟩
      ·rw[wR]
       exact jj rfl fun i hi=>by obtain rfl:i=0:=aa;rw[l2];exact e9 r2 rfl rfl
      ·exact jj rfl fun i hi=>by
        obtain rfl:i=0:=aa
        rw[c2]
        exact FK ⟨⟨rfl,hcr n5⟩,⟨rfl,lG r0⟩,⟨rfl,lG r1⟩,⟨rfl,hcl n6⟩,trivial⟩ rfl
      ·refine jj (by rw[wR];exact n7) fun i hi=>?_
       obtain⟨p1,p2⟩:=n8 i aa
       unfold dx
       rw[WL (show i<m by omega)]
       exact jN p1 p2
      ·cases d with
       |zero=>exact absurd n11 id
       |succ d=>exact Zt (ih d rfl) c3 k2 k3 n9 n10 n11 (by rw[wR];exact n12) cx
      ·rcases uk hk with⟨e1,e2⟩|⟨e1,_,e2⟩|⟨e1,_,_,e2⟩<;>subst e1<;>subst e2
       ·exact l1
       ·exact c1
       ·exact l3
     ·simp at h
    ·simp at h
   ·simp at h
  ·simp at h
 ·simp at h
theorem Jn:∀d K args pre r,qF d K args pre=some r->aY P nO K args pre r
 |0=>JE fun e h=>absurd h aa
 |d+1=>JE fun e h=>by obtain rfl:d=e:=aa;exact Jn d
end Go.Am.B
namespace Go.Am
def sg (f:Nat->Rat):Nat->Rat
 |0=>0
 |n+1=>sg f n+f n
theorem iw {f g:Nat->Rat}:∀{n:Nat},(∀i,i<n->f i=g i)->sg f n=sg g n
 |0,_=>rfl
 |n+1,h=>by rw[sg,sg,iw fun i hi=>h i (by omega),h n (by omega)]
theorem oU {f:Nat->Rat}:∀{n:Nat},(∀i,i<n->f i=0)->sg f n=0
 |0,_=>rfl
 |n+1,h=>by rw[sg,oU fun i hi=>h i (by omega),h n (by omega),Rat.add_zero]
theorem rR {f g:Nat->Rat}:∀{n:Nat},sg (fun i=>f i+g i) n=sg f n+sg g n
 |0=>by simp only[sg];grind
 |n+1=>by rw[sg,sg,sg,rR];grind
theorem nv {f:Nat->Rat} {c:Rat}:∀{n:Nat},sg (fun i=>c*f i) n=c*sg f n
 |0=>by simp only[sg];grind
 |n+1=>by rw[sg,sg,nv];grind
theorem x7 {f:Nat->Rat}:∀{n:Nat},sg f (n+1)=f 0+sg (fun i=>f (i+1)) n
 |0=>by simp only[sg];grind
 |n+1=>by rw[sg,x7,sg];grind
theorem B0 {f:Nat->Rat} {n:Nat}:∀{m:Nat},sg f (n+m)=sg f n+sg (fun i=>f (n+i)) m
 |0=>by simp only[sg];show sg f n=_;grind
 |m+1=>by
  show sg f (n+m)+f (n+m)=sg f n+(sg (fun i=>f (n+i)) m+f (n+m))
  rw[B0];grind
theorem BR {f:Nat->Rat} {n m:Nat} (h:∀i,n<=i->i<m->f i=0) (hm:n<=m):sg f m=sg f n:=by
 obtain⟨l,rfl⟩:∃l,m=n+l:=⟨m-n,by omega⟩
 rw[B0,oU (f:=fun i=>f (n+i)) fun i hi=>h _ (by omega) (by omega),Rat.add_zero]
theorem Az {f:Nat->Nat->Rat} {n:Nat}:∀{m:Nat},sg (fun i=>sg (fun j=>f i j) n) m=sg (fun j=>sg (fun i=>f i j) m) n
 |0=>(oU fun _ _=>rfl).symm
 |m+1=>by
  rw[sg,Az,<-rR];rfl
theorem pow_add' (t:Rat) (m:Nat):∀n:Nat,t^(m+n)=t^m*t^n
 |0=>by rw[Nat.add_zero,Rat.pow_zero,Rat.mul_one]
 |n+1=>by rw[<-Nat.add_assoc,Rat.pow_succ,pow_add' t m n,Rat.pow_succ,Rat.mul_assoc]
def ev (n:Nat) (k:Nat->Rat) (t:Rat):Rat:=sg (fun i=>k i*t^i) n
theorem qU {n:Nat} {k l:Nat->Rat} {t:Rat} (h:∀i,i<n->k i=l i):ev n k t=ev n l t:=iw fun i hi=>by rw[h i hi]
theorem Kn {n:Nat} {k:Nat->Rat} {t:Rat}:ev (n+1) k t=ev n k t+k n*t^n:=rfl
theorem vU {n:Nat} {k:Nat->Rat} {t:Rat}:ev (n+1) k t=k 0+t*ev n (fun i=>k (i+1)) t:=by
 unfold ev
 rw[x7,<-nv,Rat.pow_zero,Rat.mul_one]
 congr 1
 exact iw fun i _=>by rw[Rat.pow_succ];grind
theorem Oa {n m:Nat} {k:Nat->Rat} {t:Rat} (h:∀i,n<=i->i<m->k i=0) (hm:n<=m):ev m k t=ev n k t:=BR (fun i h1 h2=>by rw[h i h1 h2,Rat.zero_mul]) hm
theorem vv {n:Nat} {k l:Nat->Rat} {t:Rat}:ev n (fun i=>k i+l i) t=ev n k t+ev n l t:=by
 unfold ev;rw[<-rR];exact iw fun i _=>by grind
theorem pM {n:Nat} {k:Nat->Rat} {c t:Rat}:ev n (fun i=>c*k i) t=c*ev n k t:=by
 unfold ev;rw[<-nv];exact iw fun i _=>by grind
theorem acU {n m:Nat} {k:Nat->Rat} {t:Rat}:ev (m+n) (fun i=>if m<=i then k (i-m)else 0) t=t^m*ev n k t:=by
 unfold ev
 rw[B0,oU fun i hi=>by dsimp only;rw[if_neg (by omega),Rat.zero_mul],Rat.zero_add,<-nv]
 exact iw fun i _=>by dsimp only;rw[if_pos (by omega),pow_add',show m+i-m=i by omega];grind
theorem F5 {n:Nat} {k:Nat->Rat} {t:Rat}:∀m,m<=n->fT n k t m=ev m (fun i=>k (n-m+i)) t
 |0,_=>rfl
 |m+1,h=>by
  rw[fT,F5 m (by omega),vU]
  rw[show n-(m+1)+0=n-1-m by omega,qU (l:=fun i=>k (n-(m+1)+(i+1))) fun i _=>by rw[show n-m+i=n-(m+1)+(i+1) by omega]]
  grind
theorem jw {a:PP} {t:Rat}:cC a t=ev a.1 a.2 t:=by
 unfold cC
 rw[F5 _ (Nat.le_refl _)]
 exact qU fun i _=>by rw[Nat.sub_self,Nat.zero_add]
def j7 (n:Nat) (k:Nat->Rat) (c:Rat) (i:Nat):Rat:=fT n k c (n-1-i)
theorem uT {k:Nat->Rat} {c t:Rat}:∀n,ev (n+1) k t=(t-c)*ev n (j7 (n+1) k c) t+ev (n+1) k c
 |0=>by simp only[ev,sg];grind
 |n+1=>by
  -- by the lowest coefficient
  have ih:=uT (k:=fun i=>k (i+1)) (c:=c) (t:=t) n
  have e1:∀m,m<=n+1->fT (n+1+1) k c m=fT (n+1) (fun i=>k (i+1)) c m:=fun m=>by
   induction m with
   |zero=>exact fun _=>rfl
   |succ m ihm=>
    intro hm
    rw[fT,fT,ihm (by omega),show n+1+1-1-m=n+1-1-m+1 by omega]
  have e2:ev (n+1) (j7 (n+1+1) k c) t=ev (n+1) (fun i=>k (i+1)) c+t*ev n (j7 (n+1) (fun i=>k (i+1)) c) t:=by
   rw[vU]
   congr 1
   ·unfold j7
    rw[show n+1+1-1-0=n+1 by omega,e1 (n+1) (Nat.le_refl _)]
    have:=jw (a:=(n+1,fun i=>k (i+1))) (t:=c)
    exact this
   ·congr 1
    refine qU fun i hi=>?_
    unfold j7
    rw[show n+1+1-1-(i+1)=n+1-1-i by omega,e1 _ (by omega)]
  rw[vU (n:=n+1) (t:=t),vU (n:=n+1) (t:=c),ih,e2]
  grind
theorem M0 {a b:Nat} (h:((a:Int):Rat)=((b:Int):Rat)):a=b:=by
 have:(a:Int)=(b:Int):=by exact_mod_cast h
 omega
theorem Jw:∀(n:Nat) (k:Nat->Rat) (s:Nat),(∀j,s<=j->j<s+n->ev n k ((j:Int):Rat)=0)->∀i,i<n->k i=0
 |0,_,_,_=>fun i hi=>absurd hi (Nat.not_lt_zero i)
 |n+1,k,s,h=>by
  have h0:=h s (Nat.le_refl _) (by omega)
  have hq:∀i,i<n->j7 (n+1) k ((s:Int):Rat) i=0:=Jw n _ (s+1) fun j h1 h2=>by
   have:=h j (by omega) (by omega)
   rw[uT (c:=((s:Int):Rat)),h0,Rat.add_zero]at this
   rcases Rat.mul_eq_zero.1 this with h3|h3
   ·have:((j:Int):Rat)=((s:Int):Rat):=by grind
    have:=M0 this
    omega
   ·exact h3
  have hh:∀m,m<=n->fT (n+1) k ((s:Int):Rat) m=0:=fun m hm=>by
   cases m with
   |zero=>rfl
   |succ m=>
    have:=hq (n-(m+1)) (by omega)
    unfold j7 at this
    rwa [show n+1-1-(n-(m+1))=m+1 by omega]at this
  have hl:fT (n+1) k ((s:Int):Rat) (n+1)=0:=by
   have:=jw (a:=(n+1,k)) (t:=((s:Int):Rat))
   exact this.trans h0
  intro i hi
  have e:fT (n+1) k ((s:Int):Rat) (n-i+1)=fT (n+1) k ((s:Int):Rat) (n-i)*((s:Int):Rat)+k (n+1-1-(n-i)):=rfl
  rw[hh (n-i) (by omega),Rat.zero_mul,Rat.zero_add,show n+1-1-(n-i)=i by omega]at e
  rw[<-e]
  rcases Nat.eq_zero_or_pos i with h1|h1
  ·subst h1;exact hl
  ·exact hh _ (by omega)
theorem QY {n:Nat} {k l:Nat->Rat} (h:∀t,ev n k t=ev n l t):∀i,i<n->k i=l i:=fun i hi=>by
 have:=Jw n (fun i=>k i+-1*l i) 0 (fun j _ _=>by
  rw[vv,pM (k:=l),h];grind) i hi
 grind
def eE (a:PP) (i:Nat):Rat:=if i<a.1 then a.2 i else 0
def aq (a:PP) (t:Rat):Rat:=ev a.1 a.2 t
theorem qP {a:PP} {t:Rat} {m:Nat} (h:a.1<=m):ev m (eE a) t=aq a t:=by
 rw[Oa (n:=a.1) (fun i h1 h2=>by unfold eE;rw[if_neg (by omega)]) h]
 exact qU fun i hi=>by unfold eE;rw[if_pos hi]
theorem rZ {a b:PP} (h:∀t,aq a t=aq b t):∀i,eE a i=eE b i:=fun i=>by
 by_cases hi:i<max a.1 b.1
 ·exact QY (n:=max a.1 b.1) (fun t=>by rw[qP (Nat.le_max_left _ _),qP (Nat.le_max_right _ _),h]) i hi
 ·unfold eE
  rw[if_neg (by omega),if_neg (by omega)]
theorem zL {a b:PP} (ha:Trim a) (h:∀i,eE a i=eE b i):a.1<=b.1:=by
 rcases ha with ha|ha
 ·omega
 ·rcases Nat.lt_or_ge b.1 a.1 with h1|h1
  ·have:=h (a.1-1)
   unfold eE at this
   rw[if_pos (by omega),if_neg (by omega)]at this
   exact absurd this ha
  ·exact h1
theorem AG {a b:PP} (ha:Trim a) (hb:Trim b) (h:∀t,aq a t=aq b t):jm a b:=by
 have hc:=rZ h
 have h1:=zL ha hc
 have h2:=zL hb fun i=>(hc i).symm
 refine⟨by omega,fun i hi=>?_⟩
 have:=hc i
 unfold eE at this
 rwa [if_pos hi,if_pos (by omega)]at this
theorem jm.ev {a b:PP} (h:jm a b) (t:Rat):aq a t=aq b t:=by
 unfold aq
 rw[<-h.1]
 exact qU h.2
theorem xR {n:Nat} {k:Nat->Rat} {t:Rat}:ev (cr k n) k t=ev n k t:=(Oa (fun i h1 h2=>Gk h1 h2) fU).symm
theorem SS {n e k:Nat} {d r:Nat->Rat} {t:Rat} (h:k+e<n):ev n (iC e d k r) t=ev n r t-r (k+e)/d e*(t^k*ev (e+1) d t):=by
 obtain⟨l,rfl⟩:∃l,n=k+(e+1)+l:=⟨n-(k+(e+1)),by omega⟩
 have h1:ev (k+(e+1)) (iC e d k r) t=ev (k+(e+1)) r t-r (k+e)/d e*(t^k*ev (e+1) d t):=by
  rw[<-acU (k:=d),Rat.sub_eq_add_neg,<-Rat.neg_mul,<-pM,<-vv]
  refine qU fun i hi=>?_
  unfold iC
  by_cases h2:k<=i
  ·rw[if_pos ⟨h2,by omega⟩,if_pos h2];grind
  ·rw[if_neg (by omega),if_neg h2,Rat.mul_zero,Rat.add_zero]
 have h2:∀(f:Nat->Rat),ev (k+(e+1)+l) f t=ev (k+(e+1)) f t+sg (fun i=>f (k+(e+1)+i)*t^(k+(e+1)+i)) l:=fun f=>B0
 rw[h2,h2 r,h1,iw (f:=fun i=>iC e d k r (k+(e+1)+i)*t^(k+(e+1)+i)) (g:=fun i=>r (k+(e+1)+i)*t^(k+(e+1)+i)) fun i _=>by unfold iC;rw[if_neg (by omega)]]
 grind
theorem Iy {n e R:Nat} {d a:Nat->Rat} {t:Rat} (hR:R=n-e):∀j,j<=R->ev n a t=ev n (cM e d a R j) t+ev R (fun k=>if k+j<R then 0 else fN e d a R k) t*ev (e+1) d t
 |0,_=>by
  rw[show ev R (fun k=>if k+0<R then 0 else fN e d a R k) t=0 from oU fun i hi=>by dsimp only;rw[if_pos (by omega),Rat.zero_mul],Rat.zero_mul,Rat.add_zero];rfl
 |j+1,hj=>by
  have ih:=Iy (t:=t) hR j (by omega) (d:=d) (a:=a)
  have e1:ev n (cM e d a R (j+1)) t=_:=SS (k:=R-1-j) (r:=cM e d a R j) (by omega)
  have e2:cM e d a R j (R-1-j+e)/d e=fN e d a R (R-1-j):=by unfold fN;rw[show R-1-(R-1-j)=j by omega]
  rw[e2]at e1
  have e3:ev R (fun k=>if k+(j+1)<R then 0 else fN e d a R k) t=ev R (fun k=>if k+j<R then 0 else fN e d a R k) t+fN e d a R (R-1-j)*t^(R-1-j):=by
   have:∀i,(if i+(j+1)<R then 0 else fN e d a R i)=(if i+j<R then 0 else fN e d a R i)+(if i=R-1-j then fN e d a R (R-1-j)else 0):=fun i=>by
    by_cases h1:i+(j+1)<R
    ·rw[if_pos h1,if_pos (by omega),if_neg (by omega),Rat.add_zero]
    ·rw[if_neg h1]
     by_cases h2:i=R-1-j
     ·rw[if_pos (by omega),if_pos h2,Rat.zero_add,h2]
     ·rw[if_neg (by omega),if_neg h2,Rat.add_zero]
   rw[show(fun k=>if k+(j+1)<R then 0 else fN e d a R k)=fun i=>(if i+j<R then 0 else fN e d a R i)+(if i=R-1-j then fN e d a R (R-1-j)else 0)from funext this,vv]
   congr 1
   -- a single power
   unfold ev
   rw[BR (n:=R-1-j+1) (fun i h1 h2=>by dsimp only;rw[if_neg (by omega),Rat.zero_mul]) (by omega),sg,oU fun i hi=>by dsimp only;rw[if_neg (by omega),Rat.zero_mul],Rat.zero_add]
   dsimp only
   rw[if_pos rfl]
  rw[e1,e3,ih]
  grind
theorem qi {a d:PP} (hd:0<d.1) (t:Rat):aq a t=aq (gJ a d) t*aq d t+aq (fe a d) t:=by
 have:=Iy (n:=a.1) (e:=d.1-1) (d:=d.2) (a:=a.2) (t:=t) rfl _ (Nat.le_refl _)
 rw[show d.1-1+1=d.1 by omega]at this
 have e1:aq (gJ a d) t=ev _ _ t:=xR
 have e2:aq (fe a d) t=ev _ _ t:=xR
 show ev a.1 a.2 t=aq (gJ a d) t*ev d.1 d.2 t+aq (fe a d) t
 rw[e1,e2,this]
 rw[qU (k:=fun k=>if k+(a.1-(d.1-1))<a.1-(d.1-1)then 0 else fN (d.1-1) d.2 a.2 (a.1-(d.1-1)) k) (l:=fN (d.1-1) d.2 a.2 (a.1-(d.1-1))) fun i hi=>if_neg (by omega)]
 grind
def cs:Nat->(Nat->Rat)->Rat->Rat
 |0,p,_=>p 0
 |m+1,p,t=>(1-t)*cs m p t+t*cs m (fun i=>p (i+1)) t
abbrev bq (n k:Nat):Rat:=((bn n k:Int):Rat)
theorem OW (n k:Nat):bq (n+1) (k+1)=bq n k+bq n (k+1):=by
 show((bn (n+1) (k+1):Int):Rat)=_
 rw[pT,Int.natCast_add,Rat.intCast_add]
theorem uK (n:Nat):bq n 0=1:=by show((bn n 0:Int):Rat)=1;rw[rq];rfl
theorem F4 {n k:Nat} (h:n<k):bq n k=0:=by show((bn n k:Int):Rat)=0;rw[oR h];rfl
theorem Mz {n k:Nat} (h:k<=n):bq n k≠0:=by
 intro h0
 have h1:((bn n k:Int):Rat).num=(0:Rat).num:=congrArg Rat.num h0
 rw[Rat.num_intCast,show(0:Rat).num=0 from rfl]at h1
 have:=BN h
 omega
theorem GB {p:Nat->Rat}:∀k i,gl p k (i+1)=gl (fun i=>p (i+1)) k i
 |0,_=>rfl
 |k+1,i=>by rw[gl,gl,GB (p:=p) k (i+1),GB (p:=p) k i]
theorem Ed:∀(m:Nat) (p:Nat->Rat) (t:Rat),ev (m+1) (fun k=>bq m k*gl p k 0) t=cs m p t
 |0,p,t=>by
  show 0+bq 0 0*p 0*t^0=p 0
  rw[uK,Rat.pow_zero];grind
 |m+1,p,t=>by
  have h1:=Ed m p t
  have h2:=Ed m (fun i=>p (i+1)) t
  rw[cs,<-h1,<-h2,vU (n:=m+1)]
  have e1:∀k,bq (m+1) (k+1)*gl p (k+1) 0=bq m (k+1)*gl p (k+1) 0+(bq m k*gl (fun i=>p (i+1)) k 0+-1*(bq m k*gl p k 0)):=fun k=>by
   rw[OW,<-GB]
   have:gl p (k+1) 0=gl p k 1-gl p k 0:=rfl
   rw[this];grind
  rw[show(fun i=>bq (m+1) (i+1)*gl p (i+1) 0)=fun k=>bq m (k+1)*gl p (k+1) 0+(bq m k*gl (fun i=>p (i+1)) k 0+-1*(bq m k*gl p k 0))from funext e1,vv,vv,pM]
  rw[Kn (k:=fun k=>bq m (k+1)*gl p (k+1) 0),F4 (Nat.lt_succ_self m),Rat.zero_mul,Rat.zero_mul,Rat.add_zero]
  rw[vU (k:=fun k=>bq m k*gl p k 0),uK,uK]
  have:gl p 0 0=p 0:=rfl
  rw[this]
  generalize ev m (fun i=>bq m (i+1)*gl p (i+1) 0) t=A
  generalize ev (m+1) (fun k=>bq m k*gl (fun i=>p (i+1)) k 0) t=B
  grind
theorem U3 {m:Nat} {p:Nat->Rat} {t:Rat}:ev (m+1) (gI (m+1) p) t=cs m p t:=Ed m p t
def hv (m:Nat) (u:Nat->Rat) (x y:Rat):Rat:=sg (fun i=>u i*(x^i*y^(m-i))) (m+1)
theorem xF:∀(m:Nat) (p:Nat->Rat) (t:Rat),hv m (fun i=>bq m i*p i) t (1-t)=cs m p t
 |0,p,t=>by
  show 0+bq 0 0*p 0*(t^0*(1-t)^0)=p 0
  rw[uK,Rat.pow_zero,Rat.pow_zero];grind
 |m+1,p,t=>by
  have h1:=xF m p t
  have h2:=xF m (fun i=>p (i+1)) t
  rw[cs,<-h1,<-h2]
  unfold hv
  rw[x7 (n:=m+1)]
  dsimp only
  rw[uK]
  have e1:∀i,i<m+1->bq (m+1) (i+1)*p (i+1)*(t^(i+1)*(1-t)^(m+1-(i+1)))=t*(bq m i*p (i+1)*(t^i*(1-t)^(m-i)))+bq m (i+1)*p (i+1)*(t^(i+1)*(1-t)^(m-i)):=fun i hi=>by
   rw[OW,show m+1-(i+1)=m-i by omega,Rat.pow_succ];grind
  rw[iw e1,rR,nv]
  have e2:sg (fun i=>bq m (i+1)*p (i+1)*(t^(i+1)*(1-t)^(m-i))) (m+1)=sg (fun i=>(1-t)*(bq m (i+1)*p (i+1)*(t^(i+1)*(1-t)^(m-(i+1))))) m:=by
   rw[sg,F4 (Nat.lt_succ_self m),Rat.zero_mul,Rat.zero_mul,Rat.add_zero]
   exact iw fun i hi=>by rw[show m-i=m-(i+1)+1 by omega,Rat.pow_succ (1-t)];grind
  rw[e2,nv,x7 (f:=fun i=>bq m i*p i*(t^i*(1-t)^(m-i))),uK,Rat.pow_zero,Nat.sub_zero,Nat.sub_zero,Rat.pow_succ]
  generalize sg (fun i=>bq m (i+1)*p (i+1)*(t^(i+1)*(1-t)^(m-(i+1)))) m=A
  generalize sg (fun i=>bq m i*p (i+1)*(t^i*(1-t)^(m-i))) (m+1)=B
  grind
def kT (m n:Nat) (u v:Nat->Rat) (k:Nat):Rat:=sg (fun i=>sg (fun j=>if i+j=k then u i*v j else 0) (n+1)) (m+1)
theorem Df {f:Nat->Rat} {i n:Nat} (hi:i<n) (h:∀j,j<n->j≠i->f j=0):sg f n=f i:=by
 rw[BR (n:=i+1) (fun j h1 h2=>h j h2 (by omega)) (by omega),sg,oU fun j hj=>h j (by omega) (by omega),Rat.zero_add]
theorem Gt {m n:Nat} {u v X:Nat->Rat}:sg (fun k=>kT m n u v k*X k) (m+n+1)=sg (fun i=>sg (fun j=>u i*v j*X (i+j)) (n+1)) (m+1):=by
 unfold kT
 have e1:∀k,sg (fun i=>sg (fun j=>if i+j=k then u i*v j else 0) (n+1)) (m+1)*X k=sg (fun i=>sg (fun j=>if i+j=k then u i*v j*X k else 0) (n+1)) (m+1):=fun k=>by
  rw[Rat.mul_comm,<-nv]
  refine iw fun i _=>?_
  rw[<-nv]
  refine iw fun j _=>?_
  by_cases h:i+j=k
  ·rw[if_pos h,if_pos h];grind
  ·rw[if_neg h,if_neg h,Rat.mul_zero]
 rw[iw fun k _=>e1 k,Az]
 refine iw fun i hi=>?_
 rw[Az]
 refine iw fun j hj=>?_
 rw[Df (i:=i+j) (by omega) fun k _ h=>if_neg fun h'=>h h'.symm,if_pos rfl]
theorem Xh {m n:Nat} {u v:Nat->Rat} {x y:Rat}:hv (m+n) (kT m n u v) x y=hv m u x y*hv n v x y:=by
 unfold hv
 rw[Gt (X:=fun k=>x^k*y^(m+n-k)),<-nv (f:=fun i=>v i*(x^i*y^(n-i)))]
 rw[show(fun i=>sg (fun i=>u i*(x^i*y^(m-i))) (m+1)*(v i*(x^i*y^(n-i))))=fun j=>sg (fun i=>v j*(x^j*y^(n-j))*(u i*(x^i*y^(m-i)))) (m+1)from funext fun j=>by rw[nv];grind]
 rw[<-Az]
 refine iw fun i hi=>iw fun j hj=>?_
 rw[show m+n-(j+i)=(m-j)+(n-i) by omega,pow_add',pow_add'];grind
def kq (m n:Nat) (p q:Nat->Rat) (k:Nat):Rat:=kT m n (fun i=>bq m i*p i) (fun j=>bq n j*q j) k/bq (m+n) k
theorem ZZ {m n:Nat} {p q:Nat->Rat} {t:Rat}:cs (m+n) (kq m n p q) t=cs m p t*cs n q t:=by
 rw[<-xF,<-xF,<-xF,<-Xh]
 unfold hv
 refine iw fun i hi=>?_
 show bq (m+n) i*kq m n p q i*_=kT _ _ _ _ i*_
 rw[show bq (m+n) i*kq m n p q i=kT m n (fun i=>bq m i*p i) (fun j=>bq n j*q j) i from by unfold kq;rw[Rat.mul_comm,Rat.div_mul_cancel (Mz (by omega))]]
def gE (a b:PP):PP:=(max a.1 b.1,fun i=>eE a i+eE b i)
def eM (r:Rat) (a:PP):PP:=(a.1,fun i=>r*a.2 i)
def bP (a b:PP):PP:=(a.1+b.1+1,kT a.1 b.1 (eE a) (eE b))
theorem iG {a b:PP} {t:Rat}:aq (gE a b) t=aq a t+aq b t:=by
 show ev (max a.1 b.1) (fun i=>eE a i+eE b i) t=_
 rw[vv,qP (Nat.le_max_left _ _),qP (Nat.le_max_right _ _)]
theorem dZ {r:Rat} {a:PP} {t:Rat}:aq (eM r a) t=r*aq a t:=pM
theorem Hf {m n:Nat} {f g:Nat->Rat}:sg (fun i=>sg (fun j=>f i*g j) n) m=sg f m*sg g n:=by
 rw[Rat.mul_comm,<-nv]
 exact iw fun i _=>by rw[nv,Rat.mul_comm]
theorem bQ {a b:PP} {t:Rat}:aq (bP a b) t=aq a t*aq b t:=by
 rw[<-qP (a:=a) (Nat.le_succ a.1),<-qP (a:=b) (Nat.le_succ b.1)]
 show sg (fun k=>kT a.1 b.1 (eE a) (eE b) k*t^k) (a.1+b.1+1)=_
 rw[Gt (X:=fun k=>t^k)]
 unfold ev
 rw[<-Hf]
 exact iw fun i _=>iw fun j _=>by rw[pow_add'];grind
def dX (t:Rat) (i:Nat):Rat:=((i:Int):Rat)*t^(i-1)
theorem Y4 {t:Rat} {i j:Nat}:dX t (i+j)=dX t i*t^j+t^i*dX t j:=by
 unfold dX
 cases i with
 |zero=>
  rw[Nat.zero_add,Rat.pow_zero,show((0:Nat):Int)=0 from rfl,show((0:Int):Rat)=0 from rfl];grind
 |succ i=>
  cases j with
  |zero=>rw[Nat.add_zero,Rat.pow_zero,show((0:Nat):Int)=0 from rfl,show((0:Int):Rat)=0 from rfl];grind
  |succ j=>
   rw[show i+1+(j+1)-1=i+(j+1) by omega,show i+1-1=i by omega,show j+1-1=j by omega,show((i+1+(j+1):Nat):Int)=((i+1:Nat):Int)+((j+1:Nat):Int) by omega,Rat.intCast_add,pow_add',Rat.pow_succ,Rat.pow_succ];grind
def cV (a:PP) (t:Rat):Rat:=sg (fun i=>a.2 i*dX t i) a.1
theorem uM {a:PP} {t:Rat} {m:Nat} (h:a.1<=m):sg (fun i=>eE a i*dX t i) m=cV a t:=by
 rw[BR (n:=a.1) (fun i h1 h2=>by unfold eE;rw[if_neg (by omega),Rat.zero_mul]) h]
 exact iw fun i hi=>by unfold eE;rw[if_pos hi]
theorem fF {a:PP} {t:Rat}:aq (bh a) t=cV a t:=by
 have e1:aq (bh a) t=ev (a.1-1) (dF a.2) t:=xR
 rw[e1]
 unfold cV
 rcases Nat.eq_zero_or_pos a.1 with h|h
 ·rw[h];rfl
 ·obtain⟨n,hn⟩:∃n,a.1=n+1:=⟨a.1-1,by omega⟩
  rw[hn,x7,show n+1-1=n by omega]
  have:dX t 0=0:=by unfold dX;rw[show((0:Nat):Int)=0 from rfl,show((0:Int):Rat)=0 from rfl,Rat.zero_mul]
  rw[this,Rat.mul_zero,Rat.zero_add]
  refine iw fun i _=>?_
  unfold dF dX
  rw[show i+1-1=i by omega];grind
theorem MG {a b:PP} (h:∀t,aq a t=aq b t) (t:Rat):cV a t=cV b t:=by
 rw[<-uM (Nat.le_max_left a.1 b.1),<-uM (Nat.le_max_right a.1 b.1)]
 exact iw fun i _=>by rw[rZ h i]
theorem ku {a b c:PP} (h:∀t,aq c t=aq a t*aq b t) (t:Rat):cV c t=cV a t*aq b t+aq a t*cV b t:=by
 rw[MG (b:=bP a b) (fun t=>by rw[h,bQ]) t]
 show sg (fun k=>kT a.1 b.1 (eE a) (eE b) k*dX t k) (a.1+b.1+1)=_
 rw[Gt (X:=dX t),<-uM (a:=a) (Nat.le_succ a.1),<-uM (a:=b) (Nat.le_succ b.1),<-qP (a:=a) (Nat.le_succ a.1),<-qP (a:=b) (Nat.le_succ b.1)]
 unfold ev
 rw[<-Hf,<-Hf,<-rR]
 refine iw fun i _=>?_
 rw[<-rR]
 exact iw fun j _=>by rw[Y4];grind
def Dv (h a:PP):Prop:=∃w:PP,∀t,aq a t=aq h t*aq w t
def fJ:PP:=(1,fun _=>1)
theorem gH {t:Rat}:aq fJ t=1:=by show 0+1*t^0=1;rw[Rat.pow_zero];grind
theorem Dv.refl (a:PP):Dv a a:=⟨fJ,fun t=>by rw[gH,Rat.mul_one]⟩
theorem Dv.of_eq {h a b:PP} (hd:Dv h a) (e:∀t,aq a t=aq b t):Dv h b:=hd.imp fun w hw t=>by rw[<-e,hw]
theorem Dv.trans {a b c:PP} (h1:Dv a b) (h2:Dv b c):Dv a c:=by
 obtain⟨v,hv⟩:=h1
 obtain⟨w,hw⟩:=h2
 exact⟨bP v w,fun t=>by rw[hw,hv,bQ,Rat.mul_assoc]⟩
theorem Dv.comb {h a b c u v:PP} (ha:Dv h a) (hb:Dv h b) (e:∀t,aq c t=aq u t*aq a t+aq v t*aq b t):Dv h c:=by
 obtain⟨x,hx⟩:=ha
 obtain⟨y,hy⟩:=hb
 exact⟨gE (bP u x) (bP v y),fun t=>by rw[e,hx,hy,iG,bQ,bQ];grind⟩
theorem Dv.qT {h a:PP} (ha:Dv h a) (r:Rat) {b:PP} (e:∀t,aq b t=r*aq a t):Dv h b:=by
 obtain⟨x,hx⟩:=ha
 exact⟨eM r x,fun t=>by rw[e,hx,dZ];grind⟩
theorem Dv.rem {h a d:PP} (hd:0<d.1) (h1:Dv h a) (h2:Dv h d):Dv h (fe a d):=
 Dv.comb (u:=fJ) (v:=eM (-1) (gJ a d)) h1 h2 fun t=>by rw[qi (a:=a) hd t,gH,dZ];grind
theorem zJ {a:PP} {t:Rat}:aq (gq a) t=(a.2 (a.1-1))⁻¹*aq a t:=by
 show ev a.1 (cT a.1 a.2) t=_
 rw[show aq a t=ev a.1 a.2 t from rfl,<-pM]
 exact qU fun i _=>by unfold cT;rw[Rat.div_def,Rat.mul_comm]
theorem AU {a:PP} (ha:Trim a) {t:Rat}:aq a t=a.2 (a.1-1)*aq (gq a) t:=by
 rw[zJ,<-Rat.mul_assoc]
 rcases ha with h|h
 ·have:aq a t=0:=by show ev a.1 a.2 t=0;rw[h];rfl
  rw[this,Rat.mul_zero]
 ·rw[Rat.mul_inv_cancel _ h,Rat.one_mul]
theorem Dv.cT {h a:PP} (h1:Dv h a):Dv h (gq a):=h1.qT _ fun _=>zJ
theorem Dv.Ih {h a:PP} (ha:Trim a) (h1:Dv h (gq a)):Dv h a:=h1.qT _ fun _=>AU ha
theorem Lx {h:PP} {s:PP×PP} (h1:Dv h s.1) (h2:Dv h s.2):∀j,Dv h (ct s j).1/\Dv h (ct s j).2
 |0=>⟨h1,h2⟩
 |j+1=>by
  obtain⟨i1,i2⟩:=Lx h1 h2 j
  show Dv h (gN _).1/\Dv h (gN _).2
  unfold gN
  by_cases h0:(ct s j).2.1=0
  ·rw[if_pos h0];exact⟨i1,i2⟩
  ·rw[if_neg h0];exact⟨i2,(i1.rem (by omega) i2).cT⟩
theorem qM {h a b:PP} (h1:Dv h a) (h2:Dv h b):Dv h (bL a b):=(Lx (s:=(a,b)) h1 h2 _).1.cT
theorem Gv {h:PP} {s:PP×PP} (t1:Trim s.1) (t2:Trim s.2):∀j,Dv h (ct s j).1->Dv h (ct s j).2->Dv h s.1/\Dv h s.2
 |0,h1,h2=>⟨h1,h2⟩
 |j+1,h1,h2=>by
  have h1:Dv h (gN (ct s j)).1:=h1
  have h2:Dv h (gN (ct s j)).2:=h2
  unfold gN at h1 h2
  by_cases h0:(ct s j).2.1=0
  ·rw[if_pos h0]at h1 h2;exact Gv t1 t2 j h1 h2
  ·rw[if_neg h0]at h1 h2
   refine Gv t1 t2 j (Dv.comb (u:=gJ (ct s j).1 (ct s j).2) (v:=fJ) h1 (h2.Ih sW) fun t=>?_) h1
   rw[gH,Rat.one_mul]
   exact qi (a:=(ct s j).1) (d:=(ct s j).2) (by omega) t
theorem iF {a:PP} (h:a.1=0) (t:Rat):aq a t=0:=by show ev a.1 a.2 t=0;rw[h];rfl
theorem l9 {a b:PP} (t1:Trim a) (t2:Trim b):Dv (bL a b) a/\Dv (bL a b) b:=by
 have h0:(ct (a,b) b.1).2.1=0:=by have:=BE (s:=(a,b)) t1 t2 b.1;dsimp only at this;omega
 have ht:=mH (s:=(a,b)) t1 t2 b.1
 refine Gv (s:=(a,b)) t1 t2 b.1 (Dv.Ih ht.1 (Dv.refl _)) ⟨(0,fun _=>0),fun t=>?_⟩
 rw[iF h0,iF (a:=(0,fun _=>(0:Rat))) rfl,Rat.mul_zero]
theorem DX {a:PP} (h:0<a.1) (ht:Trim a):eE a (a.1-1)≠0:=by
 unfold eE
 rw[if_pos (by omega)]
 rcases ht with h'|h'
 ·omega
 ·exact h'
theorem H9 {a b:PP} (ha:0<a.1) (hb:0<b.1) (ta:Trim a) (tb:Trim b):eE (bP a b) (a.1-1+(b.1-1))≠0:=by
 have e:eE (bP a b) (a.1-1+(b.1-1))=kT a.1 b.1 (eE a) (eE b) (a.1-1+(b.1-1)):=by
  show(if _<a.1+b.1+1 then _ else _)=_
  rw[if_pos (by omega)];rfl
 rw[e]
 unfold kT
 have z:∀{c:PP} {i:Nat},c.1<=i->eE c i=0:=fun h=>by unfold eE;rw[if_neg (by omega)]
 rw[Df (i:=a.1-1) (by omega) fun i hi hne=>oU fun j hj=>by
  by_cases h:i+j=a.1-1+(b.1-1)
  ·rw[if_pos h]
   by_cases h2:a.1<=i
   ·rw[z h2,Rat.zero_mul]
   ·rw[z (c:=b) (i:=j) (by omega),Rat.mul_zero]
  ·rw[if_neg h],Df (i:=b.1-1) (by omega) fun j hj hne=>if_neg (by omega),if_pos rfl]
 exact fun h0=>(Rat.mul_eq_zero.1 h0).elim (DX ha ta) (DX hb tb)
def b9 (a:PP):PP:=(cr a.2 a.1,a.2)
theorem dP {a:PP} (t:Rat):aq (b9 a) t=aq a t:=xR
theorem eZ {a:PP}:Trim (b9 a):=mU
theorem ri {a b c:PP} (h:∀t,aq c t=aq a t*aq b t) (hc:0<c.1) (tc:Trim c) (ta:Trim a) (tb:Trim b):0<a.1/\0<b.1/\c.1=a.1-1+(b.1-1)+1:=by
 have h0:¬∀t,aq c t=aq (0,fun _=>0) t:=fun h1=>by
  have:=zL tc fun i=>rZ h1 i
  dsimp only at this;omega
 have ha:0<a.1:=by
  rcases Nat.eq_zero_or_pos a.1 with h1|h1
  ·exact absurd (fun t=>by rw[h,iF h1,iF (a:=(0,fun _=>(0:Rat))) rfl,Rat.zero_mul]) h0
  ·exact h1
 have hb:0<b.1:=by
  rcases Nat.eq_zero_or_pos b.1 with h1|h1
  ·exact absurd (fun t=>by rw[h,iF h1,iF (a:=(0,fun _=>(0:Rat))) rfl,Rat.mul_zero]) h0
  ·exact h1
 have hcf:∀i,eE c i=eE (bP a b) i:=rZ fun t=>by rw[h,bQ]
 refine⟨ha,hb,?_⟩
 have h1:a.1-1+(b.1-1)<c.1:=by
  rcases Nat.lt_or_ge (a.1-1+(b.1-1)) c.1 with h2|h2
  ·exact h2
  ·exact absurd (by rw[<-hcf];unfold eE;rw[if_neg (by omega)]) (H9 ha hb ta tb)
 have h2:¬a.1-1+(b.1-1)+1<c.1:=fun h3=>by
  have:=DX hc tc
  rw[hcf]at this
  refine this ?_
  show(if _<a.1+b.1+1 then kT a.1 b.1 (eE a) (eE b) (c.1-1)else 0)=0
  split
  ·unfold kT
   refine oU fun i hi=>oU fun j hj=>?_
   have z:∀{c:PP} {i:Nat},c.1<=i->eE c i=0:=fun h=>by unfold eE;rw[if_neg (by omega)]
   by_cases h4:i+j=c.1-1
   ·rw[if_pos h4]
    by_cases h5:a.1<=i
    ·rw[z h5,Rat.zero_mul]
    ·rw[z (c:=b) (i:=j) (by omega),Rat.mul_zero]
   ·rw[if_neg h4]
  ·rfl
 omega
theorem Dv.len {h g:PP} (hd:Dv h g) (hg:0<g.1) (tg:Trim g) (th:Trim h):h.1<=g.1:=by
 obtain⟨w,hw⟩:=hd
 have:=ri (b:=b9 w) (fun t=>by rw[hw,dP]) hg tg th eZ
 omega
structure kO (c h f:PP):Prop where
 eq:∀t,aq c t=aq h t*aq f t
 dv:Dv h (bh c)
theorem kO.one:kO fJ fJ fJ:=⟨fun t=>by rw[gH,Rat.mul_one],⟨bh fJ,fun t=>by rw[gH,Rat.one_mul]⟩⟩
theorem kO.LK {c h f q c':PP} (s:kO c h f) (e:∀t,aq c' t=aq c t*aq q t):kO c' h (bP f q):=
 ⟨fun t=>by rw[e,s.eq,bQ,Rat.mul_assoc],Dv.comb (u:=q) (v:=bh q) s.dv ⟨f,s.eq⟩ fun t=>by rw[fF,ku e,fF,fF];grind⟩
theorem kO.aeS {c h f q c':PP} (s:kO c h f) (e:∀t,aq c' t=aq c t*aq q t*aq q t):kO c' (bP h q) (bP f q):=by
 refine⟨fun t=>by rw[e,s.eq,bQ,bQ];grind,?_⟩
 obtain⟨w,hw⟩:=s.dv
 refine⟨gE (bP w q) (eM 2 (bP f (bh q))),fun t=>?_⟩
 have e1:∀t,aq (bP c q) t=aq c t*aq q t:=fun t=>bQ
 have e2:∀t,aq c' t=aq (bP c q) t*aq q t:=fun t=>by rw[e,e1]
 have hw':cV c t=aq h t*aq w t:=by rw[<-fF];exact hw t
 rw[fF,ku e2,ku e1,e1,hw',iG,dZ,bQ,bQ,bQ,fF,s.eq]
 grind
theorem afA {c h f:PP} (s:kO c h f) (hc:0<c.1) (tc:Trim c):(aW c).1<=(b9 f).1:=by
 obtain⟨h1,h2,h3⟩:=ri (a:=b9 h) (b:=b9 f) (fun t=>by rw[s.eq,dP,dP]) hc tc eZ eZ
 have hd:Dv h c:=⟨f,s.eq⟩
 have hg:Dv (b9 h) (bL c (bh c)):=by
  have:=qM hd s.dv
  exact this.imp fun w hw t=>by rw[hw,dP]
 have hl:=hg.len (mP hc) (j8 tc dS) eZ
 unfold aW
 rw[if_neg (by omega)]
 show cr _ _<=_
 refine Nat.le_trans fU ?_
 omega
end Go.Am
