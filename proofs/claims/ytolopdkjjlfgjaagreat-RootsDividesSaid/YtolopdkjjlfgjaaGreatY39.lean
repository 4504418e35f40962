/- ref06.value, changes, between; ref05.Variations. -/
import Derived.Test.YtolopdkjjlfgjaaGreatY38
import Derived.Test.YtolopdkjjlfgjaaGreatY37
import Derived.Test.YtolopdkjjlfgjaaGreatZ2
set_option linter.unusedVariables false
noncomputable section
namespace Go.Am.B
open Go Go.Am.N AV af aq IntKind Proofs.Tryz
abbrev uP:Code:=aH f76
abbrev uA:List Nat:=[0,3,4,5,6]
abbrev A6 (a:PP) (i:Nat):List AV:=[aI a,.ptr 0 0 3 0 [],.ptr 1 0 3 0 [],.ptr 2 0 3 0 [],.int .i64 ((a.1:Int)-1-(i:Int))]
abbrev v8:Code:=aH f161
abbrev rO:List Nat:=[0,3,4,5]
abbrev vg (a:PP) (m:Nat) (l:Int) (i:Nat):List AV:=[aI a,.int .i64 m,.int .i64 l,.int .i64 i]
def fM (a:PP) (i:Nat):Int:=dn (a.2 i)
def KI:Spec:=dA (kC (kL ag) kN) (fun a=>.int .i64 ((bY (fM a.1) a.1.1).2:Nat)) fun a=>[a.1.1<2^40]
def AK:bh:=zG::(76,pK)::(161,KI)::gV
abbrev xL:Code:=aH f124
abbrev vq:List Nat:=[0,3,5,6]
abbrev DA (n:Nat) (c:Nat->PP) (i:Nat):List AV:=[ec n c,.ptr 0 0 3 0 [],.own 1 3 0 i,.int .i64 i]
def Is:Spec:=dA (kC mz (kC (fP ag) kN)) (fun a=>.int .i64 ((bY (cI a.1.2 a.2.1) a.1.1).2:Nat)) fun a=>[a.1.1<2^30,dz a.1.1 a.1.2 a.2.1]
def Gn:bh:=nG::(124,Is)::(76,pK)::gV
theorem Wp:aX 76 f76:=aZ func76
theorem T9:aX 161 f161:=aZ func161
theorem UC:aX 124 f124:=aZ func124
theorem ad1:aX 62 f62:=aZ func62
theorem Nd {a:PP} {t:Rat}:aG T ke [] 60 uA (before uP [1,1,0,1]) ⟨aT 0 [aI a,.rat t ag],[],0⟩=
  let c2:Int:=(↑a.fst:Int)-1;let c1:ax:=fL fun x=>rat 0 1;some (aj [-(2:Int)^63<=c2/\c2<2^63] (leaf normal ([ak 3 a.fst fun i=>rat (a.snd i) ag,ptr 0 0 (dN (rat t ag)).size 0 [],ptr 4096 0 3 0 [],ptr 8192 0 3 0 [],int i64 c2],[((8192:Nat),c1),((4096:Nat),c1),(0,ax.mk false true (dN (rat t ag)).size 1 fun x=>rat t ag)]))):=ah
theorem ZR {a:PP} {t x:Rat} {i:Nat}:aG T ke [11] 60 uA [part uP [1,1,0,1,0,0]] ⟨aC uA (A6 a i),pe t x,3⟩=
  let c8:Prop:=0<1;let c7:AV:=ptr 2 0 3 0 [];let c6:AV:=ptr 1 0 3 0 [];let c5:AV:=ptr 0 0 3 0 [];let c4:Nat:=2^41;let c3:AV:=ak 3 a.fst fun i=>rat (a.snd i) ag;let c2:List (Nat×ax):=[((1:Nat),fL fun x=>rat 0 1),((0:Nat),fL fun x=>rat t ag)];let c1:Int:=(↑a.fst:Int)-1-(↑i:Int);let c9:Int:=c1-1;some (fork (decide (c1>=0)) (aj [c8,c8,ag<c4,ag<c4,(0:Int)<=c1/\c1.toNat<a.fst,ag+ag<c4,ag<c4,c8] (aj [-(2:Int)^63<=c9/\c9<2^63] (leaf normal ([c3,c5,c6,c7,int i64 c9],((2:Nat),fL fun j=>if(j==0)=true then dN (wY (x*t,ag+ag) (a.snd c1.toNat,ag))else rat x ag)::c2)))) (leaf (exit 0) ([c3,c5,c6,c7,int i64 c1],((2:Nat),fL fun x_1=>rat x ag)::c2))):=ah
theorem Va {a:PP} {t x:Rat} {i:Nat}:cA T ke [] 60 f76 [part uP [1,1,1]] ⟨aC uA (A6 a i),pe t x,3⟩=
  let c1:Prop:=0<1;some (aj [c1,c1] (aj [c1] (leaf ret [rat x ag]))):=ah
theorem Y3 {a:PP}:aG T ke [] 60 rO (before v8 [1,1,0,1]) ⟨aT 0 [aI a],[],0⟩=
  let c1:AV:=int i64 0;some (leaf normal ([ak 3 a.fst fun i=>rat (a.snd i) ag,c1,c1,c1],[])):=ah
theorem X6 {a:PP} {m i:Nat} {l:Int}:aG T ke [10,19,22,26] 60 rO [part v8 [1,1,0,1,0,0]] ⟨aC rO (vg a m l i),[],0⟩=
  let c11:Bool:=l !=(0:Int);let c8:Int:=(↑m:Int)+1;let c7:AV:=int i64 (↑m:Int);let c6:Int:=(2:Int)^63;let c5:Int:=(↑i:Int);let c3:AV:=ak 3 a.fst fun i=>rat (a.snd i) ag;let c10:Int:=c5+1;let c9:Int:=dn (a.snd c5.toNat);let c4:List AV:=[int i64 c9,int i64 c10];let c2:List Prop:=[-c6<=c10/\c10<c6];let c1:af (List AV×aE):=aj [-c6<=c8/\c8<c6] (aj c2 (leaf normal (c3::int i64 c8::c4,[])));some (fork (decide (c5<(↑a.fst:Int))) (aj [(0:Int)<=c5/\c5.toNat<a.fst,ag<2^41] (fork (c9==0) (aj c2 (leaf normal ([c3,c7,int i64 l,int i64 c10],[]))) (fork c11 (aj [c11=true] (fork (bif true then c9 !=l else false) c1 (aj c2 (leaf normal (c3::c7::c4,[]))))) (aj [c11=false] (fork false c1 (aj c2 (leaf normal (c3::c7::c4,[])))))))) (leaf (exit 0) ([c3,c7,int i64 l,int i64 c5],[]))):=ah
theorem PS {a:PP} {m i:Nat} {l:Int}:cA T ke [] 60 f161 [part v8 [1,1,1]] ⟨aC rO (vg a m l i),[],0⟩=
  some (leaf ret [int i64 (↑m:Int)]):=ah
theorem Uu {n:Nat} {c:Nat->PP} {t:Rat}:aG T AK [] 60 vq (before xL [1,1,0,1]) ⟨aT 0 [ec n c,.rat t ag],[],0⟩=
  some (leaf normal ([ak 1 n fun i=>ak 3 (c i).fst fun i_1=>rat ((c i).snd i_1) ag,ptr 0 0 (dN (rat t ag)).size 0 [],nil,int i64 0],[(0,ax.mk false true (dN (rat t ag)).size 1 fun x=>rat t ag)])):=ah
theorem aaw {n i:Nat} {c:Nat->PP} {t:Rat} {x:Nat->Rat}:aG T AK [10] 60 vq [part xL [1,1,0,1,0,0]] ⟨aC vq (DA n c i),[(0,tR t ag),(1,bT i x ag)],2⟩=
  let c5:AV:=ptr 0 0 3 0 [];let c3:Nat×ax:=((0:Nat),fL fun x=>rat t ag);let c2:AV:=ak 1 n fun i=>ak 3 (c i).fst fun i_1=>rat ((c i).snd i_1) ag;let c1:Int:=(↑i:Int);let c7:Int:=c1+1;let c6:PP:=c c1.toNat;let c4:Nat×(Nat->Rat):=(c6.fst,fun i=>aS (rat (c6.snd i) ag));some (fork (decide (c1<(↑n:Int))) (aj [(0:Int)<=c1/\c1.toNat<n,(0:Nat)<1,cF (fun i=>rat (c6.snd i) ag) c6.fst ag,ag<=ag,c6.fst<2^40,jL c4 t,(1:Nat)*3<=2^24,(i+1)*((56:Nat)+1)*2<=2^47] (aj [-(2:Int)^63<=c7/\c7<2^63] (leaf normal ([c2,c5,own 49154 3 0 (i+1),int i64 c7],[(49154,ax.mk true true 3 (i+1) fun i_1=>if i_1<i then rat (x i_1) ag else nth [rat (eF c4 t) ag] (rat 0 1) (i_1-i+0)),c3])))) (leaf (exit 0) ([c2,c5,own 1 3 0 i,int i64 c1],[(1,ax.mk true true 3 i fun i=>rat (x i) ag),c3]))):=ah
theorem Y5 {n i:Nat} {c:Nat->PP} {t:Rat} {x:Nat->Rat}:cA T AK [] 60 f124 [part xL [1,1,1]] ⟨aC vq (DA n c i),[(0,tR t ag),(1,bT i x ag)],2⟩=
  some (aj [cF (fun i=>rat (x (i+0)) ag) i ag,i<2^40] (leaf ret [int i64 (↑(bY (fM (i,fun i=>aS (rat (x (i+0)) ag))) i).snd:Int)])):=ah
theorem RG {n:Nat} {c:Nat->PP} {x y:Rat}:bR T Gn [21] 60 f62 (aH f62) ⟨aT 0 [ec n c,.rat x ag,.rat y ag],[],0⟩=
  let c7:Prop:=n<2^30;let c4:Prop:=0<1;let c3:Int:=(2:Int)^63;let c2:PP:=c (Int.toNat (0:Int));let c1:Int:=(↑(bY (cI (fun i=>cL (aI (c i))) x) n).snd:Int)-(↑(bY (cI (fun i=>cL (aI (c i))) y) n).snd:Int);let c6:Int:=c1-1;let c5:Nat×(Nat->Rat):=(c2.fst,fun i=>aS (rat (c2.snd i) ag));some (aj [c4,∀(i:Nat),i<n->bA (aI (c i)) (aI (cL (aI (c i)))),ag<=ag,c7,dz n (fun i=>cL (aI (c i))) x,c4,∀(i:Nat),i<n->bA (aI (c i)) (aI (cL (aI (c i)))),ag<=ag,c7,dz n (fun i=>cL (aI (c i))) y,-c3<=c1/\c1<c3] (aj [(0:Int)<=0/\Int.toNat (0:Int)<n,c4,cF (fun i=>rat (c2.snd i) ag) c2.fst ag,ag<=ag,c2.fst<2^40,jL c5 y,ag<2^41] (fork (dn (eF c5 y)==0) (aj [-c3<=c6/\c6<c3] (leaf ret [int i64 c6])) (leaf ret [int i64 c1])))):=ah
theorem adM {a:PP} {t:Rat} (hn:a.1<2^40) (hz:jL a t) (K:Nat):aP P 76 K [aI a,.rat t ag] [] (aK (.rat (eF a t) ag) []):=by
 have hW:=cW
 refine iG (r:=aK (.rat (eF a t) ag) []) hT u6 hm Wp rfl aW rfl [1,1,0,1] (i:=0) (y:=part uP [1,1,0,1,0,0]) (z:=part uP [1,1,1]) ah ah ah (f1:=[]) (f2:=[11]) (f3:=[]) 60 uA 3
  (fun i:Nat=>A6 a i) (fun i=>pe t (eR a.1 a.2 t i)) (fun i=>i<=a.1) (fun i=>i=a.1) (fun i=>a.1-i) (fun _=>⟨⟨_,Nd,?_⟩,fun i hi=>⟨_,ZR,?_⟩,fun i hi=>⟨_,Va,?_⟩⟩) K []
 ·simp only[af.all,aA]
  exact⟨aa,0,Nat.zero_le _,[(0,0),(1,4096),(2,8192)],rfl,by rw[show(a.1:Int)-1=(a.1:Int)-1-((0:Nat):Int) by omega];rfl,rfl,jt rfl rfl (.inr ⟨rfl,dy rfl aa⟩) (dh (dh trivial))⟩
 ·simp only[af.all,aA,bw,bB]
  refine⟨fun h=>?_,fun h=>⟨rfl,i,aa,[(0,0),(1,1),(2,2)],rfl,rfl,rfl,dh (dh (dh trivial))⟩⟩
  rw[show((a.1:Int)-1-(i:Int)).toNat=a.1-1-i by omega]
  exact⟨aa,aa,i+1,aa,by dsimp only;omega,[(0,0),(1,1),(2,2)],rfl,by rw[show(a.1:Int)-1-(i:Int)-1=(a.1:Int)-1-((i+1:Nat):Int) by omega];rfl,rfl,jt rfl rfl (.inr ⟨rfl,dK rfl (hz (i+1) aa)⟩) (dh (dh trivial))⟩
 ·subst hi
  simp only[af.all,aA]
  exact⟨⟨aa,aa⟩,aa,.refl _⟩
theorem LF:bf P pK 76:=cR fun⟨a,t,_⟩ K hn=>adM hn.1 hn.2 K
theorem Gy {a:PP} (i:Nat):-1<=fM a i/\fM a i<=1:=MP _
theorem Wk {a:PP} (hn:a.1<2^40) (K:Nat):aP P 161 K [aI a] [] (aK (.int .i64 ((bY (fM a) a.1).2:Nat)) []):=by
 have hW:=cW
 refine iG (r:=aK (.int .i64 ((bY (fM a) a.1).2:Nat)) []) hT u6 hm T9 rfl aW rfl [1,1,0,1] (i:=0) (y:=part v8 [1,1,0,1,0,0]) (z:=part v8 [1,1,1]) ah ah ah (f1:=[]) (f2:=[10,19,22,26]) (f3:=[]) 60 rO 0
  (fun i:Nat=>vg a (bY (fM a) i).2 (bY (fM a) i).1 i) (fun _=>[]) (fun i=>i<=a.1) (fun i=>i=a.1) (fun i=>a.1-i) (fun _=>⟨⟨_,Y3,?_⟩,fun i hi=>⟨_,X6,?_⟩,fun i hi=>⟨_,PS,?_⟩⟩) K []
 ·simp only[af.all]
  exact⟨0,Nat.zero_le _,dx.vals rfl⟩
 ·obtain⟨h1,h2⟩:=qx (s:=fM a) Gy i
  have h3:=Gy (a:=a) i
  have e2:(bY (fM a) (i+1)).1=if fM a i=0 then(bY (fM a) i).1 else fM a i:=rfl
  have e3:(bY (fM a) (i+1)).2=if fM a i*(bY (fM a) i).1<0 then(bY (fM a) i).2+1 else(bY (fM a) i).2:=rfl
  have re:∀{l:Int} {m:Int},l=(bY (fM a) (i+1)).1->m=((bY (fM a) (i+1)).2:Nat)->dx [] ([aI a,.int .i64 m,.int .i64 l,.int .i64 ((i:Int)+1)],[]) (vg a (bY (fM a) (i+1)).2 (bY (fM a) (i+1)).1 (i+1)) [] 0:=fun {l m} hl hm=>by
   subst hl hm
   rw[show(i:Int)+1=((i+1:Nat):Int) by omega]
   exact dx.vals rfl
  have e4:dn (a.2 i)=fM a i:=rfl
  have hneg:∀{x y:Int},(-1<=x/\x<=1)->(-1<=y/\y<=1)->x≠0->(x*y<0↔y≠0/\x≠y):=fun {x y} hx hy h0=>by
   rcases(show x=-1\/x=1 by omega)with rfl|rfl<;>omega
  simp only[af.all,aA,bw,bB,bu,bne_iff_ne,ne_eq,bne_eq_false_iff_eq,beq_iff_eq,beq_eq_false_iff_ne,cond_true,cond_false,e4]
  have nx:∀{l:Int} {m:Int},(i:Int)<a.1->l=(bY (fM a) (i+1)).1->m=((bY (fM a) (i+1)).2:Nat)->Round [] (fun i:Nat=>vg a (bY (fM a) i).2 (bY (fM a) i).1 i) (fun _=>[]) 0 (fun i=>i<=a.1) (fun i=>i=a.1) (fun i=>a.1-i) 0 (nT f161 rO (.int .i64 ((bY (fM a) a.1).2:Nat))) i .normal ([aI a,.int .i64 m,.int .i64 l,.int .i64 ((i:Int)+1)],[]):=fun {l m} h hl hm=>⟨i+1,aa,by dsimp only;omega,re hl hm⟩
  refine⟨fun h=>⟨⟨aa,aa⟩,fun h0=>⟨aa,nx h (by rw[e2,if_pos h0]) (by rw[e3,if_neg (by rw[h0,Int.zero_mul];omega)])⟩,fun h0=>⟨fun h5=>⟨h5,fun h6=>⟨aa,aa,nx h (by rw[e2,if_neg h0]) (by rw[e3,if_pos ((hneg h3 h1 h0).2 ⟨h5,h6⟩)];omega)⟩,fun h6=>⟨aa,nx h (by rw[e2,if_neg h0]) (by rw[e3,if_neg fun h7=>((hneg h3 h1 h0).1 h7).2 h6])⟩⟩,fun h5=>⟨h5,fun hf=>absurd hf (by decide),fun _=>⟨aa,nx h (by rw[e2,if_neg h0]) (by rw[e3,if_neg fun h7=>((hneg h3 h1 h0).1 h7).1 h5])⟩⟩⟩⟩,fun h=>⟨rfl,i,aa,dx.vals rfl⟩⟩
 ·subst hi;exact .refl _
theorem Xu:bf P KI 161:=cR fun⟨a,_⟩ K hn=>Wk hn K
theorem Rx:bI P AK:=fD (aL LF (aL Xu iu))
theorem Xs {n:Nat} {c:Nat->PP} {t:Rat} (hn:n<2^30) (hz:dz n c t) (K:Nat):aP P 124 K [ec n c,.rat t ag] [] (aK (.int .i64 ((bY (cI c t) n).2:Nat)) []):=by
 have hW:=cW
 refine iG (r:=aK (.int .i64 ((bY (cI c t) n).2:Nat)) []) hT Rx hm UC rfl aW rfl [1,1,0,1] (i:=0) (y:=part xL [1,1,0,1,0,0]) (z:=part xL [1,1,1]) ah ah ah (f1:=[]) (f2:=[10]) (f3:=[]) 60 vq 2
  (fun i:Nat=>DA n c i) (fun i=>[(0,tR t ag),(1,bT i (fun j=>eF (c j) t) ag)]) (fun i=>i<=n) (fun i=>i=n) (fun i=>n-i) (fun _=>⟨⟨_,Uu,?_⟩,fun i hi=>⟨_,aaw,?_⟩,fun i hi=>⟨_,Y5,?_⟩⟩) K []
 ·simp only[af.all]
  exact⟨0,Nat.zero_le _,[(0,0)],rfl,rfl,rfl,dh (kA rfl aa aa trivial)⟩
 ·simp only[af.all,aA,bw,bB,bu]
  refine⟨fun h=>⟨⟨aa,aa,cZ aQ,aQ,(hz i aa).1,(hz i aa).2,aa,aa⟩,aa,i+1,aa,by dsimp only;omega,[(0,0),(1,49154)],rfl,by rw[show(i:Int)+1=((i+1:Nat):Int) by omega];rfl,rfl,dh (bg rfl rfl rfl (fun j hj=>?_) trivial)⟩,fun h=>⟨rfl,i,aa,[(0,0),(1,1)],rfl,rfl,rfl,dh (bg rfl rfl rfl (fun j hj=>bE rfl rfl) trivial)⟩⟩
  by_cases h2:j<i
  ·rw[if_pos h2];exact bE rfl rfl
  ·rw[if_neg h2,show j-i+0=0 by omega,show j=i by omega];exact bE rfl rfl
 ·subst hi
  simp only[af.all,aA]
  exact⟨⟨cZ aQ,aa⟩,.refl _⟩
theorem Yw:bf P Is 124:=cR fun⟨⟨n,c⟩,t,_⟩ K hn=>Xs hn.1 hn.2 K
theorem We:bI P Gn:=iQ (aL Yw (aL LF iu))
theorem S1 {n:Nat} {c:Nat->PP} {x y:Rat} (h0:0<n) (hn:n<2^30) (hxy:x<y) (hx:dz n c x) (hy:dz n c y) (K:Nat):aP P 62 K [ec n c,.rat x ag,.rat y ag] [] (aK (.int .i64 (g9 n c x y)) []):=by
 have hW:=cW
 refine bZ hT We hm ad1 rfl aW rfl 60 RG (fun _=>?_) K []
 have hbx:=(qx (s:=cI c x) sI n).2
 have hby:=(qx (s:=cI c y) sI n).2
 have h:¬x>=y:=Rat.not_le.2 hxy
 simp only[af.all,aA,bw,bB,nB]
 show(_/\(∀i,i<n->bA (aI (c i)) (aI (c i)))/\_/\_/\dz n c x/\_/\_/\_/\_/\dz n c y/\(-2^63<=((bY (cI c x) n).2:Int)-((bY (cI c y) n).2:Int)/\((bY (cI c x) n).2:Int)-((bY (cI c y) n).2:Int)<2^63))/\(_/\_/\_/\_/\_/\jL (c 0) y/\_)/\(eF (c 0) y=0->_)/\(¬eF (c 0) y=0->_)
 refine⟨⟨aa,fun i _=>.refl _,aQ,hn,hx,aa,fun i _=>.refl _,aQ,hn,hy,aa⟩,⟨aa,aa,cZ aQ,aQ,(hy 0 h0).1,(hy 0 h0).2,aa⟩,fun h2=>⟨?_,?_⟩,fun h2=>?_⟩
 ·show-2^63<=((bY (cI c x) n).2:Int)-((bY (cI c y) n).2:Int)-1/\((bY (cI c x) n).2:Int)-((bY (cI c y) n).2:Int)-1<2^63
  omega
 ·exact bN (by unfold g9;rw[if_neg h,if_pos h2];rfl)
 ·exact bN (by unfold g9;rw[if_neg h,if_neg h2,Int.sub_zero];rfl)
def F2:Spec:=dA (kC mz (kC (fP ag) (kC (fP ag) kN))) (fun a=>.int .i64 (g9 a.1.1 a.1.2 a.2.1 a.2.2.1)) fun a=>[0<a.1.1,a.1.1<2^30,a.2.1<a.2.2.1,dz a.1.1 a.1.2 a.2.1,dz a.1.1 a.1.2 a.2.2.1]
theorem abh:bf P F2 62:=cR fun⟨⟨n,c⟩,x,y,_⟩ K hn=>S1 hn.1 hn.2.1 hn.2.2.1 hn.2.2.2.1 hn.2.2.2.2 K
abbrev vU:Code:=aH f38
abbrev tu:List Nat:=[2,3,5,14,15,16]
abbrev sD (n:Nat) (c:Nat->PP):ax:=⟨true,true,1,n,fun i=>aI (c i)⟩
abbrev B7 (n:Nat) (c:Nat->PP) (i:Nat):List AV:=[.nil,.int .i64 0,.own 0 1 0 i,ec n c,.int .i64 n,.int .i64 i]
def mZ (p:PP) (i:Nat):PP:=jH (cH (az p) i)
def jd (p:PP):Nat:=if(az p).1=0 then 0 else cq (az p)
def Aq (p:PP):Prop:=dm p/\((az p).1≠0->lW (az p)/\cq (az p)<2^30/\∀i,i<cq (az p)->fO (cH (az p) i))
theorem Lm:aX 38 f38:=aZ func38
theorem abq {p:PP}:aG T pL [12] 60 tu (before vU [1,1,1,1,0,1]) ⟨aT 0 [aI p],[],0⟩=
  some (aj [aR p,dm p] (fork (((az p).1:Int)==0) (leaf ret ([nil,int i64 3,tuple [],tuple [],tuple [],tuple []],[])) (aj [aR (az p),lW (az p)] (leaf normal ([nil,int i64 0,nil,ec (cq (az p)) (cH (az p)),int i64 (cq (az p):Int),int i64 0],[]))))):=ah
theorem ZG {n i:Nat} {c d:Nat->PP}:aG T pL [17] 60 tu [part vU [1,1,1,1,0,1,0,0]] ⟨aC tu (B7 n c i),[(0,sD i d)],1⟩=
  let c5:Int:=(↑n:Int);let c2:AV:=ak 1 n fun i=>ak 3 (c i).fst fun i_1=>rat ((c i).snd i_1) ag;let c1:Int:=(↑i:Int);let c4:Int:=c1+1;let c3:PP:=c c1.toNat;some (fork (decide (c1<c5)) (aj [(0:Int)<=c1/\c1.toNat<n] (aj [cF (fun i=>rat (c3.snd i) ag) c3.fst ag,fO (c3.fst,fun i=>aS (rat (c3.snd i) ag)),(1:Nat)*1<=2^24,(i+1)*((24:Nat)+1)*2<=2^47] (aj [-(2:Int)^63<=c4/\c4<2^63] (leaf normal ([nil,int i64 0,own 32769 1 0 (i+1),c2,int i64 c5,int i64 c4],[(32769,ax.mk true true 1 (i+1) fun i_1=>if i_1<i then aI (d i_1)else nth [ak 3 (jy c3.fst) fun i=>rat (ng c3.fst (fun i=>aS (rat (c3.snd i) ag)) i) ag] nil (i_1-i+0))]))))) (leaf (exit 0) ([nil,int i64 0,own 0 1 0 i,c2,int i64 c5,int i64 c1],[(0,ax.mk true true 1 i fun i=>ak 3 (d i).fst fun i_1=>rat ((d i).snd i_1) ag)]))):=ah
theorem PR {n i:Nat} {c d:Nat->PP}:cA T pL [] 60 f38 [part vU [1,1,1,1,1]] ⟨aC tu (B7 n c i),[(0,sD i d)],1⟩=
  some (leaf ret [ak 1 i fun i=>ak 3 (d (i+0)).fst fun i_1=>rat ((d (i+0)).snd i_1) ag,int i64 0]):=ah
abbrev oT (p:PP):AV:=.tuple [ec (jd p) (mZ p),.int .i64 (zE (az p).1)]
theorem Ym {p:PP} (hz:Aq p) (K:Nat):aP P 38 K [aI p] [] (aK (oT p) []):=by
 obtain⟨hp,hz⟩:=hz
 refine gm (r:=aK (oT p) []) hT Lm rfl aW rfl (fun _ cx h0=>?_) K []
 have hk:=jZ h0
 refine au.l5 hT tU hm [1,1,1,1,0,1] (i:=0) (y:=part vU [1,1,1,1,0,1,0,0]) (z:=part vU [1,1,1,1,1]) ah ah ah Lm.dst hk (f1:=[12]) (f2:=[17]) 60 tu 1
  (fun i:Nat=>B7 (cq (az p)) (cH (az p)) i) (fun i=>[(0,sD i (mZ p))]) (fun i=>i<=cq (az p)/\(az p).1≠0) (fun i=>i=cq (az p)/\(az p).1≠0) (fun i=>cq (az p)-i) (nT f38 tu (oT p)) ⟨_,abq,?_⟩ (fun i ⟨hi,h1⟩=>⟨_,ZG,?_⟩) (fun i ⟨hi,h1⟩=>?_) (fun v s' hv hs'=>hv.fin hs')
 ·simp only[af.all,aA,beq_iff_eq,beq_eq_false_iff_ne]
  refine⟨⟨cV,hp⟩,fun h=>?_,fun h=>?_⟩
  ·have h1:(az p).1=0:=aa
   refine⟨[.nil,.int .i64 3],ah,by rw[show jd p=0 from if_pos h1];exact jS aa,bN (if_pos h1).symm,trivial⟩
  ·have h1:(az p).1≠0:=aa
   obtain⟨z1,z2,z3⟩:=hz h1
   exact⟨⟨cV,z1⟩,0,⟨Nat.zero_le _,h1⟩,[],rfl,rfl,rfl,kA rfl aa aa trivial⟩
 ·obtain⟨z1,z2,z3⟩:=hz h1
  simp only[af.all,aA,bw,bB,bu]
  refine⟨fun h=>⟨aa,⟨cV,z3 i aa,aa,aa⟩,aa,i+1,⟨aa,h1⟩,by dsimp only;omega,[(0,32769)],rfl,?_,rfl,bg rfl rfl rfl (fun j hj=>?_) trivial⟩,fun h=>⟨rfl,i,⟨aa,h1⟩,[(0,0)],rfl,rfl,rfl,bg rfl rfl rfl (fun j hj=>bE rfl rfl) trivial⟩⟩
  ·rw[show(i:Int)+1=((i+1:Nat):Int) by omega];rfl
  ·by_cases h2:j<i
   ·rw[if_pos h2];exact bE rfl rfl
   ·rw[if_neg h2,show j-i+0=0 by omega,show j=i by omega];exact bE rfl rfl
 ·subst hi
  refine au.jV ((aF.fin hT tU hm 60 PR ah ?_).mono fun _ _ h=>.inl h)
  have e1:jd p=cq (az p):=if_neg h1
  have e2:zE (az p).1=0:=if_neg h1
  show bA _ _/\bA _ _/\True
  rw[e1,e2]
  exact⟨.refl _,.refl _,trivial⟩
def FU:Spec:=dA (kC (kL ag) kN) (fun a=>ec (cq a.1) (cH a.1)) fun a=>[tM a.1]
def qU:bh:=zG::(61,wI)::(97,ue)::(98,L7)::(99,CQ)::(100,DZ)::(63,FU)::(62,F2)::gV
abbrev wX:Code:=aH f39
abbrev ua:List Nat:=[2,3,5,6,7]
abbrev DH (n:Nat) (c:Nat->PP) (i:Nat):List AV:=[.nil,.int .i64 0,.own 0 1 0 i,ec n c,.int .i64 i]
theorem abB:aX 36 f36:=aZ func36
theorem adY:aX 42 f42:=aZ func42
theorem Tv:aX 37 f37:=aZ func37
theorem FC:aX 39 f39:=aZ func39
theorem aeD {p q:PP}:bR T qU [14] 60 f36 (aH f36) ⟨aT 0 [aI p,aI q],[],0⟩=
  some (aj [aR q,dm q] (fork (((az q).1:Int)==0) (leaf ret [nil,nil,int i64 3]) (aj [aR p,dm p,aR (az p),aR (az q),(az p).1<2^30,1<=(az q).1,(az q).1<2^30,Trim (az p),Trim (az q),j4 (az p) (az q)] (aj [aR (eZ (az p) (az q)),Trim (eZ (az p) (az q)),fO (eZ (az p) (az q)),aR (cw (az p) (az q)),Trim (cw (az p) (az q)),fO (cw (az p) (az q))] (leaf ret [aI (jH (eZ (az p) (az q))),aI (jH (cw (az p) (az q))),int i64 0]))))):=ah
theorem TX {p q:PP}:bR T qU [] 60 f42 (aH f42) ⟨aT 0 [aI p,aI q],[],0⟩=
  some (aj [aR p,dm p,aR q,dm q,aR (az p),aR (az q),(az p).1<2^30,(az q).1<2^30,Trim (az p),Trim (az q),nq (az p) (az q),aR (bS (az p) (az q)),Trim (bS (az p) (az q)),fO (bS (az p) (az q))] (leaf ret [aI (uh p q)])):=ah
theorem Sk {p:PP}:bR T qU [9] 60 f37 (aH f37) ⟨aT 0 [aI p],[],0⟩=
  some (aj [aR p,dm p] (fork (((az p).1:Int)==0) (leaf ret [nil,int i64 3]) (aj [aR (az p),qZ (az p),aR (bX (az p)),Trim (bX (az p)),fO (bX (az p))] (leaf ret [aI (jH (bX (az p))),int i64 0])))):=ah
theorem S9 {p:PP}:aG T qU [12] 60 ua (before wX [1,1,1,1,1,0,1]) ⟨aT 0 [aI p],[],0⟩=
  some (aj [aR p,dm p] (fork (((az p).1:Int)==0) (leaf ret ([nil,int i64 3,tuple [],tuple [],tuple []],[])) (aj [aR (az p),tM (az p)] (leaf normal ([nil,int i64 0,nil,ec (cq (az p)) (cH (az p)),int i64 0],[]))))):=ah
theorem Y7 {n i:Nat} {c d:Nat->PP}:aG T qU [18] 60 ua [part wX [1,1,1,1,1,0,1,0,0]] ⟨aC ua (DH n c i),[(0,sD i d)],1⟩=
  let c3:Int:=(↑i:Int);let c2:AV:=ak 1 n fun i=>ak 3 (c i).fst fun i_1=>rat ((c i).snd i_1) ag;let c5:Int:=c3+1;let c1:PP:=c c3.toNat;let c4:Nat×(Nat->Rat):=(c1.fst,fun i=>aS (rat (c1.snd i) ag));some (fork (decide (c3<(↑n:Int))) (aj [(0:Int)<=c3/\c3.toNat<n,cF (fun i=>rat (c1.snd i) ag) c1.fst ag,Trim c4,fO c4,(1:Nat)*1<=2^24,(i+1)*((24:Nat)+1)*2<=2^47] (aj [-(2:Int)^63<=c5/\c5<2^63] (leaf normal ([nil,int i64 0,own 45057 1 0 (i+1),c2,int i64 c5],[(45057,ax.mk true true 1 (i+1) fun i_1=>if i_1<i then aI (d i_1)else nth [ak 3 (jy c1.fst) fun i=>rat (ng c1.fst (fun i=>aS (rat (c1.snd i) ag)) i) ag] nil (i_1-i+0))])))) (leaf (exit 0) ([nil,int i64 0,own 0 1 0 i,c2,int i64 c3],[(0,ax.mk true true 1 i fun i=>ak 3 (d i).fst fun i_1=>rat ((d i).snd i_1) ag)]))):=ah
theorem UY {n i:Nat} {c d:Nat->PP}:cA T qU [] 60 f39 [part wX [1,1,1,1,1,1]] ⟨aC ua (DH n c i),[(0,sD i d)],1⟩=
  some (leaf ret [ak 1 i fun i=>ak 3 (d (i+0)).fst fun i_1=>rat ((d (i+0)).snd i_1) ag,int i64 0]):=ah
theorem Se:bf P FU 63:=cR fun⟨a,_⟩ K hn=>aan hn K
theorem wC:bI P qU:=fD (aL Zu (aL C9 (aL TR (aL IE (aL F4 (aL Se (aL abh iu)))))))
theorem VI {p q:PP} (hp:dm p) (hq:dm q) (hz:vH p q) (K:Nat):aP P 36 K [aI p,aI q] [] (aK (.tuple [aI (l9 p q),aI (mL p q),.int .i64 (zE (az q).1)]) []):=by
 refine bZ hT wC hm abB rfl aW rfl 60 aeD (fun _=>?_) K []
 have h1:=of_le hp
 have h2:=of_le hq
 simp only[af.all,aA,beq_iff_eq,beq_eq_false_iff_ne]
 refine⟨⟨cV,hq⟩,fun h=>?_,fun h=>?_⟩
 ·have h0:(az q).1=0:=aa
  refine⟨s9 ?_,s9 ?_,bN (if_pos h0).symm,trivial⟩
  ·unfold l9;rw[if_pos h0];rfl
  ·unfold mL;rw[if_pos h0];rfl
 ·have h0:¬(az q).1=0:=aa
  obtain⟨z1,z2,z3⟩:=hz h0
  refine⟨⟨cV,hp,cV,cV,aa,aa,aa,mR,mR,z1⟩,⟨cV,xV,z2,cV,oN,z3⟩,?_⟩
  unfold l9 mL
  rw[if_neg h0,if_neg h0]
  exact⟨.refl _,.refl _,bN (if_neg h0).symm,trivial⟩
theorem NK {p q:PP} (hp:dm p) (hq:dm q) (hz:nq (az p) (az q)) (hy:fO (bS (az p) (az q))) (K:Nat):aP P 42 K [aI p,aI q] [] (aK (aI (uh p q)) []):=by
 refine bZ hT wC hm adY rfl aW rfl 60 TX (fun _=>?_) K []
 have h1:=of_le hp
 have h2:=of_le hq
 simp only[af.all,aA]
 exact⟨⟨cV,hp,cV,hq,cV,cV,aa,aa,mR,mR,hz,cV,mu mR mR,hy⟩,.refl _⟩
def yM (p:PP):Prop:=(az p).1≠0->qZ (az p)/\fO (bX (az p))
theorem R3 {p:PP} (hp:dm p) (hz:yM p) (K:Nat):aP P 37 K [aI p] [] (aK (.tuple [aI (jP p),.int .i64 (zE (az p).1)]) []):=by
 refine bZ hT wC hm Tv rfl aW rfl 60 Sk (fun _=>?_) K []
 simp only[af.all,aA,beq_iff_eq,beq_eq_false_iff_ne]
 refine⟨⟨cV,hp⟩,fun h=>?_,fun h=>?_⟩
 ·have h0:(az p).1=0:=aa
  refine⟨s9 ?_,bN (if_pos h0).symm,trivial⟩
  unfold jP;rw[if_pos h0];rfl
 ·have h0:¬(az p).1=0:=aa
  obtain⟨z1,z2⟩:=hz h0
  refine⟨⟨cV,z1,cV,pI,z2⟩,?_⟩
  unfold jP
  rw[if_neg h0]
  exact⟨.refl _,bN (if_neg h0).symm,trivial⟩
def RF (p:PP) (a b:Rat):Prop:=dm p/\((az p).1≠0->tM (az p)/\cq (az p)<2^30/\dz (cq (az p)) (cH (az p)) a/\dz (cq (az p)) (cH (az p)) b)
def yQ (p:PP):Prop:=dm p/\((az p).1≠0->tM (az p)/\cq (az p)<2^30/\∀i,i<cq (az p)->fO (cH (az p) i))
theorem Sq {a:PP} (i:Nat):Trim (cH a i):=(oE (s:=gj a) pI fA i).1
theorem YV {p:PP} (hz:yQ p) (K:Nat):aP P 39 K [aI p] [] (aK (oT p) []):=by
 obtain⟨hp,hz⟩:=hz
 refine gm (r:=aK (oT p) []) hT FC rfl aW rfl (fun _ cx h0=>?_) K []
 have hk:=jZ h0
 refine au.l5 hT wC hm [1,1,1,1,1,0,1] (i:=0) (y:=part wX [1,1,1,1,1,0,1,0,0]) (z:=part wX [1,1,1,1,1,1]) ah ah ah FC.dst hk (f1:=[12]) (f2:=[18]) 60 ua 1
  (fun i:Nat=>DH (cq (az p)) (cH (az p)) i) (fun i=>[(0,sD i (mZ p))]) (fun i=>i<=cq (az p)/\(az p).1≠0) (fun i=>i=cq (az p)/\(az p).1≠0) (fun i=>cq (az p)-i) (nT f39 ua (oT p)) ⟨_,S9,?_⟩ (fun i ⟨hi,h1⟩=>⟨_,Y7,?_⟩) (fun i ⟨hi,h1⟩=>?_) (fun v s' hv hs'=>hv.fin hs')
 ·simp only[af.all,aA,beq_iff_eq,beq_eq_false_iff_ne]
  refine⟨⟨cV,hp⟩,fun h=>?_,fun h=>?_⟩
  ·have h1:(az p).1=0:=aa
   refine⟨[.nil,.int .i64 3],ah,by rw[show jd p=0 from if_pos h1];exact jS aa,bN (if_pos h1).symm,trivial⟩
  ·have h1:(az p).1≠0:=aa
   obtain⟨z1,z2,z3⟩:=hz h1
   exact⟨⟨cV,z1⟩,0,⟨Nat.zero_le _,h1⟩,[],rfl,rfl,rfl,kA rfl aa aa trivial⟩
 ·obtain⟨z1,z2,z3⟩:=hz h1
  simp only[af.all,aA,bw,bB,bu]
  refine⟨fun h=>⟨⟨aa,cV,Sq i,z3 i aa,aa,aa⟩,aa,i+1,⟨aa,h1⟩,by dsimp only;omega,[(0,45057)],rfl,?_,rfl,bg rfl rfl rfl (fun j hj=>?_) trivial⟩,fun h=>⟨rfl,i,⟨aa,h1⟩,[(0,0)],rfl,rfl,rfl,bg rfl rfl rfl (fun j hj=>bE rfl rfl) trivial⟩⟩
  ·rw[show(i:Int)+1=((i+1:Nat):Int) by omega];rfl
  ·by_cases h2:j<i
   ·rw[if_pos h2];exact bE rfl rfl
   ·rw[if_neg h2,show j-i+0=0 by omega,show j=i by omega];exact bE rfl rfl
 ·subst hi
  refine au.jV ((aF.fin hT wC hm 60 UY ah ?_).mono fun _ _ h=>.inl h)
  have e1:jd p=cq (az p):=if_neg h1
  have e2:zE (az p).1=0:=if_neg h1
  show bA _ _/\bA _ _/\True
  rw[e1,e2]
  exact⟨.refl _,.refl _,trivial⟩
theorem Cu {u v:AV} (h:bA u v):bA (.bM u) (.bM v):=by
 refine⟨rfl,fun M w cs hc=>?_⟩
 cases hc with
 |bM h1 h2 h3=>cases h3;exact .bM (h.2 _ _ _ h1) h2 .nil
theorem UZ {f:FuncId} {us vs:List AV} (h:fY us vs) (hv:(vs.all fun v=>!v.isAgg&&!v.isTuple)=true):bA (.func f us) (.func f vs):=by
 refine⟨rfl,fun M w cs hc=>?_⟩
 cases hc with
 |func h1 h2 h3=>cases h3;exact .func (Er h h1) hv .nil
def kRf {α:Type} (k:Kind α):Kind α:=⟨fun v=>match v with
 |.bM v=>k.read v
 |_=>none,fun a=>.bM (k.make a),fun {v a q} h hq=>by
  split at h
  ·exact Cu (k.ok h hq)
  ·simp at h⟩
abbrev gh (a b:Rat) (n:Nat):AV:=.agg [.rat a n,.rat b n]
def YQ (s:Nat):Kind (Rat×Rat):=⟨fun v=>match v with
 |.agg [x,y]=>some ((aS x,aS y),[bA x (.rat (aS x) s),bA y (.rat (aS y) s)])
 |_=>none,fun a=>gh a.1 a.2 s,fun {v a q} h hq=>by
  split at h
  ·simp only[ay,Prod.mk.injEq]at h
   obtain⟨rfl,rfl⟩:=h
   exact oR ⟨hq.1,hq.2,trivial⟩
  ·simp at h⟩
def kHf:Kind Unit:=⟨fun v=>match v with
 |.agg [.bool false,.ak 1 1 f,.ak 1 1 g]=>some ((),[f 0=.int .u32 1,g 0=.int .u32 2])
 |_=>none,fun _=>.rat (1/2) 3,fun {v a q} h hq=>by
  split at h
  ·simp only[ay,Prod.mk.injEq]at h
   obtain⟨_,rfl⟩:=h
   refine bA.trans (oR (vs:=[.bool false,.mag 1,.mag 2]) ⟨.refl _,jY (N:=1) (by decide) (fun i hi=>by obtain rfl:i=0:=aa;exact hq.1),jY (N:=2) (by decide) (fun i hi=>by obtain rfl:i=0:=aa;exact hq.2),trivial⟩) (qX (b:=false) (x:=1) (y:=2) (q:=1/2) ⟨by decide+kernel,by decide+kernel⟩ (by decide+kernel) (by decide+kernel) (by decide+kernel))
  ·simp at h⟩
def FQ:Spec:=dA (kC kR (kC kHf kN)) (fun a=>.rat (a.1.1*(1/2)) (a.1.2+3)) fun a=>[a.1.2<2^42]
def Jd:Spec:=dA (kC (fP ag) (kC (fP ag) kN)) (fun a=>.rat (jm a.1 a.2.1) ag) fun _=>[]
def Fq:Spec:=dA (kC (fP ag) (kC (fP ag) kN)) (fun a=>.rat (je a.1 a.2.1) ag) fun _=>[]
def Gw:bh:=nG::(130,Jd)::(131,Fq)::gB
def Hv:bh:=nG::(129,FQ)::(132,Ea T [sG] [] 20 f132)::gB
def dL (a b:Rat):Rat:=(a+b)*(1/2)
def E3:Spec:=dA (kC (fP ag) (kC (fP ag) kN)) (fun a=>gh (jm a.1 a.2.1) (je a.1 a.2.1) ag) fun _=>[]
def Fb:bh:=nG::(68,E3)::gB
def GP:bh:=zG::(66,pK)::gB
def Fo:bh:=nG::(66,pK)::(60,yu)::gB
theorem YB:aX 69 f69:=aZ func69
theorem Um:aX 132 f132:=aZ func132
theorem ZH:aX 68 f68:=aZ func68
theorem adn:aX 70 f70:=aZ func70
theorem Pf:aX 74 f74:=aZ func74
theorem Ub:aX 64 f64:=aZ func64
theorem ac7 {x y:Rat}:bR T Gw [] 60 f68 (aH f68) ⟨aT 0 [.rat x ag,.rat y ag],[],0⟩=
  let c1:Prop:=0<1;some (aj [c1,c1,ag<=ag,ag<=ag,c1,c1,ag<=ag,ag<=ag,c1] (aj [c1] (leaf ret [agg [rat (jm x y) ag,rat (je x y) ag]]))):=ah
theorem YJ {x y:Rat}:bR T Hv [] 60 f69 (aH f69) ⟨aT 0 [.rat x ag,.rat y ag],[],0⟩=
  let c2:Nat:=2^42;let c1:Prop:=0<1;some (aj [c1,c1,ag<c2,ag<c2,(1:Nat)*1<=2^24,nth [int u32 (1:Int)] (int u32 (0:Int)) ((0:Nat)+0)=int u32 (1:Int),nth [int u32 (2:Int)] (int u32 (0:Int)) ((0:Nat)+0)=int u32 (2:Int),ag+ag+1<c2,c1] (aj [c1] (leaf ret [rat ((x+y)*(1/2:Rat)) (ag+ag+1+3)]))):=ah
theorem aaS {x:Rat}:bR T Fb [] 60 f70 (aH f70) ⟨aT 0 [.rat x ag],[],0⟩=
  let c1:Prop:=0<1;some (aj [c1,c1,ag<=ag,ag<=ag,c1] (aj [c1] (leaf ret [agg [rat (jm x x) ag,rat (je x x) ag]]))):=ah
theorem Zd {n:Nat} {c:Nat->PP} {x:Rat}:bR T GP [] 60 f64 (aH f64) ⟨aT 0 [.rat x ag,.bM (ec n c)],[],0⟩=
  let c1:PP:=c (Int.toNat (0:Int));let c2:Nat×(Nat->Rat):=(c1.fst,fun i=>aS (rat (c1.snd i) ag));some (aj [(0:Int)<=0/\Int.toNat (0:Int)<n,(0:Nat)<1,cF (fun i=>rat (c1.snd i) ag) c1.fst ag,ag<=ag,c1.fst<2^40,jL c2 x,ag<2^42] (leaf ret [AV.bool (dn (eF c2 x)==0)])):=ah
theorem VT {n:Nat} {c:Nat->PP} {x y:Rat}:bR T Fo [9] 60 f74 (aH f74) ⟨aT 0 [ec n c,gh x y ag],[],0⟩=
  let c4:Int:=g9 n (fun i=>cL (aI (c i))) x y;let c3:Prop:=ag<2^42;let c2:Prop:=0<1;let c1:PP:=c (Int.toNat (0:Int));let c5:Nat×(Nat->Rat):=(c1.fst,fun i=>aS (rat (c1.snd i) ag));some (aj [c2,c2,c3,c3] (fork (decide (x=y)) (aj [(0:Int)<=0/\Int.toNat (0:Int)<n,c2,cF (fun i=>rat (c1.snd i) ag) c1.fst ag,ag<=ag,c1.fst<2^40,jL c5 x,c3] (leaf ret [AV.bool (dn (eF c5 x)==0)])) (aj [c2,c2,∀(i:Nat),i<n->bA (aI (c i)) (aI (cL (aI (c i)))),ag<=ag,ag<=ag,(0:Nat)<n,n<2^40,dz n (fun i=>cL (aI (c i))) x,dz n (fun i=>cL (aI (c i))) y] (leaf ret [AV.bool (decide (c4>0))])))):=ah
theorem acI:bf P Jd 130:=cR fun⟨x,y,_⟩ K _=>by
 have hW:=cW
 have:=Wt (q:=x) (r:=y) (n:=ag) (m:=ag) aa aa K
 rw[Nat.max_self]at this;exact this
theorem YM:bf P Fq 131:=cR fun⟨x,y,_⟩ K _=>by
 have hW:=cW
 have:=X9 (q:=x) (r:=y) (n:=ag) (m:=ag) aa aa K
 rw[Nat.max_self]at this;exact this
theorem PJ:bf P FQ 129:=cR fun⟨x,_,_⟩ K hn=>Fl hn aa K
theorem NR:bI P Gw:=iQ (aL acI (aL YM gE))
theorem Ue:bI P Hv:=iQ (aL PJ (aL (IV hT (yW b9) hm Um _ _) gE))
theorem abS {x y:Rat} (K:Nat):aP P 68 K [.rat x ag,.rat y ag] [] (aK (gh (jm x y) (je x y) ag) []):=by
 refine bZ hT NR hm ZH rfl aW rfl 60 ac7 (fun _=>?_) K []
 simp only[af.all,aA]
 exact⟨⟨aa,aa,aa,aa,aa,aa,aa,aa,aa⟩,aa,.refl _⟩
theorem Lk:bf P E3 68:=cR fun⟨x,y,_⟩ K _=>abS K
theorem abd:bI P Fb:=iQ (aL Lk gE)
def Cl:Spec:=dA (kC (fP ag) kN) (fun a=>gh a.1 a.1 ag) fun _=>[]
theorem adq (x:Rat):jm x x=x:=by unfold jm;split<;>rfl
theorem U2 (x:Rat):je x x=x:=by unfold je;split<;>rfl
theorem J5:bf P Cl 70:=cR fun⟨x,_⟩ K _=>by
 refine bZ hT abd hm adn rfl aW rfl 60 aaS (fun _=>?_) K []
 simp only[af.all,aA,adq,U2]
 exact⟨⟨aa,aa,aa,aa,aa⟩,aa,.refl _⟩
def GX:Spec:=dA (kC (fP ag) (kC (fP ag) kN)) (fun a=>.rat (dL a.1 a.2.1) ag) fun a=>[Sz (dL a.1 a.2.1) ag]
theorem S0:bf P GX 69:=cR fun⟨x,y,_⟩ K hn=>by
 have hW:=cW
 refine bZ hT Ue hm YB rfl aW rfl 60 YJ (fun _=>?_) K []
 simp only[af.all,aA]
 exact⟨⟨aa,aa,aa,aa,aa,rfl,rfl,aa,aa⟩,aa,dK rfl hn⟩
def A0:Spec:=dA (kC (fP ag) (kC (kRf mz) kN)) (fun a=>.bool (decide (eF (a.2.1.2 0) a.1=0))) fun a=>[0<a.2.1.1,dz a.2.1.1 a.2.1.2 a.1]
theorem Wy:bI P GP:=fD (aL AH gE)
theorem IK:bf P A0 64:=cR fun⟨x,⟨n,c⟩,_⟩ K hn=>by
 have hW:=cW
 refine bZ hT Wy hm Ub rfl aW rfl 60 Zd (fun _=>?_) K []
 obtain⟨h1,h2⟩:=hn.2 0 hn.1
 simp only[af.all,aA]
 exact⟨⟨⟨aa,hn.1⟩,aa,cZ aQ,aQ,h1,h2,aa⟩,ef (by simp only[nB];rfl)⟩
theorem Vr:bI P Fo:=iQ (aL AH (aL CF gE))
def sM (n:Nat) (c:Nat->PP) (x y:Rat):Bool:=if x=y then decide (eF (c 0) x=0)else decide (0<g9 n c x y)
def F3:Spec:=dA (kC mz (kC (YQ ag) kN)) (fun a=>.bool (sM a.1.1 a.1.2 a.2.1.1 a.2.1.2)) fun a=>[0<a.1.1,a.1.1<2^40,dz a.1.1 a.1.2 a.2.1.1,dz a.1.1 a.1.2 a.2.1.2]
theorem abM:bf P F3 74:=cR fun⟨⟨n,c⟩,⟨x,y⟩,_⟩ K hn=>by
 have hW:=cW
 refine bZ hT Vr hm Pf rfl aW rfl 60 VT (fun _=>?_) K []
 obtain⟨g1,g2,g3,g4⟩:=hn
 obtain⟨h1,h2⟩:=g3 0 g1
 simp only[af.all,aA,bw,bB]
 refine⟨⟨aa,aa,aa,aa⟩,fun h=>⟨⟨⟨aa,g1⟩,aa,cZ aQ,aQ,h1,h2,aa⟩,?_⟩,fun h=>⟨⟨aa,aa,fun i _=>.refl _,aQ,aQ,g1,g2,g3,g4⟩,?_⟩⟩
 ·exact ef (by unfold sM;rw[if_pos h];simp only[nB];rfl)
 ·exact ef (by unfold sM;rw[if_neg h];rfl)
def eo (n:Nat) (c:Nat->PP):Nat->Rat->Rat->List (Rat×Rat)
 |0,_,_=>[]
 |d+1,x,y=>if g9 n c x y=0 then []else if g9 n c x y=1 then [(jm x y,je x y)]else
  eo n c d x (dL x y)++(if eF (c 0) (dL x y)=0 then(dL x y,dL x y)::eo n c d (dL x y) y else eo n c d (dL x y) y)
def mP (n:Nat) (c:Nat->PP):Nat->Rat->Rat->Prop
 |0,_,_=>False
 |d+1,x,y=>dz n c x/\dz n c y/\(g9 n c x y≠0->g9 n c x y≠1->Sz (dL x y) ag/\mP n c d x (dL x y)/\mP n c d (dL x y) y)
def j7:AV->Rat×Rat
 |.agg [x,y]=>(aS x,aS y)
 |_=>(0,0)
def iN (f:Nat->AV) (m:Nat):List (Rat×Rat):=(List.range m).map fun i=>j7 (f i)
def cB (l:List (Rat×Rat)) (i:Nat):Rat×Rat:=l.getD i (0,0)
abbrev dc (l:List (Rat×Rat)) (i:Nat):AV:=gh (cB l i).1 (cB l i).2 ag
abbrev qA (l:List (Rat×Rat)):ax:=⟨true,true,6,l.length,dc l⟩
abbrev p6:FuncId:=64
abbrev lE:FuncId:=67
abbrev AZ (n:Nat) (c:Nat->PP):AV:=.func p6 [.bM (ec n c)]
abbrev JQ (n:Nat) (c:Nat->PP) (kf kl:Nat):AV:=.func lE [.bM (ec n c),.ptr kf 0 1 0 [],.ptr kl 0 1 0 [],.bM (AZ n c)]
abbrev sF (k m:Nat):ax:=⟨false,true,1,1,fun _=>.own k 6 0 m⟩
abbrev qQ (n:Nat) (c:Nat->PP) (kf kl:Nat):ax:=⟨false,true,1,1,fun _=>JQ n c kf kl⟩
abbrev gone:ax:=⟨true,false,0,0,fun _=>.nil⟩
def isVar (o:ax):Bool:=!o.row&&o.wr&&o.es==1&&o.len==1
def EA (st:aE) (k:Nat):Option (Nat×Nat×(Nat->AV)×Nat):=match look k st with
 |some o=>if isVar o then match o.f 0 with
  |.own k0 6 0 m=>match look k0 st with
   |some r=>if r.row&&r.wr&&r.es==6&&k0 !=k then some (k0,m,r.f,r.len)else none
   |none=>none
  |_=>none else none
 |none=>none
def CV (st:aE) (kf kl:Nat):Option (AV×AV):=match look kl st with
 |some o=>if isVar o then match o.f 0 with
  |.func g [.bM ch,.ptr kf' 0 1 0 [],.ptr kl' 0 1 0 [],.bM is]=>if g==lE&&kf'==kf&&kl'==kl&&kl !=kf then some (ch,is)else none
  |_=>none else none
 |none=>none
def AF:AV->Option AV
 |.func g [.bM ch]=>if g==p6 then some ch else none
 |_=>none
def oY (d:Nat):Spec:=fun K args st=>match args with
 |[x,y,.bM ch,.ptr kf 0 1 0 [],.ptr kl 0 1 0 [],.bM is]=>match(fP ag).read x,(fP ag).read y,mz.read ch,AF is with
  |some (x,q1),some (y,q2),some ((n,c),q3),some ch1=>match EA st kf,CV st kf kl with
   |some (k0,m,f,len),some (ch2,is2)=>match AF is2 with
    |some ch3=>if k0 !=kl&&Nat.blt kf K&&Nat.blt kl K&&Nat.blt k0 K then
      some ⟨.tuple [],[(kf,sF K (iN f m++eo n c d x y).length),(kl,qQ n c kf kl),(K,qA (iN f m++eo n c d x y)),(k0,gone)],
       [aA q1,aA q2,aA q3,bA ch1 (ec n c),bA ch2 (ec n c),bA ch3 (ec n c),m=len,∀i,i<m->keys (f i)=[]/\bA (f i) (gh (j7 (f i)).1 (j7 (f i)).2 ag),0<n,n<2^40,mP n c d x y,m+(eo n c d x y).length<2^30]⟩else none
    |none=>none
   |_,_=>none
  |_,_,_,_=>none
 |_=>none
def Kj (d:Nat):bh:=nG::(60,yu)::(68,E3)::(70,Cl)::(69,GX)::(p6,A0)::(lE,oY d)::gB
abbrev HE:Code:=aH f67
abbrev DR (n:Nat) (c:Nat->PP) (x y:Rat):List AV:=[.rat x ag,.rat y ag,.bM (ec n c),.ptr 0 0 1 0 [],.ptr 1 0 1 0 [],.bM (AZ n c)]
abbrev JD (n:Nat) (c:Nat->PP) (l:List (Rat×Rat)):aE:=[(0,sF 2 l.length),(1,qQ n c 0 1),(2,qA l)]
theorem Fp:aX lE f67:=aZ func67
theorem Vu {d n:Nat} {c:Nat->PP} {x y:Rat} {l:List (Rat×Rat)}:aG T (Kj d) [32,34,22] 60 [3,4] [HE] ⟨aT 0 (DR n c x y),JD n c l,3⟩=
  let c31:AV:=ec n fun i=>cL (aI (c i));let c29:Int:=g9 n (fun i=>cL (aI (c i))) x y;let c26:Nat:=2^30;let c25:Prop:=0<n;let c24:Prop:=1*6<=2^24;let c21:Rat:=dL x y;let c19:Nat:=l.length;let c18:AV:=rat 0 1;let c17:Prop:=n<2^40;let c16:Prop:=ag<=ag;let c14:AV:=ptr 0 0 1 0 [];let c13:AV:=ptr 1 0 1 0 [];let c11:Prop:=aA [∀(i:Nat),i<n->bA (aI (cL (aI (c i)))) (aI (cL (aI (cL (aI (c i))))))];let c10:AV:=(ak 1 n fun i=>ak 3 (c i).fst fun i_1=>rat ((c i).snd i_1) ag).bM;let c9:AV:=(ak 1 n fun i=>ak 3 (c i).fst fun i_1=>rat (aS (rat (aS (rat ((c i).snd i_1) ag)) ag)) ag).bM;let c6:Prop:=0<1;let c33:List (Rat×Rat):=eo n (fun i=>cL (aI (c i))) d x c21;let c32:Nat:=c19+1;let c30:Rat:=eF (cL (aI (c 0))) c21;let c28:Prop:=aA [c16];let c27:AV:=own 2 6 0 c19;let c20:Prop:=mP n (fun i=>cL (aI (cL (aI (c i))))) d c21 y;let c12:Prop:=bA (ec n c) c31;let c8:List AV:=[c14,c13];let c7:List (Rat×Rat):=eo n (fun i=>cL (aI (cL (aI (c i))))) d c21 y;let c5:Prop:=bA c31 (ec n fun i=>cL (aI (cL (aI (c i)))));let c4:Nat×ax:=(1,ax.mk false true 1 1 fun x=>func 67 [c10,c14,c13,(func 64 [c10]).bM]);let c3:Nat×ax:=(1,ax.mk false true 1 1 fun x=>func 67 [c9,c14,c13,(func 64 [c9]).bM]);let c1:List (Rat×Rat):=iN (dc l) c19++c33;let c15:Nat:=c1.length;let c23:List (Rat×Rat):=iN (dc c1) c15++c7;let c22:Nat:=c15+1;let c2:List (Rat×Rat):=iN (fun i=>if i<c15 then dc c1 i else nth [agg [rat c21 ag,rat c21 ag]] (agg [c18,c18]) (i-c15+0)) c22++c7;some (aj [c6,c6,∀(i:Nat),i<n->bA (aI (c i)) (aI (cL (aI (c i)))),c16,c16,c25,c17,dz n (fun i=>cL (aI (c i))) x,dz n (fun i=>cL (aI (c i))) y] (fork (c29==0) (leaf normal (c8,[c4,(0,ax.mk false true 1 1 fun x=>c27),(2,ax.mk true true 6 c19 fun i=>agg [rat (cB l i).fst ag,rat (cB l i).snd ag])])) (fork (c29==1) (aj [c6,c6,c6,c16,c16,c24,c32*((112:Nat)+1)*2<=2^47,c6] (leaf normal (c8,[c4,(0,ax.mk false true 1 1 fun j=>if(j==0)=true then dN (own (nat_lit 61442+1) 6 0 c32)else c27),(61443,ax.mk true true 6 c32 fun i=>if i<c19 then dc l i else nth [agg [rat (jm x y) ag,rat (je x y) ag]] (agg [c18,c18]) (i-c19+0))]))) (aj [c6,c6,c16,c16,Sz c21 ag,c6] (aj [c6,c6,c6,c28,c28,aA [∀(i:Nat),i<n->bA (aI (c i)) (aI (cL (aI (c i))))],c12,c12,c12,c19=c19,∀(i:Nat),i<c19->(dc l i).keys=[]/\bA (dc l i) (gh (aS (rat (cB l i).fst ag)) (aS (rat (cB l i).snd ag)) ag),c25,c17,mP n (fun i=>cL (aI (c i))) d x c21,c19+c33.length<c26] (aj [c6,c16,∀(i:Nat),i<n->bA (aI (c i)) (aI (cL (aI (c i)))),c25,dz n (fun i=>cL (aI (c i))) c21] (fork (decide (c30=0)) (aj [c6,c6,c16,c24,c22*((112:Nat)+1)*2<=2^47,c6] (aj [c6,c6,c6,c28,c28,c11,c5,c5,c5,c22=c22,∀(i:Nat),i<c22->(if i<c15 then dc c1 i else nth [agg [rat c21 ag,rat c21 ag]] (agg [c18,c18]) (i-c15+0)).keys=[]/\bA (if i<c15 then dc c1 i else nth [agg [rat c21 ag,rat c21 ag]] (agg [c18,c18]) (i-c15+0)) (gh (j7 (if i<c15 then dc c1 i else nth [agg [rat c21 ag,rat c21 ag]] (agg [c18,c18]) (i-c15+0))).fst (j7 (if i<c15 then dc c1 i else nth [agg [rat c21 ag,rat c21 ag]] (agg [c18,c18]) (i-c15+0))).snd ag),c25,c17,c20,c22+c7.length<c26] (leaf normal (c8,[c3,(0,ax.mk false true 1 1 fun x=>own 126979 6 0 c2.length),(126979,ax.mk true true 6 c2.length fun i=>agg [rat (cB c2 i).fst ag,rat (cB c2 i).snd ag])])))) (aj [c6,c6,c6,c28,c28,c11,c5,c5,c5,c15=c15,∀(i:Nat),i<c15->(dc c1 i).keys=[]/\bA (dc c1 i) (gh (aS (rat (cB c1 i).fst ag)) (aS (rat (cB c1 i).snd ag)) ag),c25,c17,c20,c15+c7.length<c26] (leaf normal (c8,[c3,(0,ax.mk false true 1 1 fun x=>own 102403 6 0 c23.length),(102403,ax.mk true true 6 c23.length fun i=>agg [rat (cB c23 i).fst ag,rat (cB c23 i).snd ag])])))))))))):=ah
theorem JA {s:Nat} {v:AV} {x:Rat} {q:List Prop} (h:(fP s).read v=some (x,q)):v.isTuple=false:=by
 unfold fP at h
 dsimp only at h
 split at h
 ·rename_i h1
  unfold nU at h1
  split at h1
  ·rfl
  ·rfl
  ·simp at h1
 ·simp at h
theorem KR {s:Nat} {v:AV} {x:Rat} {q:List Prop} (h:(fP s).read v=some (x,q)):keys v=[]:=by
 unfold fP at h
 dsimp only at h
 split at h
 ·rename_i h1
  unfold nU at h1
  split at h1
  ·rfl
  ·rfl
  ·simp at h1
 ·simp at h
theorem L8 {o:ax} (h:isVar o=true):o=⟨false,true,1,1,o.f⟩:=by
 obtain⟨r,w,es,len,f⟩:=o
 unfold isVar at h
 simp only[Bool.and_eq_true,Bool.not_eq_true',beq_iff_eq]at h
 obtain⟨⟨⟨h1,h2⟩,h3⟩,h4⟩:=h
 subst h1 h2 h3 h4;rfl
theorem Px {st:aE} {k k0 m len:Nat} {f:Nat->AV} (h:EA st k=some (k0,m,f,len)):∃g,look k st=some ⟨false,true,1,1,g⟩/\g 0=.own k0 6 0 m/\look k0 st=some ⟨true,true,6,len,f⟩/\k0≠k:=by
 unfold EA at h
 split at h
 ·rename_i o ho
  split at h
  ·rename_i hv
   have hv:=L8 hv
   split at h
   ·rename_i k0' m' hf
    split at h
    ·rename_i r hr
     split at h
     ·rename_i hc
      simp only[Bool.and_eq_true,beq_iff_eq,bne_iff_ne,ne_eq]at hc
      obtain⟨⟨⟨c1,c2⟩,c3⟩,c4⟩:=hc
      simp only[ay,Prod.mk.injEq]at h
      obtain⟨rfl,rfl,rfl,rfl⟩:=h
      refine⟨o.f,by rw[ho,<-hv],hf,?_,c4⟩
      rw[hr]
      obtain⟨r1,r2,r3,r4,r5⟩:=r
      subst c1 c2 c3;rfl
     ·simp at h
    ·simp at h
   ·simp at h
  ·simp at h
 ·simp at h
theorem P2 {st:aE} {kf kl:Nat} {ch is:AV} (h:CV st kf kl=some (ch,is)):∃g,look kl st=some ⟨false,true,1,1,g⟩/\g 0=.func lE [.bM ch,.ptr kf 0 1 0 [],.ptr kl 0 1 0 [],.bM is]/\kl≠kf:=by
 unfold CV at h
 split at h
 ·rename_i o ho
  split at h
  ·rename_i hv
   have hv:=L8 hv
   split at h
   ·rename_i g' ch' kf' kl' is' hf
    split at h
    ·rename_i hc
     simp only[Bool.and_eq_true,beq_iff_eq,bne_iff_ne,ne_eq]at hc
     obtain⟨⟨⟨c1,c2⟩,c3⟩,c4⟩:=hc
     simp only[ay,Prod.mk.injEq]at h
     obtain⟨rfl,rfl⟩:=h
     subst c1 c2 c3
     exact⟨o.f,by rw[ho,<-hv],hf,c4⟩
    ·simp at h
   ·simp at h
  ·simp at h
 ·simp at h
theorem GB {v ch:AV} (h:AF v=some ch):v=.func p6 [.bM ch]:=by
 unfold AF at h
 split at h
 ·split at h
  ·rename_i hc
   have:=eq_of_beq hc
   simp only[ay]at h
   subst h this;rfl
  ·simp at h
 ·simp at h
theorem xA {f:Nat->AV} {m:Nat}:(iN f m).length=m:=by simp[iN]
theorem SH {f:Nat->AV} {m i:Nat} (h:i<m):cB (iN f m) i=j7 (f i):=by
 unfold cB iN
 simp[List.getD,h]
theorem Mo {f:Nat->AV} {m:Nat} {l:List (Rat×Rat)} (hl:l.length=m) (h:∀i,i<m->j7 (f i)=cB l i):iN f m=l:=by
 apply List.ext_getElem
 ·rw[xA,hl]
 ·intro i h1 h2
  have:=h i (by rwa [xA]at h1)
  simp only[iN,List.getElem_map,List.getElem_range,this,cB]
  simp[List.getD,h2]
theorem Jg {l:List (Rat×Rat)}:iN (dc l) l.length=l:=Mo rfl fun i _=>rfl
theorem Tt {l l':List (Rat×Rat)} {i:Nat}:cB (l++l') i=if i<l.length then cB l i else cB l' (i-l.length):=by
 unfold cB
 simp only[List.getD,List.getElem?_append]
 split<;>rfl
theorem xX {s':aJ} {e:aq} {n:Nat} {c:Nat->PP} {kf kl K kx:Nat} {vs:List AV} {vf vl row:ax} {L:List (Rat×Rat)} (he:e=.normal) (h1:kl≠kf) (g1:kf<K) (g2:kl<K) (hv:bk [3,4] s'=some (vs,[(1,vl),(0,vf),(kx,row)])) (hkx:2<=kx) (hl:vl=qQ n c 0 1)
  (hf:vf=⟨false,true,1,1,vf.f⟩) (hf0:vf.f 0=.own kx 6 0 L.length) (hr:row=⟨true,true,6,L.length,row.f⟩) (hr0:∀i,i<L.length->row.f i=dc L i):
  (e=.normal\/e=.ret)/\∃ls vs os kx o1 o2 o3,bk ls s'=some (vs,os)/\2<=kx/\
   look 0 os=some o1/\dr (aY [(kf,0),(kl,1),(K,kx)]) o1 (sF K L.length)/\look 1 os=some o2/\dr (aY [(kf,0),(kl,1),(K,kx)]) o2 (qQ n c kf kl)/\look kx os=some o3/\dr (aY [(kf,0),(kl,1),(K,kx)]) o3 (qA L):=by
 have n1:¬kf=K:=aa
 have n2:¬kl=K:=aa
 have n3:¬0=kx:=aa
 have n4:¬1=kx:=aa
 have r1:aY [(kf,0),(kl,1),(K,kx)] kf=some 0:=by simp[aY,look]
 have r2:aY [(kf,0),(kl,1),(K,kx)] kl=some 1:=by simp[aY,look,h1.symm]
 have r3:aY [(kf,0),(kl,1),(K,kx)] K=some kx:=by simp[aY,look,n1,n2]
 refine⟨.inl he,[3,4],vs,_,kx,vf,vl,row,hv,hkx,by simp[look],?_,by simp[look],?_,by simp[look,n3,n4],?_⟩
 ·rw[hf]
  exact gk rfl fun i hi=>by obtain rfl:i=0:=aa;rw[hf0];exact dH r3 rfl rfl
 ·rw[hl]
  exact gk rfl fun i hi=>BS ⟨⟨rfl,gO rfl (.refl _)⟩,⟨rfl,gx r1⟩,⟨rfl,gx r2⟩,⟨rfl,gO rfl (.refl _)⟩,trivial⟩ rfl
 ·rw[hr]
  exact gk rfl fun i hi=>by rw[hr0 i hi];exact gO rfl (.refl _)
theorem TU {d:Nat} (h:∀K args pre r,oY d K args pre=some r->aP P lE K args pre r):bI P (Kj d):=iQ (aL CF (aL Lk (aL J5 (aL S0 (aL IK (aL h gE))))))
theorem mP.right {n d:Nat} {c:Nat->PP} {x y:Rat} (h:mP n c d x y):dz n c y:=by
 cases d with
 |zero=>exact h.elim
 |succ d=>exact h.2.1
theorem Fj {v z:AV} {i:Nat} (h:i=0):nth [v] z i=v:=by subst h;rfl
theorem sW {l:List (Rat×Rat)} {p:Rat×Rat} {z:AV} {i:Nat} (hi:i<l.length+1):(if i<l.length then dc l i else nth [gh p.1 p.2 ag] z (i-l.length+0))=dc (l++[p]) i:=by
 unfold dc
 rw[Tt]
 split
 ·rfl
 ·rw[Fj aa,show i-l.length=0 by omega];rfl
theorem LC {l:List (Rat×Rat)} {p:Rat×Rat} {z:AV}:iN (fun i=>if i<l.length then dc l i else nth [gh p.1 p.2 ag] z (i-l.length+0)) (l.length+1)=l++[p]:=
 Mo (by simp) fun i hi=>by
  have:=sW (p:=p) (z:=z) hi
  rw[this];rfl
theorem SF {d:Nat} (hd:∀K args pre r,oY d K args pre=some r->aP P lE K args pre r) {n:Nat} {c:Nat->PP} {x y:Rat} {l:List (Rat×Rat)} {kf kl K:Nat} (h1:kl≠kf) (g1:kf<K) (g2:kl<K) (hn0:0<n) (hn:n<2^40) (hz:mP n c (d+1) x y) (hb:l.length+(eo n c (d+1) x y).length<2^30) (cx:Ctx):
  au P cx f67.ntmps HE ⟨aT 0 (DR n c x y),JD n c l,3⟩ fun e s'=>(e=.normal\/e=.ret)/\∃ls vs os kx o1 o2 o3,bk ls s'=some (vs,os)/\2<=kx/\
   look 0 os=some o1/\dr (aY [(kf,0),(kl,1),(K,kx)]) o1 (sF K (l++eo n c (d+1) x y).length)/\look 1 os=some o2/\dr (aY [(kf,0),(kl,1),(K,kx)]) o2 (qQ n c kf kl)/\look kx os=some o3/\dr (aY [(kf,0),(kl,1),(K,kx)]) o3 (qA (l++eo n c (d+1) x y)):=by
 have hW:=cW
 obtain⟨z1,z2,z3⟩:=hz
 have hC:(fun i=>cL (aI (c i)))=c:=rfl
 have hL:eo n c (d+1) x y=if g9 n c x y=0 then []else if g9 n c x y=1 then [(jm x y,je x y)]else
  eo n c d x (dL x y)++(if eF (c 0) (dL x y)=0 then(dL x y,dL x y)::eo n c d (dL x y) y else eo n c d (dL x y) y):=rfl
 have hk:∀{l:List (Rat×Rat)} {i:Nat},i<l.length->keys (dc l i)=[]/\bA (dc l i) (gh (aS (.rat (cB l i).1 ag)) (aS (.rat (cB l i).2 ag)) ag):=fun _=>⟨rfl,.refl _⟩
 have hq:∀{l:List (Rat×Rat)} {p:Rat×Rat} {z:AV} {i:Nat},i<l.length+1->keys (if i<l.length then dc l i else nth [gh p.1 p.2 ag] z (i-l.length+0))=[]/\
   bA (if i<l.length then dc l i else nth [gh p.1 p.2 ag] z (i-l.length+0)) (gh (j7 (if i<l.length then dc l i else nth [gh p.1 p.2 ag] z (i-l.length+0))).1 (j7 (if i<l.length then dc l i else nth [gh p.1 p.2 ag] z (i-l.length+0))).2 ag):=fun hi=>by
  rw[sW hi];exact⟨rfl,.refl _⟩
 refine au.bD hT (TU hd) hm 60 [3,4] Vu Fp.dst ?_
 simp only[af.all,aA,hC,beq_iff_eq,beq_eq_false_iff_ne,ne_eq,bw,bB,Jg]
 refine⟨⟨aa,aa,fun i _=>.refl _,aQ,aQ,hn0,hn,z1,z2⟩,fun b0 s' hv=>?_,fun b0=>⟨fun b1=>⟨⟨aa,aa,aa,aQ,aQ,aa,?_,aa⟩,fun s' hv=>?_⟩,fun b1=>?_⟩⟩
 ·rw[hL,if_pos b0,List.append_nil]
  exact⟨.inl trivial,(xX (L:=l) rfl h1 g1 g2 hv aa rfl rfl rfl rfl fun i _=>rfl).2⟩
 ·rw[hL,if_neg b0,if_pos b1]at hb
  simp only[List.length_cons,List.length_nil]at hb
  omega
 ·rw[hL,if_neg b0,if_pos b1]
  refine⟨.inl trivial,(xX (L:=l++[(jm x y,je x y)]) rfl h1 g1 g2 hv aa rfl rfl (by rw[List.length_append];rfl) (by rw[List.length_append];rfl) fun i hi=>?_).2⟩
  rw[List.length_append]at hi
  exact sW (p:=(jm x y,je x y)) hi
 ·obtain⟨m1,m2,m3⟩:=z3 b0 b1
  rw[hL,if_neg b0,if_neg b1]at hb ⊢
  rw[List.length_append]at hb
  have hl2:(eo n c d (dL x y) y).length<=(if eF (c 0) (dL x y)=0 then(dL x y,dL x y)::eo n c d (dL x y) y else eo n c d (dL x y) y).length:=by
   split
   ·exact Nat.le_succ _
   ·exact Nat.le_refl _
  refine⟨⟨aa,aa,aQ,aQ,m1,aa⟩,⟨aa,aa,aa,aQ,aQ,fun i _=>.refl _,.refl _,.refl _,.refl _,trivial,fun i hi=>hk hi,hn0,hn,m2,aa⟩,⟨aa,aQ,fun i _=>.refl _,hn0,m2.right⟩,fun r0=>⟨⟨aa,aa,aQ,aa,?_,aa⟩,⟨aa,aa,aa,aQ,aQ,fun i _=>.refl _,.refl _,.refl _,.refl _,trivial,fun i hi=>hq (p:=(dL x y,dL x y)) hi,hn0,hn,m3,?_⟩,fun s' hv=>?_⟩,
   fun r0=>⟨⟨aa,aa,aa,aQ,aQ,fun i _=>.refl _,.refl _,.refl _,.refl _,trivial,fun i hi=>hk hi,hn0,hn,m3,?_⟩,fun s' hv=>?_⟩⟩
  ·rw[List.length_append];omega
  ·have r0:eF (c 0) (dL x y)=0:=r0
   rw[if_pos r0,List.length_cons]at hb
   show(l++eo n c d x (dL x y)).length+1+(eo n c d (dL x y) y).length<2^30
   rw[List.length_append];omega
  ·have r0:eF (c 0) (dL x y)=0:=r0
   rw[if_pos r0]
   have e:=LC (l:=l++eo n c d x (dL x y)) (p:=(dL x y,dL x y)) (z:=.agg [.rat 0 1,.rat 0 1])
   dsimp only at e hv
   rw[e]at hv
   rw[show l++(eo n c d x (dL x y)++(dL x y,dL x y)::eo n c d (dL x y) y)=l++eo n c d x (dL x y)++[(dL x y,dL x y)]++eo n c d (dL x y) y by simp[List.append_assoc]]
   exact⟨.inl trivial,(xX rfl h1 g1 g2 hv aa rfl rfl rfl rfl fun i _=>rfl).2⟩
  ·show(l++eo n c d x (dL x y)).length+(eo n c d (dL x y) y).length<2^30
   rw[List.length_append];omega
  ·have r0:¬eF (c 0) (dL x y)=0:=r0
   rw[if_neg r0,<-List.append_assoc]
   exact⟨.inl trivial,(xX rfl h1 g1 g2 hv aa rfl rfl rfl rfl fun i _=>rfl).2⟩
theorem FR {d:Nat} (ih:∀e,d=e+1->∀K args pre r,oY e K args pre=some r->aP P lE K args pre r):bf P (oY d) lE:=by
 intro K args pre r h
 unfold oY at h
 split at h
 ·rename_i x' y' ch kf kl is
  split at h
  ·rename_i x q1 y q2 n c q3 ch1 hx hy hc hi
   split at h
   ·rename_i k0 m f len ch2 is2 hl hcl
    split at h
    ·rename_i ch3 hi3
     split at h
     ·rename_i hk
      simp only[ay]at h
      subst h
      simp only[Bool.and_eq_true,bne_iff_ne,ne_eq,Nat.blt_eq]at hk
      obtain⟨⟨⟨k1,k2⟩,k3⟩,k4⟩:=hk
      obtain⟨e1,l1,l2,l3,l4⟩:=Px hl
      obtain⟨e2,c1,c2,c3⟩:=P2 hcl
      obtain rfl:=GB hi
      obtain rfl:=GB hi3
      intro need
      obtain⟨n1,n2,n3,n4,n5,n6,n7,n8,n9,n10,n11,n12⟩:=need
      have hch:=mz.ok hc n3
      have r0:aY [(0,kf),(1,kl),(2,k0)] 0=some kf:=rfl
      have r1:aY [(0,kf),(1,kl),(2,k0)] 1=some kl:=rfl
      have r2:aY [(0,kf),(1,kl),(2,k0)] 2=some k0:=rfl
      have hcr:∀{ρ:Nat->Option Nat} {u v:AV},bA u v->gi ρ (.bM u) (.bM v):=fun h=>gO rfl (Cu h)
      have hcl:∀{ρ:Nat->Option Nat} {u v:AV},bA u v->gi ρ (.bM (.func p6 [.bM u])) (.bM (.func p6 [.bM v])):=fun h=>hcr (UZ ⟨Cu h,trivial⟩ rfl)
      refine aP.frame (pre:=[(kf,⟨false,true,1,1,e1⟩),(kl,⟨false,true,1,1,e2⟩),(k0,⟨true,true,6,len,f⟩)]) (OM hT Fp (args0:=DR n c x y) (oa0:=sF 2 (iN f m).length) (ob0:=qQ n c 0 1) (oc0:=qA (iN f m)) ah rfl c3 l4 k1 k2 k3 k4 (fun _=>?_) aW (fun _=>⟨?_,?_,?_⟩) (fun _ cx _=>?_)) (fun k o hk=>?_) ⟨n1,n2,n3,n4,n5,n6,n7,n8,n9,n10,n11,n12⟩
      ·exact⟨⟨JA hx,gO (KR hx) ((fP ag).ok hx n1)⟩,⟨JA hy,gO (KR hy) ((fP ag).ok hy n2)⟩,⟨rfl,hcr hch⟩,⟨rfl,gx r0⟩,⟨rfl,gx r1⟩,⟨rfl,hcl n4⟩,trivial⟩
      ·rw[xA]
       exact gk rfl fun i hi=>by obtain rfl:i=0:=aa;rw[l2];exact dH r2 rfl rfl
      ·exact gk rfl fun i hi=>by
        obtain rfl:i=0:=aa
        rw[c2]
        exact BS ⟨⟨rfl,hcr n5⟩,⟨rfl,gx r0⟩,⟨rfl,gx r1⟩,⟨rfl,hcl n6⟩,trivial⟩ rfl
      ·refine gk (by rw[xA];exact n7) fun i hi=>?_
       obtain⟨p1,p2⟩:=n8 i aa
       unfold dc
       rw[SH (show i<m by omega)]
       exact gO p1 p2
      ·cases d with
       |zero=>exact absurd n11 id
       |succ d=>exact SF (ih d rfl) c3 k2 k3 n9 n10 n11 (by rw[xA];exact n12) cx
      ·rcases qO hk with⟨e1,e2⟩|⟨e1,_,e2⟩|⟨e1,_,_,e2⟩<;>subst e1<;>subst e2
       ·exact l1
       ·exact c1
       ·exact l3
     ·simp at h
    ·simp at h
   ·simp at h
  ·simp at h
 ·simp at h
theorem Il:∀d K args pre r,oY d K args pre=some r->aP P lE K args pre r
 |0=>FR fun e h=>absurd h aa
 |d+1=>FR fun e h=>by obtain rfl:d=e:=aa;exact Il d
end Go.Am.B
namespace Go.Am
def sg (f:Nat->Rat):Nat->Rat
 |0=>0
 |n+1=>sg f n+f n
theorem gb {f g:Nat->Rat}:∀{n:Nat},(∀i,i<n->f i=g i)->sg f n=sg g n
 |0,_=>rfl
 |n+1,h=>by rw[sg,sg,gb fun i hi=>h i (by omega),h n (by omega)]
theorem l8 {f:Nat->Rat}:∀{n:Nat},(∀i,i<n->f i=0)->sg f n=0
 |0,_=>rfl
 |n+1,h=>by rw[sg,l8 fun i hi=>h i (by omega),h n (by omega),Rat.add_zero]
theorem tJ {f g:Nat->Rat}:∀{n:Nat},sg (fun i=>f i+g i) n=sg f n+sg g n
 |0=>by simp only[sg];grind
 |n+1=>by rw[sg,sg,sg,tJ];grind
theorem kQ {f:Nat->Rat} {c:Rat}:∀{n:Nat},sg (fun i=>c*f i) n=c*sg f n
 |0=>by simp only[sg];grind
 |n+1=>by rw[sg,sg,kQ];grind
theorem xp {f:Nat->Rat}:∀{n:Nat},sg f (n+1)=f 0+sg (fun i=>f (i+1)) n
 |0=>by simp only[sg];grind
 |n+1=>by rw[sg,xp,sg];grind
theorem xZ {f:Nat->Rat} {n:Nat}:∀{m:Nat},sg f (n+m)=sg f n+sg (fun i=>f (n+i)) m
 |0=>by simp only[sg];show sg f n=_;grind
 |m+1=>by
  show sg f (n+m)+f (n+m)=sg f n+(sg (fun i=>f (n+i)) m+f (n+m))
  rw[xZ];grind
theorem zL {f:Nat->Rat} {n m:Nat} (h:∀i,n<=i->i<m->f i=0) (hm:n<=m):sg f m=sg f n:=by
 obtain⟨l,rfl⟩:∃l,m=n+l:=⟨m-n,by omega⟩
 rw[xZ,l8 (f:=fun i=>f (n+i)) fun i hi=>h _ (by omega) (by omega),Rat.add_zero]
theorem yp {f:Nat->Nat->Rat} {n:Nat}:∀{m:Nat},sg (fun i=>sg (fun j=>f i j) n) m=sg (fun j=>sg (fun i=>f i j) m) n
 |0=>(l8 fun _ _=>rfl).symm
 |m+1=>by
  rw[sg,yp,<-tJ];rfl
theorem pow_add' (t:Rat) (m:Nat):∀n:Nat,t^(m+n)=t^m*t^n
 |0=>by rw[Nat.add_zero,Rat.pow_zero,Rat.mul_one]
 |n+1=>by rw[<-Nat.add_assoc,Rat.pow_succ,pow_add' t m n,Rat.pow_succ,Rat.mul_assoc]
def ev (n:Nat) (k:Nat->Rat) (t:Rat):Rat:=sg (fun i=>k i*t^i) n
theorem oL {n:Nat} {k l:Nat->Rat} {t:Rat} (h:∀i,i<n->k i=l i):ev n k t=ev n l t:=gb fun i hi=>by rw[h i hi]
theorem Yl {n:Nat} {k:Nat->Rat} {t:Rat}:ev (n+1) k t=ev n k t+k n*t^n:=rfl
theorem sO {n:Nat} {k:Nat->Rat} {t:Rat}:ev (n+1) k t=k 0+t*ev n (fun i=>k (i+1)) t:=by
 unfold ev
 rw[xp,<-kQ,Rat.pow_zero,Rat.mul_one]
 congr 1
 exact gb fun i _=>by rw[Rat.pow_succ];grind
theorem I5 {n m:Nat} {k:Nat->Rat} {t:Rat} (h:∀i,n<=i->i<m->k i=0) (hm:n<=m):ev m k t=ev n k t:=zL (fun i h1 h2=>by rw[h i h1 h2,Rat.zero_mul]) hm
theorem sJ {n:Nat} {k l:Nat->Rat} {t:Rat}:ev n (fun i=>k i+l i) t=ev n k t+ev n l t:=by
 unfold ev;rw[<-tJ];exact gb fun i _=>by grind
theorem vv {n:Nat} {k:Nat->Rat} {c t:Rat}:ev n (fun i=>c*k i) t=c*ev n k t:=by
 unfold ev;rw[<-kQ];exact gb fun i _=>by grind
theorem Q8 {n m:Nat} {k:Nat->Rat} {t:Rat}:ev (m+n) (fun i=>if m<=i then k (i-m)else 0) t=t^m*ev n k t:=by
 unfold ev
 rw[xZ,l8 fun i hi=>by dsimp only;rw[if_neg (by omega),Rat.zero_mul],Rat.zero_add,<-kQ]
 exact gb fun i _=>by dsimp only;rw[if_pos (by omega),pow_add',show m+i-m=i by omega];grind
theorem KY {n:Nat} {k:Nat->Rat} {t:Rat}:∀m,m<=n->eR n k t m=ev m (fun i=>k (n-m+i)) t
 |0,_=>rfl
 |m+1,h=>by
  rw[eR,KY m (by omega),sO]
  rw[show n-(m+1)+0=n-1-m by omega,oL (l:=fun i=>k (n-(m+1)+(i+1))) fun i _=>by rw[show n-m+i=n-(m+1)+(i+1) by omega]]
  grind
theorem IU {a:PP} {t:Rat}:eF a t=ev a.1 a.2 t:=by
 unfold eF
 rw[KY _ (Nat.le_refl _)]
 exact oL fun i _=>by rw[Nat.sub_self,Nat.zero_add]
def p7 (n:Nat) (k:Nat->Rat) (c:Rat) (i:Nat):Rat:=eR n k c (n-1-i)
theorem LB {k:Nat->Rat} {c t:Rat}:∀n,ev (n+1) k t=(t-c)*ev n (p7 (n+1) k c) t+ev (n+1) k c
 |0=>by simp only[ev,sg];grind
 |n+1=>by
  -- by the lowest coefficient
  have ih:=LB (k:=fun i=>k (i+1)) (c:=c) (t:=t) n
  have e1:∀m,m<=n+1->eR (n+1+1) k c m=eR (n+1) (fun i=>k (i+1)) c m:=fun m=>by
   induction m with
   |zero=>exact fun _=>rfl
   |succ m ihm=>
    intro hm
    rw[eR,eR,ihm (by omega),show n+1+1-1-m=n+1-1-m+1 by omega]
  have e2:ev (n+1) (p7 (n+1+1) k c) t=ev (n+1) (fun i=>k (i+1)) c+t*ev n (p7 (n+1) (fun i=>k (i+1)) c) t:=by
   rw[sO]
   congr 1
   ·unfold p7
    rw[show n+1+1-1-0=n+1 by omega,e1 (n+1) (Nat.le_refl _)]
    have:=IU (a:=(n+1,fun i=>k (i+1))) (t:=c)
    exact this
   ·congr 1
    refine oL fun i hi=>?_
    unfold p7
    rw[show n+1+1-1-(i+1)=n+1-1-i by omega,e1 _ (by omega)]
  rw[sO (n:=n+1) (t:=t),sO (n:=n+1) (t:=c),ih,e2]
  grind
theorem T3 {a b:Nat} (h:((a:Int):Rat)=((b:Int):Rat)):a=b:=by
 have:(a:Int)=(b:Int):=by exact_mod_cast h
 omega
theorem Gb:∀(n:Nat) (k:Nat->Rat) (s:Nat),(∀j,s<=j->j<s+n->ev n k ((j:Int):Rat)=0)->∀i,i<n->k i=0
 |0,_,_,_=>fun i hi=>absurd hi (Nat.not_lt_zero i)
 |n+1,k,s,h=>by
  have h0:=h s (Nat.le_refl _) (by omega)
  have hq:∀i,i<n->p7 (n+1) k ((s:Int):Rat) i=0:=Gb n _ (s+1) fun j h1 h2=>by
   have:=h j (by omega) (by omega)
   rw[LB (c:=((s:Int):Rat)),h0,Rat.add_zero]at this
   rcases Rat.mul_eq_zero.1 this with h3|h3
   ·have:((j:Int):Rat)=((s:Int):Rat):=by grind
    have:=T3 this
    omega
   ·exact h3
  have hh:∀m,m<=n->eR (n+1) k ((s:Int):Rat) m=0:=fun m hm=>by
   cases m with
   |zero=>rfl
   |succ m=>
    have:=hq (n-(m+1)) (by omega)
    unfold p7 at this
    rwa [show n+1-1-(n-(m+1))=m+1 by omega]at this
  have hl:eR (n+1) k ((s:Int):Rat) (n+1)=0:=by
   have:=IU (a:=(n+1,k)) (t:=((s:Int):Rat))
   exact this.trans h0
  intro i hi
  have e:eR (n+1) k ((s:Int):Rat) (n-i+1)=eR (n+1) k ((s:Int):Rat) (n-i)*((s:Int):Rat)+k (n+1-1-(n-i)):=rfl
  rw[hh (n-i) (by omega),Rat.zero_mul,Rat.zero_add,show n+1-1-(n-i)=i by omega]at e
  rw[<-e]
  rcases Nat.eq_zero_or_pos i with h1|h1
  ·subst h1;exact hl
  ·exact hh _ (by omega)
theorem abA {n:Nat} {k l:Nat->Rat} (h:∀t,ev n k t=ev n l t):∀i,i<n->k i=l i:=fun i hi=>by
 have:=Gb n (fun i=>k i+-1*l i) 0 (fun j _ _=>by
  rw[sJ,vv (k:=l),h];grind) i hi
 grind
def dZ (a:PP) (i:Nat):Rat:=if i<a.1 then a.2 i else 0
def bO (a:PP) (t:Rat):Rat:=ev a.1 a.2 t
theorem oH {a:PP} {t:Rat} {m:Nat} (h:a.1<=m):ev m (dZ a) t=bO a t:=by
 rw[I5 (n:=a.1) (fun i h1 h2=>by unfold dZ;rw[if_neg (by omega)]) h]
 exact oL fun i hi=>by unfold dZ;rw[if_pos hi]
theorem wW {a b:PP} (h:∀t,bO a t=bO b t):∀i,dZ a i=dZ b i:=fun i=>by
 by_cases hi:i<max a.1 b.1
 ·exact abA (n:=max a.1 b.1) (fun t=>by rw[oH (Nat.le_max_left _ _),oH (Nat.le_max_right _ _),h]) i hi
 ·unfold dZ
  rw[if_neg (by omega),if_neg (by omega)]
theorem ya {a b:PP} (ha:Trim a) (h:∀i,dZ a i=dZ b i):a.1<=b.1:=by
 rcases ha with ha|ha
 ·omega
 ·rcases Nat.lt_or_ge b.1 a.1 with h1|h1
  ·have:=h (a.1-1)
   unfold dZ at this
   rw[if_pos (by omega),if_neg (by omega)]at this
   exact absurd this ha
  ·exact h1
theorem ab3 {a b:PP} (ha:Trim a) (hb:Trim b) (h:∀t,bO a t=bO b t):fU a b:=by
 have hc:=wW h
 have h1:=ya ha hc
 have h2:=ya hb fun i=>(hc i).symm
 refine⟨by omega,fun i hi=>?_⟩
 have:=hc i
 unfold dZ at this
 rwa [if_pos hi,if_pos (by omega)]at this
theorem fU.ev {a b:PP} (h:fU a b) (t:Rat):bO a t=bO b t:=by
 unfold bO
 rw[<-h.1]
 exact oL h.2
theorem wU {n:Nat} {k:Nat->Rat} {t:Rat}:ev (br k n) k t=ev n k t:=(I5 (fun i h1 h2=>Bc h1 h2) eI).symm
theorem OV {n e k:Nat} {d r:Nat->Rat} {t:Rat} (h:k+e<n):ev n (fJ e d k r) t=ev n r t-r (k+e)/d e*(t^k*ev (e+1) d t):=by
 obtain⟨l,rfl⟩:∃l,n=k+(e+1)+l:=⟨n-(k+(e+1)),by omega⟩
 have h1:ev (k+(e+1)) (fJ e d k r) t=ev (k+(e+1)) r t-r (k+e)/d e*(t^k*ev (e+1) d t):=by
  rw[<-Q8 (k:=d),Rat.sub_eq_add_neg,<-Rat.neg_mul,<-vv,<-sJ]
  refine oL fun i hi=>?_
  unfold fJ
  by_cases h2:k<=i
  ·rw[if_pos ⟨h2,by omega⟩,if_pos h2];grind
  ·rw[if_neg (by omega),if_neg h2,Rat.mul_zero,Rat.add_zero]
 have h2:∀(f:Nat->Rat),ev (k+(e+1)+l) f t=ev (k+(e+1)) f t+sg (fun i=>f (k+(e+1)+i)*t^(k+(e+1)+i)) l:=fun f=>xZ
 rw[h2,h2 r,h1,gb (f:=fun i=>fJ e d k r (k+(e+1)+i)*t^(k+(e+1)+i)) (g:=fun i=>r (k+(e+1)+i)*t^(k+(e+1)+i)) fun i _=>by unfold fJ;rw[if_neg (by omega)]]
 grind
theorem Fv {n e R:Nat} {d a:Nat->Rat} {t:Rat} (hR:R=n-e):∀j,j<=R->ev n a t=ev n (bP e d a R j) t+ev R (fun k=>if k+j<R then 0 else cY e d a R k) t*ev (e+1) d t
 |0,_=>by
  rw[show ev R (fun k=>if k+0<R then 0 else cY e d a R k) t=0 from l8 fun i hi=>by dsimp only;rw[if_pos (by omega),Rat.zero_mul],Rat.zero_mul,Rat.add_zero];rfl
 |j+1,hj=>by
  have ih:=Fv (t:=t) hR j (by omega) (d:=d) (a:=a)
  have e1:ev n (bP e d a R (j+1)) t=_:=OV (k:=R-1-j) (r:=bP e d a R j) (by omega)
  have e2:bP e d a R j (R-1-j+e)/d e=cY e d a R (R-1-j):=by unfold cY;rw[show R-1-(R-1-j)=j by omega]
  rw[e2]at e1
  have e3:ev R (fun k=>if k+(j+1)<R then 0 else cY e d a R k) t=ev R (fun k=>if k+j<R then 0 else cY e d a R k) t+cY e d a R (R-1-j)*t^(R-1-j):=by
   have:∀i,(if i+(j+1)<R then 0 else cY e d a R i)=(if i+j<R then 0 else cY e d a R i)+(if i=R-1-j then cY e d a R (R-1-j)else 0):=fun i=>by
    by_cases h1:i+(j+1)<R
    ·rw[if_pos h1,if_pos (by omega),if_neg (by omega),Rat.add_zero]
    ·rw[if_neg h1]
     by_cases h2:i=R-1-j
     ·rw[if_pos (by omega),if_pos h2,Rat.zero_add,h2]
     ·rw[if_neg (by omega),if_neg h2,Rat.add_zero]
   rw[show(fun k=>if k+(j+1)<R then 0 else cY e d a R k)=fun i=>(if i+j<R then 0 else cY e d a R i)+(if i=R-1-j then cY e d a R (R-1-j)else 0)from funext this,sJ]
   congr 1
   -- a single power
   unfold ev
   rw[zL (n:=R-1-j+1) (fun i h1 h2=>by dsimp only;rw[if_neg (by omega),Rat.zero_mul]) (by omega),sg,l8 fun i hi=>by dsimp only;rw[if_neg (by omega),Rat.zero_mul],Rat.zero_add]
   dsimp only
   rw[if_pos rfl]
  rw[e1,e3,ih]
  grind
theorem Dw {a d:PP} (hd:0<d.1) (t:Rat):bO a t=bO (eZ a d) t*bO d t+bO (cw a d) t:=by
 have:=Fv (n:=a.1) (e:=d.1-1) (d:=d.2) (a:=a.2) (t:=t) rfl _ (Nat.le_refl _)
 rw[show d.1-1+1=d.1 by omega]at this
 have e1:bO (eZ a d) t=ev _ _ t:=wU
 have e2:bO (cw a d) t=ev _ _ t:=wU
 show ev a.1 a.2 t=bO (eZ a d) t*ev d.1 d.2 t+bO (cw a d) t
 rw[e1,e2,this]
 rw[oL (k:=fun k=>if k+(a.1-(d.1-1))<a.1-(d.1-1)then 0 else cY (d.1-1) d.2 a.2 (a.1-(d.1-1)) k) (l:=cY (d.1-1) d.2 a.2 (a.1-(d.1-1))) fun i hi=>if_neg (by omega)]
 grind
def cs:Nat->(Nat->Rat)->Rat->Rat
 |0,p,_=>p 0
 |m+1,p,t=>(1-t)*cs m p t+t*cs m (fun i=>p (i+1)) t
abbrev bq (n k:Nat):Rat:=((bn n k:Int):Rat)
theorem HM (n k:Nat):bq (n+1) (k+1)=bq n k+bq n (k+1):=by
 show((bn (n+1) (k+1):Int):Rat)=_
 rw[mX,Int.natCast_add,Rat.intCast_add]
theorem s6 (n:Nat):bq n 0=1:=by show((bn n 0:Int):Rat)=1;rw[ov];rfl
theorem DX {n k:Nat} (h:n<k):bq n k=0:=by show((bn n k:Int):Rat)=0;rw[mM h];rfl
theorem LU {n k:Nat} (h:k<=n):bq n k≠0:=by
 intro h0
 have h1:((bn n k:Int):Rat).num=(0:Rat).num:=congrArg Rat.num h0
 rw[Rat.num_intCast,show(0:Rat).num=0 from rfl]at h1
 have:=AL h
 omega
theorem CB {p:Nat->Rat}:∀k i,fe p k (i+1)=fe (fun i=>p (i+1)) k i
 |0,_=>rfl
 |k+1,i=>by rw[fe,fe,CB (p:=p) k (i+1),CB (p:=p) k i]
theorem D3:∀(m:Nat) (p:Nat->Rat) (t:Rat),ev (m+1) (fun k=>bq m k*fe p k 0) t=cs m p t
 |0,p,t=>by
  show 0+bq 0 0*p 0*t^0=p 0
  rw[s6,Rat.pow_zero];grind
 |m+1,p,t=>by
  have h1:=D3 m p t
  have h2:=D3 m (fun i=>p (i+1)) t
  rw[cs,<-h1,<-h2,sO (n:=m+1)]
  have e1:∀k,bq (m+1) (k+1)*fe p (k+1) 0=bq m (k+1)*fe p (k+1) 0+(bq m k*fe (fun i=>p (i+1)) k 0+-1*(bq m k*fe p k 0)):=fun k=>by
   rw[HM,<-CB]
   have:fe p (k+1) 0=fe p k 1-fe p k 0:=rfl
   rw[this];grind
  rw[show(fun i=>bq (m+1) (i+1)*fe p (i+1) 0)=fun k=>bq m (k+1)*fe p (k+1) 0+(bq m k*fe (fun i=>p (i+1)) k 0+-1*(bq m k*fe p k 0))from funext e1,sJ,sJ,vv]
  rw[Yl (k:=fun k=>bq m (k+1)*fe p (k+1) 0),DX (Nat.lt_succ_self m),Rat.zero_mul,Rat.zero_mul,Rat.add_zero]
  rw[sO (k:=fun k=>bq m k*fe p k 0),s6,s6]
  have:fe p 0 0=p 0:=rfl
  rw[this]
  generalize ev m (fun i=>bq m (i+1)*fe p (i+1) 0) t=A
  generalize ev (m+1) (fun k=>bq m k*fe (fun i=>p (i+1)) k 0) t=B
  grind
theorem Z5 {m:Nat} {p:Nat->Rat} {t:Rat}:ev (m+1) (fk (m+1) p) t=cs m p t:=D3 m p t
def hv (m:Nat) (u:Nat->Rat) (x y:Rat):Rat:=sg (fun i=>u i*(x^i*y^(m-i))) (m+1)
theorem uD:∀(m:Nat) (p:Nat->Rat) (t:Rat),hv m (fun i=>bq m i*p i) t (1-t)=cs m p t
 |0,p,t=>by
  show 0+bq 0 0*p 0*(t^0*(1-t)^0)=p 0
  rw[s6,Rat.pow_zero,Rat.pow_zero];grind
 |m+1,p,t=>by
  have h1:=uD m p t
  have h2:=uD m (fun i=>p (i+1)) t
  rw[cs,<-h1,<-h2]
  unfold hv
  rw[xp (n:=m+1)]
  dsimp only
  rw[s6]
  have e1:∀i,i<m+1->bq (m+1) (i+1)*p (i+1)*(t^(i+1)*(1-t)^(m+1-(i+1)))=t*(bq m i*p (i+1)*(t^i*(1-t)^(m-i)))+bq m (i+1)*p (i+1)*(t^(i+1)*(1-t)^(m-i)):=fun i hi=>by
   rw[HM,show m+1-(i+1)=m-i by omega,Rat.pow_succ];grind
  rw[gb e1,tJ,kQ]
  have e2:sg (fun i=>bq m (i+1)*p (i+1)*(t^(i+1)*(1-t)^(m-i))) (m+1)=sg (fun i=>(1-t)*(bq m (i+1)*p (i+1)*(t^(i+1)*(1-t)^(m-(i+1))))) m:=by
   rw[sg,DX (Nat.lt_succ_self m),Rat.zero_mul,Rat.zero_mul,Rat.add_zero]
   exact gb fun i hi=>by rw[show m-i=m-(i+1)+1 by omega,Rat.pow_succ (1-t)];grind
  rw[e2,kQ,xp (f:=fun i=>bq m i*p i*(t^i*(1-t)^(m-i))),s6,Rat.pow_zero,Nat.sub_zero,Nat.sub_zero,Rat.pow_succ]
  generalize sg (fun i=>bq m (i+1)*p (i+1)*(t^(i+1)*(1-t)^(m-(i+1)))) m=A
  generalize sg (fun i=>bq m i*p (i+1)*(t^i*(1-t)^(m-i))) (m+1)=B
  grind
def jb (m n:Nat) (u v:Nat->Rat) (k:Nat):Rat:=sg (fun i=>sg (fun j=>if i+j=k then u i*v j else 0) (n+1)) (m+1)
theorem CO {f:Nat->Rat} {i n:Nat} (hi:i<n) (h:∀j,j<n->j≠i->f j=0):sg f n=f i:=by
 rw[zL (n:=i+1) (fun j h1 h2=>h j h2 (by omega)) (by omega),sg,l8 fun j hj=>h j (by omega) (by omega),Rat.zero_add]
theorem Eg {m n:Nat} {u v X:Nat->Rat}:sg (fun k=>jb m n u v k*X k) (m+n+1)=sg (fun i=>sg (fun j=>u i*v j*X (i+j)) (n+1)) (m+1):=by
 unfold jb
 have e1:∀k,sg (fun i=>sg (fun j=>if i+j=k then u i*v j else 0) (n+1)) (m+1)*X k=sg (fun i=>sg (fun j=>if i+j=k then u i*v j*X k else 0) (n+1)) (m+1):=fun k=>by
  rw[Rat.mul_comm,<-kQ]
  refine gb fun i _=>?_
  rw[<-kQ]
  refine gb fun j _=>?_
  by_cases h:i+j=k
  ·rw[if_pos h,if_pos h];grind
  ·rw[if_neg h,if_neg h,Rat.mul_zero]
 rw[gb fun k _=>e1 k,yp]
 refine gb fun i hi=>?_
 rw[yp]
 refine gb fun j hj=>?_
 rw[CO (i:=i+j) (by omega) fun k _ h=>if_neg fun h'=>h h'.symm,if_pos rfl]
theorem Ov {m n:Nat} {u v:Nat->Rat} {x y:Rat}:hv (m+n) (jb m n u v) x y=hv m u x y*hv n v x y:=by
 unfold hv
 rw[Eg (X:=fun k=>x^k*y^(m+n-k)),<-kQ (f:=fun i=>v i*(x^i*y^(n-i)))]
 rw[show(fun i=>sg (fun i=>u i*(x^i*y^(m-i))) (m+1)*(v i*(x^i*y^(n-i))))=fun j=>sg (fun i=>v j*(x^j*y^(n-j))*(u i*(x^i*y^(m-i)))) (m+1)from funext fun j=>by rw[kQ];grind]
 rw[<-yp]
 refine gb fun i hi=>gb fun j hj=>?_
 rw[show m+n-(j+i)=(m-j)+(n-i) by omega,pow_add',pow_add'];grind
def jc (m n:Nat) (p q:Nat->Rat) (k:Nat):Rat:=jb m n (fun i=>bq m i*p i) (fun j=>bq n j*q j) k/bq (m+n) k
theorem Sj {m n:Nat} {p q:Nat->Rat} {t:Rat}:cs (m+n) (jc m n p q) t=cs m p t*cs n q t:=by
 rw[<-uD,<-uD,<-uD,<-Ov]
 unfold hv
 refine gb fun i hi=>?_
 show bq (m+n) i*jc m n p q i*_=jb _ _ _ _ i*_
 rw[show bq (m+n) i*jc m n p q i=jb m n (fun i=>bq m i*p i) (fun j=>bq n j*q j) i from by unfold jc;rw[Rat.mul_comm,Rat.div_mul_cancel (LU (by omega))]]
def C4 (a b:PP):PP:=(max a.1 b.1,fun i=>dZ a i+dZ b i)
def Ax (r:Rat) (a:PP):PP:=(a.1,fun i=>r*a.2 i)
def fl (a b:PP):PP:=(a.1+b.1+1,jb a.1 b.1 (dZ a) (dZ b))
theorem I7 {a b:PP} {t:Rat}:bO (C4 a b) t=bO a t+bO b t:=by
 show ev (max a.1 b.1) (fun i=>dZ a i+dZ b i) t=_
 rw[sJ,oH (Nat.le_max_left _ _),oH (Nat.le_max_right _ _)]
theorem BA {r:Rat} {a:PP} {t:Rat}:bO (Ax r a) t=r*bO a t:=vv
theorem Cn {m n:Nat} {f g:Nat->Rat}:sg (fun i=>sg (fun j=>f i*g j) n) m=sg f m*sg g n:=by
 rw[Rat.mul_comm,<-kQ]
 exact gb fun i _=>by rw[kQ,Rat.mul_comm]
theorem jj {a b:PP} {t:Rat}:bO (fl a b) t=bO a t*bO b t:=by
 rw[<-oH (a:=a) (Nat.le_succ a.1),<-oH (a:=b) (Nat.le_succ b.1)]
 show sg (fun k=>jb a.1 b.1 (dZ a) (dZ b) k*t^k) (a.1+b.1+1)=_
 rw[Eg (X:=fun k=>t^k)]
 unfold ev
 rw[<-Cn]
 exact gb fun i _=>gb fun j _=>by rw[pow_add'];grind
def dX (t:Rat) (i:Nat):Rat:=((i:Int):Rat)*t^(i-1)
theorem Qr {t:Rat} {i j:Nat}:dX t (i+j)=dX t i*t^j+t^i*dX t j:=by
 unfold dX
 cases i with
 |zero=>
  rw[Nat.zero_add,Rat.pow_zero,show((0:Nat):Int)=0 from rfl,show((0:Int):Rat)=0 from rfl];grind
 |succ i=>
  cases j with
  |zero=>rw[Nat.add_zero,Rat.pow_zero,show((0:Nat):Int)=0 from rfl,show((0:Int):Rat)=0 from rfl];grind
  |succ j=>
   rw[show i+1+(j+1)-1=i+(j+1) by omega,show i+1-1=i by omega,show j+1-1=j by omega,show((i+1+(j+1):Nat):Int)=((i+1:Nat):Int)+((j+1:Nat):Int) by omega,Rat.intCast_add,pow_add',Rat.pow_succ,Rat.pow_succ];grind
def nj (a:PP) (t:Rat):Rat:=sg (fun i=>a.2 i*dX t i) a.1
theorem Ar {a:PP} {t:Rat} {m:Nat} (h:a.1<=m):sg (fun i=>dZ a i*dX t i) m=nj a t:=by
 rw[zL (n:=a.1) (fun i h1 h2=>by unfold dZ;rw[if_neg (by omega),Rat.zero_mul]) h]
 exact gb fun i hi=>by unfold dZ;rw[if_pos hi]
theorem oV {a:PP} {t:Rat}:bO (bQ a) t=nj a t:=by
 have e1:bO (bQ a) t=ev (a.1-1) (cT a.2) t:=wU
 rw[e1]
 unfold nj
 rcases Nat.eq_zero_or_pos a.1 with h|h
 ·rw[h];rfl
 ·obtain⟨n,hn⟩:∃n,a.1=n+1:=⟨a.1-1,by omega⟩
  rw[hn,xp,show n+1-1=n by omega]
  have:dX t 0=0:=by unfold dX;rw[show((0:Nat):Int)=0 from rfl,show((0:Int):Rat)=0 from rfl,Rat.zero_mul]
  rw[this,Rat.mul_zero,Rat.zero_add]
  refine gb fun i _=>?_
  unfold cT dX
  rw[show i+1-1=i by omega];grind
theorem Jq {a b:PP} (h:∀t,bO a t=bO b t) (t:Rat):nj a t=nj b t:=by
 rw[<-Ar (Nat.le_max_left a.1 b.1),<-Ar (Nat.le_max_right a.1 b.1)]
 exact gb fun i _=>by rw[wW h i]
theorem B2 {a b c:PP} (h:∀t,bO c t=bO a t*bO b t) (t:Rat):nj c t=nj a t*bO b t+bO a t*nj b t:=by
 rw[Jq (b:=fl a b) (fun t=>by rw[h,jj]) t]
 show sg (fun k=>jb a.1 b.1 (dZ a) (dZ b) k*dX t k) (a.1+b.1+1)=_
 rw[Eg (X:=dX t),<-Ar (a:=a) (Nat.le_succ a.1),<-Ar (a:=b) (Nat.le_succ b.1),<-oH (a:=a) (Nat.le_succ a.1),<-oH (a:=b) (Nat.le_succ b.1)]
 unfold ev
 rw[<-Cn,<-Cn,<-tJ]
 refine gb fun i _=>?_
 rw[<-tJ]
 exact gb fun j _=>by rw[Qr];grind
def Dv (h a:PP):Prop:=∃w:PP,∀t,bO a t=bO h t*bO w t
def kP:PP:=(1,fun _=>1)
theorem pE {t:Rat}:bO kP t=1:=by show 0+1*t^0=1;rw[Rat.pow_zero];grind
theorem Dv.refl (a:PP):Dv a a:=⟨kP,fun t=>by rw[pE,Rat.mul_one]⟩
theorem Dv.of_eq {h a b:PP} (hd:Dv h a) (e:∀t,bO a t=bO b t):Dv h b:=hd.imp fun w hw t=>by rw[<-e,hw]
theorem Dv.trans {a b c:PP} (h1:Dv a b) (h2:Dv b c):Dv a c:=by
 obtain⟨v,hv⟩:=h1
 obtain⟨w,hw⟩:=h2
 exact⟨fl v w,fun t=>by rw[hw,hv,jj,Rat.mul_assoc]⟩
theorem Dv.comb {h a b c u v:PP} (ha:Dv h a) (hb:Dv h b) (e:∀t,bO c t=bO u t*bO a t+bO v t*bO b t):Dv h c:=by
 obtain⟨x,hx⟩:=ha
 obtain⟨y,hy⟩:=hb
 exact⟨C4 (fl u x) (fl v y),fun t=>by rw[e,hx,hy,I7,jj,jj];grind⟩
theorem Dv.Ci {h a:PP} (ha:Dv h a) (r:Rat) {b:PP} (e:∀t,bO b t=r*bO a t):Dv h b:=by
 obtain⟨x,hx⟩:=ha
 exact⟨Ax r x,fun t=>by rw[e,hx,BA];grind⟩
theorem Dv.rem {h a d:PP} (hd:0<d.1) (h1:Dv h a) (h2:Dv h d):Dv h (cw a d):=
 Dv.comb (u:=kP) (v:=Ax (-1) (eZ a d)) h1 h2 fun t=>by rw[Dw (a:=a) hd t,pE,BA];grind
theorem Lc {a:PP} {t:Rat}:bO (dO a) t=(a.2 (a.1-1))⁻¹*bO a t:=by
 show ev a.1 (cu a.1 a.2) t=_
 rw[show bO a t=ev a.1 a.2 t from rfl,<-vv]
 exact oL fun i _=>by unfold cu;rw[Rat.div_def,Rat.mul_comm]
theorem Ra {a:PP} (ha:Trim a) {t:Rat}:bO a t=a.2 (a.1-1)*bO (dO a) t:=by
 rw[Lc,<-Rat.mul_assoc]
 rcases ha with h|h
 ·have:bO a t=0:=by show ev a.1 a.2 t=0;rw[h];rfl
  rw[this,Rat.mul_zero]
 ·rw[Rat.mul_inv_cancel _ h,Rat.one_mul]
theorem Dv.cu {h a:PP} (h1:Dv h a):Dv h (dO a):=h1.Ci _ fun _=>Lc
theorem Dv.KE {h a:PP} (ha:Trim a) (h1:Dv h (dO a)):Dv h a:=h1.Ci _ fun _=>Ra ha
theorem Ie {h:PP} {s:PP×PP} (h1:Dv h s.1) (h2:Dv h s.2):∀j,Dv h (bJ s j).1/\Dv h (bJ s j).2
 |0=>⟨h1,h2⟩
 |j+1=>by
  obtain⟨i1,i2⟩:=Ie h1 h2 j
  show Dv h (fo _).1/\Dv h (fo _).2
  unfold fo
  by_cases h0:(bJ s j).2.1=0
  ·rw[if_pos h0];exact⟨i1,i2⟩
  ·rw[if_neg h0];exact⟨i2,(i1.rem (by omega) i2).cu⟩
theorem Pj {h a b:PP} (h1:Dv h a) (h2:Dv h b):Dv h (bS a b):=(Ie (s:=(a,b)) h1 h2 _).1.cu
theorem B5 {h:PP} {s:PP×PP} (t1:Trim s.1) (t2:Trim s.2):∀j,Dv h (bJ s j).1->Dv h (bJ s j).2->Dv h s.1/\Dv h s.2
 |0,h1,h2=>⟨h1,h2⟩
 |j+1,h1,h2=>by
  have h1:Dv h (fo (bJ s j)).1:=h1
  have h2:Dv h (fo (bJ s j)).2:=h2
  unfold fo at h1 h2
  by_cases h0:(bJ s j).2.1=0
  ·rw[if_pos h0]at h1 h2;exact B5 t1 t2 j h1 h2
  ·rw[if_neg h0]at h1 h2
   refine B5 t1 t2 j (Dv.comb (u:=eZ (bJ s j).1 (bJ s j).2) (v:=kP) h1 (h2.KE oN) fun t=>?_) h1
   rw[pE,Rat.one_mul]
   exact Dw (a:=(bJ s j).1) (d:=(bJ s j).2) (by omega) t
theorem qD {a:PP} (h:a.1=0) (t:Rat):bO a t=0:=by show ev a.1 a.2 t=0;rw[h];rfl
theorem adf {a b:PP} (t1:Trim a) (t2:Trim b):Dv (bS a b) a/\Dv (bS a b) b:=by
 have h0:(bJ (a,b) b.1).2.1=0:=by have:=wV (s:=(a,b)) t1 t2 b.1;dsimp only at this;omega
 have ht:=mI (s:=(a,b)) t1 t2 b.1
 refine B5 (s:=(a,b)) t1 t2 b.1 (Dv.KE ht.1 (Dv.refl _)) ⟨(0,fun _=>0),fun t=>?_⟩
 rw[qD h0,qD (a:=(0,fun _=>(0:Rat))) rfl,Rat.mul_zero]
theorem A5 {a:PP} (h:0<a.1) (ht:Trim a):dZ a (a.1-1)≠0:=by
 unfold dZ
 rw[if_pos (by omega)]
 rcases ht with h'|h'
 ·omega
 ·exact h'
theorem U8 {a b:PP} (ha:0<a.1) (hb:0<b.1) (ta:Trim a) (tb:Trim b):dZ (fl a b) (a.1-1+(b.1-1))≠0:=by
 have e:dZ (fl a b) (a.1-1+(b.1-1))=jb a.1 b.1 (dZ a) (dZ b) (a.1-1+(b.1-1)):=by
  show(if _<a.1+b.1+1 then _ else _)=_
  rw[if_pos (by omega)];rfl
 rw[e]
 unfold jb
 have z:∀{c:PP} {i:Nat},c.1<=i->dZ c i=0:=fun h=>by unfold dZ;rw[if_neg (by omega)]
 rw[CO (i:=a.1-1) (by omega) fun i hi hne=>l8 fun j hj=>by
  by_cases h:i+j=a.1-1+(b.1-1)
  ·rw[if_pos h]
   by_cases h2:a.1<=i
   ·rw[z h2,Rat.zero_mul]
   ·rw[z (c:=b) (i:=j) (by omega),Rat.mul_zero]
  ·rw[if_neg h],CO (i:=b.1-1) (by omega) fun j hj hne=>if_neg (by omega),if_pos rfl]
 exact fun h0=>(Rat.mul_eq_zero.1 h0).elim (A5 ha ta) (A5 hb tb)
def gU (a:PP):PP:=(br a.2 a.1,a.2)
theorem nE {a:PP} (t:Rat):bO (gU a) t=bO a t:=wU
theorem oC {a:PP}:Trim (gU a):=lK
theorem CR {a b c:PP} (h:∀t,bO c t=bO a t*bO b t) (hc:0<c.1) (tc:Trim c) (ta:Trim a) (tb:Trim b):0<a.1/\0<b.1/\c.1=a.1-1+(b.1-1)+1:=by
 have h0:¬∀t,bO c t=bO (0,fun _=>0) t:=fun h1=>by
  have:=ya tc fun i=>wW h1 i
  dsimp only at this;omega
 have ha:0<a.1:=by
  rcases Nat.eq_zero_or_pos a.1 with h1|h1
  ·exact absurd (fun t=>by rw[h,qD h1,qD (a:=(0,fun _=>(0:Rat))) rfl,Rat.zero_mul]) h0
  ·exact h1
 have hb:0<b.1:=by
  rcases Nat.eq_zero_or_pos b.1 with h1|h1
  ·exact absurd (fun t=>by rw[h,qD h1,qD (a:=(0,fun _=>(0:Rat))) rfl,Rat.mul_zero]) h0
  ·exact h1
 have hcf:∀i,dZ c i=dZ (fl a b) i:=wW fun t=>by rw[h,jj]
 refine⟨ha,hb,?_⟩
 have h1:a.1-1+(b.1-1)<c.1:=by
  rcases Nat.lt_or_ge (a.1-1+(b.1-1)) c.1 with h2|h2
  ·exact h2
  ·exact absurd (by rw[<-hcf];unfold dZ;rw[if_neg (by omega)]) (U8 ha hb ta tb)
 have h2:¬a.1-1+(b.1-1)+1<c.1:=fun h3=>by
  have:=A5 hc tc
  rw[hcf]at this
  refine this ?_
  show(if _<a.1+b.1+1 then jb a.1 b.1 (dZ a) (dZ b) (c.1-1)else 0)=0
  split
  ·unfold jb
   refine l8 fun i hi=>l8 fun j hj=>?_
   have z:∀{c:PP} {i:Nat},c.1<=i->dZ c i=0:=fun h=>by unfold dZ;rw[if_neg (by omega)]
   by_cases h4:i+j=c.1-1
   ·rw[if_pos h4]
    by_cases h5:a.1<=i
    ·rw[z h5,Rat.zero_mul]
    ·rw[z (c:=b) (i:=j) (by omega),Rat.mul_zero]
   ·rw[if_neg h4]
  ·rfl
 omega
theorem Dv.len {h g:PP} (hd:Dv h g) (hg:0<g.1) (tg:Trim g) (th:Trim h):h.1<=g.1:=by
 obtain⟨w,hw⟩:=hd
 have:=CR (b:=gU w) (fun t=>by rw[hw,nE]) hg tg th oC
 omega
structure jD (c h f:PP):Prop where
 eq:∀t,bO c t=bO h t*bO f t
 dv:Dv h (bQ c)
theorem jD.one:jD kP kP kP:=⟨fun t=>by rw[pE,Rat.mul_one],⟨bQ kP,fun t=>by rw[pE,Rat.one_mul]⟩⟩
theorem jD.US {c h f q c':PP} (s:jD c h f) (e:∀t,bO c' t=bO c t*bO q t):jD c' h (fl f q):=
 ⟨fun t=>by rw[e,s.eq,jj,Rat.mul_assoc],Dv.comb (u:=q) (v:=bQ q) s.dv ⟨f,s.eq⟩ fun t=>by rw[oV,B2 e,oV,oV];grind⟩
theorem jD.acq {c h f q c':PP} (s:jD c h f) (e:∀t,bO c' t=bO c t*bO q t*bO q t):jD c' (fl h q) (fl f q):=by
 refine⟨fun t=>by rw[e,s.eq,jj,jj];grind,?_⟩
 obtain⟨w,hw⟩:=s.dv
 refine⟨C4 (fl w q) (Ax 2 (fl f (bQ q))),fun t=>?_⟩
 have e1:∀t,bO (fl c q) t=bO c t*bO q t:=fun t=>jj
 have e2:∀t,bO c' t=bO (fl c q) t*bO q t:=fun t=>by rw[e,e1]
 have hw':nj c t=bO h t*bO w t:=by rw[<-oV];exact hw t
 rw[oV,B2 e2,B2 e1,e1,hw',I7,BA,jj,jj,jj,oV,s.eq]
 grind
end Go.Am
namespace Go.Am.B
open Go Go.Am.N AV af aq IntKind Proofs.Tryz
def mF (d:Nat):bh:=nG::(57,wI)::(59,Bu)::(p6,A0)::(lE,oY d)::(70,Cl)::(72,yI)::(73,pT)::(74,F3)::gB
abbrev EG:Code:=aH f18
abbrev uT:Code:=part EG [1,1,1,1,1,1,1,1,1]
abbrev tW:Code:=part uT [1,1,1,1,1]
abbrev uZ:Code:=part tW [0,1,0,0]
abbrev vr:Code:=part uZ [1,0,0]
abbrev C0:List Nat:=[2,3,4,6,7,8,9,10]
abbrev I0 (a:PP):List AV:=[.nil,.int .i64 0,aI a,.ptr 0 0 1 0 [],.ptr 3 0 1 0 [],.ptr 1 0 1 0 [],.ptr 4 0 3 0 [],.ptr 5 0 3 0 []]
abbrev Ka (n:Nat) (c:Nat->PP) (l:List (Rat×Rat)):aE:=[(0,sF 2 l.length),(1,qQ n c 0 1),(2,qA l),(3,⟨false,false,1,1,fun _=>AZ n c⟩),(4,tR 0 ag),(5,tR 1 ag)]
abbrev xB:List Nat:=[4,11,50,51,52]
abbrev Gg (l:List (Rat×Rat)) (g:Nat->Nat) (m:Nat):ax:=⟨true,true,7,m,fun j=>.agg [dc l j,.int .i64 (g j)]⟩
abbrev yw (a:PP) (m i:Nat):List AV:=[aI a,.own 1 7 0 i,.own 0 6 0 m,.int .i64 m,.int .i64 i]
abbrev zf (l:List (Rat×Rat)) (g:Nat->Nat) (i:Nat):aE:=[(0,qA l),(1,Gg l g i)]
abbrev qJ:List Nat:=[4,11]
abbrev z7 (a:PP) (m:Nat):List AV:=[aI a,.own 0 7 0 m]
abbrev rB (l:List (Rat×Rat)) (g:Nat->Nat) (m:Nat):aE:=[(0,Gg l g m)]
abbrev vw:List Nat:=[4,11,14,75,76,77]
abbrev Dx (a:PP) (n:Nat) (c:Nat->PP) (m i:Nat):List AV:=[aI a,.own 0 7 0 m,ec n c,.own 0 7 0 m,.int .i64 m,.int .i64 i]
abbrev vN (v w:AV):ax:=⟨false,true,1,1,fun j=>if(j==0)=true then v else w⟩
abbrev vM (v w:AV):ax:=⟨false,true,3,1,fun j=>if(j==0)=true then v else w⟩
def fc (a:PP):Nat->PP
 |0=>bS a (bQ a)
 |j+1=>bS (fc a j) (bQ (fc a j))
def nR (a:PP):Nat->Nat->Nat
 |0,j=>j
 |f+1,j=>if 1<(fc a j).1 then nR a f (j+1)else j
def jI (a:PP) (l:List (Rat×Rat)):Nat->Nat->Nat
 |0,_=>1
 |j+1,i=>if sM (cq (fc a j)) (cH (fc a j)) (cB l i).1 (cB l i).2=true then jI a l j i+1 else jI a l j i
def LO (d n:Nat) (c:Nat->PP):List (Rat×Rat):=(if eF (c 0) 0=0 then [(0,0)]else [])++eo n c d 0 1++(if eF (c 0) 1=0 then [(1,1)]else [])
def iT (d:Nat) (p:PP):List (Rat×Rat):=if(az p).1=0 then []else LO d (cq (az p)) (cH (az p))
def o8 (d:Nat) (p:PP) (i:Nat):Nat:=jI (az p) (iT d p) (nR (az p) (az p).1 0) i
abbrev wj (l:List (Rat×Rat)) (g:Nat->Nat) (j:Nat):AV:=.agg [dc l j,.int .i64 (g j)]
abbrev DD (d:Nat) (p:PP):AV:=.tuple [.ak 7 (iT d p).length (wj (iT d p) (o8 d p)),.int .i64 (if(az p).1=0 then 3 else 0)]
def DM (x:PP):Prop:=cG (x.1-1) (cT x.2)/\jQ (x,bQ x)
def Ac (d:Nat) (p:PP):Prop:=dm p/\((az p).1≠0->lW (az p)/\cq (az p)<2^40/\dz (cq (az p)) (cH (az p)) 0/\dz (cq (az p)) (cH (az p)) 1/\mP (cq (az p)) (cH (az p)) d 0 1/\(iT d p).length<2^30/\DM (az p)/\
 ∀j,1<(fc (az p) j).1->DM (fc (az p) j)/\lW (fc (az p) j)/\cq (fc (az p) j)<2^40/\∀i,i<(iT d p).length->dz (cq (fc (az p) j)) (cH (fc (az p) j)) (cB (iT d p) i).1/\dz (cq (fc (az p) j)) (cH (fc (az p) j)) (cB (iT d p) i).2)
theorem JS:aX 18 f18:=aZ func18
theorem abY {d:Nat} {p:PP}:aG T (mF d) [20] 60 C0 (before EG [1,1,1,1,1,1,1,1,1]) ⟨aT 0 [aI p],[],0⟩=
  some (aj [aR p,dm p] (fork (((az p).1:Int)==0) (leaf ret ([.nil,.int .i64 3,aI (az p),.tuple [],.tuple [],.tuple [],.tuple [],.tuple []],[]))
   (aj [aR (az p),lW (az p),(0:Nat)<1] (aj [(0:Nat)<1] (aj [(0:Nat)<1] (aj [-2^63<=(0:Int),(0:Int)<2^63,-2^63<=(1:Int),(1:Int)<2^63,(0:Nat)<1,(0:Nat)<1]
    (leaf normal ([.nil,.int .i64 0,aI (az p),.ptr 49152 0 1 0 [],.ptr 57344 0 1 0 [],.ptr 65536 0 1 0 [],.ptr 86016 0 3 0 [],.ptr 90112 0 3 0 []],
     [(65536,vN (JQ (cq (az p)) (cH (az p)) 49152 65536) .void),(49152,⟨false,true,1,1,fun _=>.nil⟩),(90112,vM (.rat ((1:Int):Rat) (max 1 (bK (Int.natAbs 1)))) (.rat 0 1)),(86016,vM (.rat ((0:Int):Rat) (max 1 (bK (Int.natAbs 0)))) (.rat 0 1)),(57344,⟨false,false,1,1,fun j=>if(j==0)=true then AZ (cq (az p)) (cH (az p))else .void⟩)])))))))):=ah
theorem VH {d n:Nat} {c:Nat->PP} {a:PP} {l:List (Rat×Rat)}:aG T (mF d) [29,41] 60 xB (before uT [1,1,1,1,0,1]) ⟨aC C0 (I0 a),Ka n c l,6⟩=
  let c36:AV:=rat 0 1;let c35:Prop:=n<2^40;let c30:Prop:=0<n;let c29:Nat:=l.length;let c28:Nat:=2^47;let c27:Nat:=112+1;let c26:PP:=cL (aI (c 0));let c25:AV:=rat 1 ag;let c24:AV:=own 73734 7 0 0;let c23:Prop:=ag<=ag;let c22:Prop:=mP n (fun i=>cL (aI (c i))) d 0 1;let c21:Int:=(↑(120:Nat):Int);let c20:Prop:=(0:Int)<=0;let c17:List AV:=[int i64 0];let c16:Prop:=aA [∀(i:Nat),i<n->bA (aI (c i)) (aI (cL (aI (c i))))];let c14:Prop:=1*6<=2^24;let c10:Int:=(2:Int)^47;let c8:List (Rat×Rat):=eo n (fun i=>cL (aI (c i))) d 0 1;let c6:AV:=ak 3 a.fst fun i=>rat (a.snd i) ag;let c5:Prop:=bA (ec n c) (ec n fun i=>cL (aI (c i)));let c3:Prop:=0<1;let c15:Nat:=c29+1;let c11:Rat:=eF c26 1;let c9:List Prop:=[c3,c3,c23,∀(i:Nat),i<n->bA (aI (c i)) (aI (cL (aI (c i)))),c30,dz n (fun i=>cL (aI (c i))) 1];let c7:AV:=agg [c36,c36];let c2:List (Rat×Rat):=iN (dc l) c29++c8;let c19:Nat:=c2.length;let c4:ax:=ax.mk true true 7 0 fun x=>agg (c7::c17);let c1:List (Rat×Rat):=iN (fun i=>if i<c29 then dc l i else nth [agg [rat 0 ag,rat 0 ag]] c7 (i-c29+0)) c15++c8;let c33:Int:=(↑c19:Int);let c18:Nat:=c1.length;let c13:Nat:=c19+1;let c34:Int:=(↑c13:Int);let c31:Int:=(↑c18:Int);let c12:Nat:=c18+1;let c32:Int:=(↑c12:Int);some (aj [c3,c3,c23,∀(i:Nat),i<n->bA (aI (c i)) (aI (cL (aI (c i)))),c30,dz n (fun i=>cL (aI (c i))) 0] (fork (decide (eF c26 0=0)) (aj [c3,c3,c23,c14,c15*c27*2<=c28,c3] (aj [c3,c3,c3,aA [c23],aA [c23],c16,c5,c5,c5,c15=c15,∀(i:Nat),i<c15->(if i<c29 then dc l i else nth [agg [rat 0 ag,rat 0 ag]] c7 (i-c29+0)).keys=[]/\bA (if i<c29 then dc l i else nth [agg [rat 0 ag,rat 0 ag]] c7 (i-c29+0)) (gh (j7 (if i<c29 then dc l i else nth [agg [rat 0 ag,rat 0 ag]] c7 (i-c29+0))).fst (j7 (if i<c29 then dc l i else nth [agg [rat 0 ag,rat 0 ag]] c7 (i-c29+0))).snd ag),c30,c35,c22,c15+c8.length<2^30] (aj c9 (fork (decide (c11=0)) (aj [c3,c3,c23,c14,c12*c27*2<=c28,c3] (aj [c3,c20/\(0:Int)<=c32/\c32<=c10/\c32*c21<=c10] (aj [c3] (leaf normal (c6::own 98310 7 0 0::own 81926 6 0 c12::int i64 c32::c17,[(81926,ax.mk true true 6 c12 fun i=>if i<c18 then dc c1 i else nth [agg [c25,c25]] c7 (i-c18+0)),((98310:Nat),c4)]))))) (aj [c3,c20/\(0:Int)<=c31/\c31<=c10/\c31*c21<=c10] (aj [c3] (leaf normal (c6::c24::own 49158 6 0 c18::int i64 c31::c17,[(49158,ax.mk true true 6 c18 fun i=>agg [rat (cB c1 i).fst ag,rat (cB c1 i).snd ag]),((73734:Nat),c4)])))))))) (aj [c3,c3,c3,aA [c23],aA [c23],c16,c5,c5,c5,c29=c29,∀(i:Nat),i<c29->(dc l i).keys=[]/\bA (dc l i) (gh (aS (rat (cB l i).fst ag)) (aS (rat (cB l i).snd ag)) ag),c30,c35,c22,c29+c8.length<2^30] (aj c9 (fork (decide (c11=0)) (aj [c3,c3,c23,c14,c13*c27*2<=c28,c3] (aj [c3,c20/\(0:Int)<=c34/\c34<=c10/\c34*c21<=c10] (aj [c3] (leaf normal (c6::c24::own 57350 6 0 c13::int i64 c34::c17,[(57350,ax.mk true true 6 c13 fun i=>if i<c19 then dc c2 i else nth [agg [c25,c25]] c7 (i-c19+0)),((73734:Nat),c4)]))))) (aj [c3,c20/\(0:Int)<=c33/\c33<=c10/\c33*c21<=c10] (aj [c3] (leaf normal (c6::own 49158 7 0 0::own 24582 6 0 c19::int i64 c33::c17,[(24582,ax.mk true true 6 c19 fun i=>agg [rat (cB c2 i).fst ag,rat (cB c2 i).snd ag]),((49158:Nat),c4)]))))))))):=ah
theorem adx {d m i:Nat} {a:PP} {l:List (Rat×Rat)} {g:Nat->Nat}:aG T (mF d) [53] 60 xB [part uT [1,1,1,1,0,1,0,0]] ⟨aC xB (yw a m i),zf l g i,2⟩=
  let c8:AV:=rat 0 1;let c7:Int:=(↑m:Int);let c5:AV:=own 0 6 0 m;let c3:AV:=ak 3 a.fst fun i=>rat (a.snd i) ag;let c2:Int:=(↑i:Int);let c1:Nat×ax:=(0,ax.mk true true 6 l.length fun i=>agg [rat (cB l i).fst ag,rat (cB l i).snd ag]);let c6:Int:=c2+1;let c4:Nat:=c2.toNat+0;some (fork (decide (c2<c7)) (aj [(0:Int)<=c2/\c2.toNat<m,c4<l.length,(0:Nat)<1] (aj [(0:Nat)<1,(1:Nat)*7<=2^24,(i+1)*((120:Nat)+1)*2<=2^47] (aj [-(2:Int)^63<=c6/\c6<2^63] (leaf normal ([c3,own 36866 7 0 (i+1),c5,int i64 c7,int i64 c6],[c1,(36866,ax.mk true true 7 (i+1) fun i_1=>if i_1<i then agg [dc l i_1,int i64 (↑(g i_1):Int)]else nth [agg [agg [rat (cB l c4).fst ag,rat (cB l c4).snd ag],int i64 1]] (agg [agg [c8,c8],int i64 0]) (i_1-i+0))]))))) (leaf (exit 0) ([c3,own 1 7 0 i,c5,int i64 c7,int i64 c2],[c1,(1,ax.mk true true 7 i fun j=>agg [agg [rat (cB l j).fst ag,rat (cB l j).snd ag],int i64 (↑(g j):Int)])]))):=ah
theorem XC {d m i:Nat} {a:PP} {l:List (Rat×Rat)} {g:Nat->Nat}:aG T (mF d) [] 60 qJ (before tW [0,1]) ⟨aC xB (yw a m i),zf l g i,2⟩=
  let c6:Nat×(Nat->Rat):=(a.fst,fun i=>aS (rat (a.snd i) ag));let c4:Prop:=cF (fun i=>rat (a.snd i) ag) a.fst ag;let c1:Nat:=br (cT fun i=>aS (rat (a.snd i) ag)) (a.fst-1);let c3:Nat×(Nat->Rat):=(c1,fun i=>aS (rat (cT (fun i=>aS (rat (a.snd i) ag)) i) ag));let c2:PP×PP:=(c6,c3);let c5:PP:=(bJ c2 c1).fst;some (aj [c4,a.fst<2^40,cG (a.fst-1) (cT fun i=>aS (rat (a.snd i) ag)),c4,cF (fun i=>rat (cT (fun i=>aS (rat (a.snd i) ag)) i) ag) c1 ag,a.fst<2^30,c1<2^30,Trim c6,Trim c3,jQ c2] (leaf normal ([ak 3 c5.fst fun i=>rat (cu c5.fst c5.snd i) ag,own 1 7 0 i],[(1,ax.mk true true 7 i fun j=>agg [agg [rat (cB l j).fst ag,rat (cB l j).snd ag],int i64 (↑(g j):Int)])]))):=ah
theorem Od {d m:Nat} {a:PP} {l:List (Rat×Rat)} {g:Nat->Nat}:aG T (mF d) [68] 60 qJ (before uZ [1,0]) ⟨aC qJ (z7 a m),rB l g m,1⟩=
  let c1:List AV×aE:=([ak 3 a.fst fun i=>rat (a.snd i) ag,own 0 7 0 m],[(0,ax.mk true true 7 m fun j=>agg [agg [rat (cB l j).fst ag,rat (cB l j).snd ag],int i64 (↑(g j):Int)])]);some (fork (decide ((↑a.fst:Int)>1)) (leaf normal c1) (leaf (exit 2) c1)):=ah
theorem aeP {d m:Nat} {a:PP} {l:List (Rat×Rat)} {g:Nat->Nat}:aG T (mF d) [] 60 vw (before vr [1,1]) ⟨aC qJ (z7 a m),rB l g m,1⟩=
  let c2:AV:=own 0 7 0 m;let c1:Nat×(Nat->Rat):=(a.fst,fun i=>aS (rat (a.snd i) ag));some (aj [cF (fun i=>rat (a.snd i) ag) a.fst ag,lW c1] (leaf normal ([ak 3 a.fst fun i=>rat (a.snd i) ag,c2,ak 1 (cq c1) fun i=>ak 3 (cH c1 i).fst fun i_1=>rat ((cH c1 i).snd i_1) ag,c2,int i64 (↑m:Int),int i64 0],[(0,ax.mk true true 7 m fun j=>agg [agg [rat (cB l j).fst ag,rat (cB l j).snd ag],int i64 (↑(g j):Int)])]))):=ah
theorem aeJ {d m n i:Nat} {a:PP} {c:Nat->PP} {l:List (Rat×Rat)} {g:Nat->Nat}:aG T (mF d) [78,86] 60 vw [part vr [1,1,0,0]] ⟨aC vw (Dx a n c m i),rB l g m,1⟩=
  let c14:Int:=(↑m:Int);let c8:AV:=ak 3 a.fst fun i=>rat (a.snd i) ag;let c7:AV:=ak 1 n fun i=>ak 3 (c i).fst fun i_1=>rat ((c i).snd i_1) ag;let c6:Int:=(2:Int)^63;let c5:AV:=own 0 7 0 m;let c4:Int:=(↑i:Int);let c3:Nat×ax:=(0,ax.mk true true 7 m fun j=>agg [agg [rat (cB l j).fst ag,rat (cB l j).snd ag],int i64 (↑(g j):Int)]);let c13:Int:=c4+1;let c11:Prop:=(0:Int)<=c4/\c4.toNat<m;let c1:Nat:=c4.toNat+0;let c12:Int:=(↑(g c1):Int)+1;let c10:AV:=rat (cB l c1).fst ag;let c9:AV:=rat (cB l c1).snd ag;let c2:List AV:=[c8,c5,c7,c5,int i64 c14,int i64 c13];some (fork (decide (c4<c14)) (aj [c11,c1<m,∀(i:Nat),i<n->bA (aI (c i)) (aI (cL (aI (c i)))),bA c10 (rat (aS c10) ag),bA c9 (rat (aS c9) ag),(0:Nat)<n,n<2^40,dz n (fun i=>cL (aI (c i))) (aS c10),dz n (fun i=>cL (aI (c i))) (aS c9)] (fork (sM n (fun i=>cL (aI (c i))) (aS c10) (aS c9)) (aj [c11,c1<m,-c6<=c12/\c12<c6,c11,c1<m] (aj [-c6<=c13/\c13<c6] (leaf normal (c2,[(0,ax.mk true true 7 m fun j=>agg [agg [rat (bif j==c1 then(cB l c1).fst else(cB l j).fst) (bif j==c1 then ag else ag),rat (bif j==c1 then(cB l c1).snd else(cB l j).snd) (bif j==c1 then ag else ag)],mh (j==c1) (int i64 c12) (int i64 (↑(g j):Int))])])))) (aj [-c6<=c13/\c13<c6] (leaf normal (c2,[c3]))))) (leaf (exit 4) ([c8,c5,c7,c5,int i64 c14,int i64 c4],[c3]))):=ah
theorem Ts {d m n i:Nat} {a:PP} {c:Nat->PP} {l:List (Rat×Rat)} {g:Nat->Nat}:aG T (mF d) [] 60 qJ (behind vr [1,1]++[part uZ [1,1]]) ⟨aC vw (Dx a n c m i),rB l g m,1⟩=
  let c6:Nat×(Nat->Rat):=(a.fst,fun i=>aS (rat (a.snd i) ag));let c4:Prop:=cF (fun i=>rat (a.snd i) ag) a.fst ag;let c1:Nat:=br (cT fun i=>aS (rat (a.snd i) ag)) (a.fst-1);let c3:Nat×(Nat->Rat):=(c1,fun i=>aS (rat (cT (fun i=>aS (rat (a.snd i) ag)) i) ag));let c2:PP×PP:=(c6,c3);let c5:PP:=(bJ c2 c1).fst;some (aj [c4,a.fst<2^40,cG (a.fst-1) (cT fun i=>aS (rat (a.snd i) ag)),c4,cF (fun i=>rat (cT (fun i=>aS (rat (a.snd i) ag)) i) ag) c1 ag,a.fst<2^30,c1<2^30,Trim c6,Trim c3,jQ c2] (leaf normal ([ak 3 c5.fst fun i=>rat (cu c5.fst c5.snd i) ag,own 0 7 0 m],[(0,ax.mk true true 7 m fun j=>agg [agg [rat (cB l j).fst ag,rat (cB l j).snd ag],int i64 (↑(g j):Int)])]))):=ah
theorem abu {d m:Nat} {a:PP} {l:List (Rat×Rat)} {g:Nat->Nat}:cA T (mF d) [] 60 f18 [part tW [1]] ⟨aC qJ (z7 a m),rB l g m,1⟩=
  some (leaf ret [ak 7 m fun i=>agg [agg [rat (cB l (i+0)).fst ag,rat (cB l (i+0)).snd ag],int i64 (↑(g (i+0)):Int)],int i64 0]):=ah
theorem AD {d:Nat}:bI P (mF d):=iQ (aL GO (aL JE (aL IK (aL (Il d) (aL J5 (aL Ct (aL Em (aL abM gE))))))))
theorem Yk {a:PP} (ta:Trim a) (h:1<a.1):(bS a (bQ a)).1<a.1:=by
 have h1:(bQ a).1=a.1-1:=nP (.inr (by
  unfold cT
  rw[show a.1-1-1+1=a.1-1 by omega]
  intro h0
  rcases Rat.mul_eq_zero.1 h0 with h0|h0
  ·have h0:((a.1-1:Nat):Int)=0:=Rat.intCast_inj.1 h0
   omega
  ·rcases ta with h2|h2
   ·omega
   ·exact h2 h0))
 have h2:=(adf ta (fA (a:=a))).2.len aa fA (mu ta fA)
 omega
theorem tL {a:PP} (ta:Trim a):∀j,Trim (fc a j)
 |0=>mu ta fA
 |j+1=>mu (tL ta j) fA
theorem zn {a:PP} (ta:Trim a):(bS a (bQ a)).1<=a.1:=o4 (s:=(a,bQ a)) aQ (Nat.le_trans eI (Nat.sub_le _ _)) ta fA _
theorem Ba {a:PP} (ta:Trim a):∀j,(fc a j).1<=a.1
 |0=>zn ta
 |j+1=>Nat.le_trans (zn (tL ta j)) (Ba ta j)
theorem Hx {a:PP} (ta:Trim a):∀f j,(fc a j).1<=f->(fc a (nR a f j)).1<=1/\(∀i,j<=i->i<nR a f j->1<(fc a i).1)/\j<=nR a f j
 |0,j,h=>⟨by show(fc a j).1<=1;omega,fun i h1 h2=>by have:i<j:=h2;omega,aQ⟩
 |f+1,j,h=>by
  unfold nR
  split
  ·rename_i h1
   have:=Yk (tL ta j) h1
   obtain⟨g1,g2,g3⟩:=Hx ta f (j+1) (by show(bS _ _).1<=f;omega)
   refine⟨g1,fun i h2 h3=>?_,aa⟩
   rcases Nat.eq_or_lt_of_le h2 with h4|h4
   ·rw[<-h4];exact h1
   ·exact g2 i h4 h3
  ·exact⟨aa,fun i h1 h2=>aa,aQ⟩
theorem Mg {a:PP}:∀f j,nR a f j<=j+f
 |0,j=>aQ
 |f+1,j=>by
  unfold nR
  split
  ·have:=Mg (a:=a) f (j+1);omega
  ·omega
theorem Gl {a:PP} {l:List (Rat×Rat)} {i:Nat}:∀j,jI a l j i<=j+1
 |0=>aQ
 |j+1=>by
  have:=Gl (a:=a) (l:=l) (i:=i) j
  unfold jI;split<;>omega
theorem XQ {k es:Nat} (h:0<es):bA .nil (.own k es 0 0):=by
 refine⟨rfl,fun M w cs hc=>?_⟩
 cases hc with
 |vnil h1=>cases h1;exact .own0 h .nil
def gJ (a:PP) (l:List (Rat×Rat)) (k i x:Nat):Nat:=if x<i then jI a l (k+1) x else jI a l k x
abbrev sj (a:PP) (l:List (Rat×Rat)) (k i:Nat):Bool:=sM (cq (fc a k)) (cH (fc a k)) (cB l i).1 (cB l i).2
theorem It {a:PP} {l:List (Rat×Rat)} {k i:Nat}:jI a l (k+1) i=if sj a l k i=true then jI a l k i+1 else jI a l k i:=rfl
theorem DJ {a:PP} {l:List (Rat×Rat)} {k i:Nat}:gJ a l k i i=jI a l k i:=if_neg aa
theorem JP {a:PP} {l:List (Rat×Rat)} {k i x:Nat} (h:x≠i):gJ a l k (i+1) x=gJ a l k i x:=by
 unfold gJ
 by_cases h1:x<i
 ·rw[if_pos h1,if_pos aa]
 ·rw[if_neg h1,if_neg aa]
theorem adX {a:PP} {l:List (Rat×Rat)} {k i:Nat} (h:sj a l k i=true):gJ a l k (i+1) i=gJ a l k i i+1:=by
 rw[DJ];unfold gJ
 rw[if_pos aa,It,if_pos h]
theorem acQ {a:PP} {l:List (Rat×Rat)} {k i:Nat} (h:sj a l k i=false):gJ a l k (i+1)=gJ a l k i:=by
 funext x
 by_cases hx:x=i
 ·subst hx
  rw[DJ];unfold gJ
  rw[if_pos aa,It,if_neg (by rw[h];decide)]
 ·exact JP hx
theorem Km {a:PP} {l:List (Rat×Rat)} {k i c j:Nat} (hc:c=i) (h:sj a l k i=true):
  AV.agg [.agg [.rat (bif j==c then(cB l c).1 else(cB l j).1) (bif j==c then ag else ag),.rat (bif j==c then(cB l c).2 else(cB l j).2) (bif j==c then ag else ag)],mh (j==c) (.int .i64 ((gJ a l k i c:Nat)+1)) (.int .i64 (gJ a l k i j:Nat))]=wj l (gJ a l k (i+1)) j:=by
 subst hc
 by_cases hj:j=c
 ·subst hj
  rw[beq_self_eq_true]
  show AV.agg [dc l j,.int .i64 ((gJ a l k j j:Nat)+1)]=AV.agg [dc l j,.int .i64 (gJ a l k (j+1) j:Nat)]
  rw[adX h];rfl
 ·rw[show(j==c)=false by simp[hj]]
  show AV.agg [dc l j,.int .i64 (gJ a l k c j:Nat)]=AV.agg [dc l j,.int .i64 (gJ a l k (c+1) j:Nat)]
  rw[JP hj]
theorem ab5 {l:List (Rat×Rat)} {p:Rat×Rat} {z:AV} {i:Nat} (hi:i<l.length+1):keys (if i<l.length then dc l i else nth [gh p.1 p.2 ag] z (i-l.length+0))=[]/\
  bA (if i<l.length then dc l i else nth [gh p.1 p.2 ag] z (i-l.length+0)) (gh (j7 (if i<l.length then dc l i else nth [gh p.1 p.2 ag] z (i-l.length+0))).1 (j7 (if i<l.length then dc l i else nth [gh p.1 p.2 ag] z (i-l.length+0))).2 ag):=by
 rw[sW hi];exact⟨rfl,.refl _⟩
theorem yE {a:PP} {l:List (Rat×Rat)} {g:Nat->Nat} {k0 k1 M:Nat} {row:ax} {z:Nat->AV} (hM:l.length=M) (hrow:row=⟨true,true,6,M,row.f⟩) (hf:∀i,i<l.length->row.f i=dc l i) (hne:k0≠k1):
  dx [] ([aI a,.own k1 7 0 0,.own k0 6 0 M,.int .i64 M,.int .i64 0],[(k0,row),(k1,⟨true,true,7,0,z⟩)]) (yw a l.length 0) (zf l g 0) 2:=by
 subst hM
 have e1:look k1 [(k0,row),(k1,(⟨true,true,7,0,z⟩:ax))]=some ⟨true,true,7,0,z⟩:=by simp[look,hne]
 have e0:look k0 [(k0,row),(k1,(⟨true,true,7,0,z⟩:ax))]=some ⟨true,true,6,l.length,row.f⟩:=by rw[<-hrow];simp[look]
 exact⟨[(0,k0),(1,k1)],by simp[hH,hne,Ne.symm hne],rfl,rfl,bg rfl e0 rfl (fun i hi=>bE (by rw[hf i hi];rfl) (hf i hi)) (bg rfl e1 rfl (fun i hi=>absurd hi (Nat.not_lt_zero _)) trivial)⟩
theorem Rv {d:Nat} {p:PP} (hz:Ac d p) (K:Nat):aP P 18 K [aI p] [] (aK (DD d p) []):=by
 have hW:=cW
 obtain⟨z1,z2⟩:=hz
 refine gm (r:=aK (DD d p) []) hT JS rfl aW rfl (fun _ cx h0=>?_) K []
 have hk:=jZ h0
 refine au.Cv hT AD hm (x:=EG) [1,1,1,1,1,1,1,1,1] ah ah JS.dst hk (f1:=[20]) 60 C0 6 (fun _:Unit=>I0 (az p)) (fun _=>Ka (cq (az p)) (cH (az p)) []) (fun _=>(az p).1≠0) ⟨_,abY (d:=d),?_⟩ (fun _ hne=>?_)
 ·simp only[af.all,aA,beq_iff_eq,beq_eq_false_iff_ne,ne_eq]
  refine⟨⟨cZ aQ,z1⟩,fun h s' hv=>?_,fun h=>?_⟩
  ·have h:(az p).1=0:=aa
   have e1:iT d p=[]:=if_pos h
   refine nT.fin ⟨[.nil,.int .i64 3],rfl,?_⟩ hv
   show fY [.nil,.int .i64 3] [.ak 7 (iT d p).length (wj (iT d p) (o8 d p)),.int .i64 (if(az p).1=0 then 3 else 0)]
   rw[e1,if_pos h]
   exact⟨jS aa,.refl _,trivial⟩
  ·have h:(az p).1≠0:=aa
   obtain⟨y1,y2,y3,y4,y5,y6,y7,y8⟩:=z2 h
   refine⟨⟨cZ aQ,y1,aa⟩,aa,aa,⟨aa,aa,aa,aa,aa,aa⟩,(),h,[(0,49152),(1,65536),(3,57344),(4,86016),(5,90112)],rfl,rfl,rfl,?_⟩
   refine jt rfl rfl (.inr ⟨rfl,XQ aa⟩) (jt rfl rfl (.inl (.inr (BS ⟨⟨rfl,gO rfl (.refl _)⟩,⟨rfl,gx rfl⟩,⟨rfl,gx rfl⟩,⟨rfl,gO rfl (.refl _)⟩,trivial⟩ rfl))) (kA rfl aa aa (dh (jt rfl rfl (.inr ⟨rfl,dy rfl (by rw[hW];decide)⟩) (jt rfl rfl (.inr ⟨rfl,dy rfl (by rw[hW];decide)⟩) trivial)))))
 ·obtain⟨y1,y2,y3,y4,y5,y6,y7,y8⟩:=z2 hne
  have hsm:0<cq (az p):=Nat.succ_pos _
  have hl:iT d p=LO d (cq (az p)) (cH (az p)):=if_neg hne
  obtain⟨l,hll⟩:∃l,l=iT d p:=⟨_,rfl⟩
  rw[<-hll]at y6 y8
  have hl2:l=(if eF (cH (az p) 0) 0=0 then [(0,0)]else [])++eo (cq (az p)) (cH (az p)) d 0 1++(if eF (cH (az p) 0) 1=0 then [(1,1)]else []):=by rw[hll,hl];rfl
  refine au.l5 hT AD hm (x:=uT) [1,1,1,1,0,1] (i:=0) (y:=part uT [1,1,1,1,0,1,0,0]) (z:=tW) ah ah ah ah hk (f1:=[29,41]) (f2:=[53]) 60 xB 2 (fun i:Nat=>yw (az p) l.length i) (fun i=>zf l (fun _=>1) i) (fun i=>i<=l.length) (fun i=>i=l.length) (fun i=>l.length-i) (fun _=>False)
   ⟨_,VH (d:=d),?_⟩ (fun i hi=>⟨_,adx (d:=d),?_⟩) (fun i hi=>?_) fun _ _ h=>h.elim
  ·have hC:(fun i=>cL (aI (cH (az p) i)))=cH (az p):=rfl
   have hC0:cL (aI (cH (az p) 0))=cH (az p) 0:=rfl
   have h00:([]:List (Rat×Rat)).length=0:=rfl
   have e0:iN (fun i=>if i<([]:List (Rat×Rat)).length then dc [] i else nth [.agg [.rat 0 ag,.rat 0 ag]] (.agg [.rat 0 1,.rat 0 1]) (i-([]:List (Rat×Rat)).length+0)) (([]:List (Rat×Rat)).length+1)=[(0,0)]:=LC (l:=[]) (p:=(0,0))
   simp only[af.all,aA,hC,hC0,Jg,e0,bw,bB]
   have hm:(eo (cq (az p)) (cH (az p)) d 0 1).length<=l.length:=by rw[hl2];simp only[List.length_append];omega
   refine⟨⟨aa,aa,aQ,fun i _=>.refl _,hsm,y3⟩,fun r0=>⟨⟨aa,aa,aQ,aa,aa,aa⟩,⟨aa,aa,aa,aQ,aQ,fun i _=>.refl _,.refl _,.refl _,.refl _,trivial,?_,hsm,y2,y5,?_⟩,⟨aa,aa,aQ,fun i _=>.refl _,hsm,y4⟩,?_⟩,fun r0=>⟨⟨aa,aa,aa,aQ,aQ,fun i _=>.refl _,.refl _,.refl _,.refl _,trivial,fun i hi=>absurd hi (Nat.not_lt_zero _),hsm,y2,y5,?_⟩,⟨aa,aa,aQ,fun i _=>.refl _,hsm,y4⟩,?_⟩⟩
   ·exact fun i hi=>ab5 (l:=[]) (p:=(0,0)) hi
   ·show 0+1+(eo (cq (az p)) (cH (az p)) d 0 1).length<2^30
    rw[hl2,if_pos r0]at y6;simp only[List.length_append,List.length_cons,List.length_nil]at y6;omega
   ·refine⟨fun r1=>?_,fun r1=>?_⟩
    ·rw[if_pos r0,if_pos r1]at hl2
     have hle:l.length=([(0,0)]++eo (cq (az p)) (cH (az p)) d 0 1).length+1:=by rw[hl2,List.length_append];rfl
     refine⟨⟨aa,aa,aQ,aa,aa,aa⟩,⟨aa,aa,aa,aa,aa⟩,aa,0,Nat.zero_le _,yE hle rfl (fun i hi=>?_) (by decide)⟩
     rw[hle]at hi;rw[hl2];exact sW (p:=(1,1)) hi
    ·rw[if_pos r0,if_neg r1,List.append_nil]at hl2
     have hl3:([(0,0)]++eo (cq (az p)) (cH (az p)) d 0 1).length=l.length:=by rw[<-hl2]
     refine⟨⟨aa,aa,aa,aa,aa⟩,aa,0,Nat.zero_le _,yE hl3.symm rfl (fun i hi=>by rw[hl2]) (by decide)⟩
   ·show 0+(eo (cq (az p)) (cH (az p)) d 0 1).length<2^30
    omega
   ·refine⟨fun r1=>?_,fun r1=>?_⟩
    ·rw[if_neg r0,if_pos r1]at hl2
     have hle:l.length=([]++eo (cq (az p)) (cH (az p)) d 0 1).length+1:=by rw[hl2,List.length_append];rfl
     refine⟨⟨aa,aa,aQ,aa,aa,aa⟩,⟨aa,aa,aa,aa,aa⟩,aa,0,Nat.zero_le _,yE hle rfl (fun i hi=>?_) (by decide)⟩
     rw[hle]at hi;rw[hl2];exact sW (p:=(1,1)) hi
    ·rw[if_neg r0,if_neg r1,List.append_nil]at hl2
     have hl3:([]++eo (cq (az p)) (cH (az p)) d 0 1).length=l.length:=by rw[<-hl2]
     refine⟨⟨aa,aa,aa,aa,aa⟩,aa,0,Nat.zero_le _,yE hl3.symm rfl (fun i hi=>by rw[hl2]) (by decide)⟩
  ·have hiA:((i:Int)).toNat+0=i:=aa
   simp only[af.all,aA,bw,bB]
   refine⟨fun h=>⟨⟨aa,aa,aa⟩,⟨aa,aa,aa⟩,aa,i+1,aa,by dsimp only;omega,[(0,0),(1,36866)],rfl,by rw[show(i:Int)+1=((i+1:Nat):Int) by omega];rfl,rfl,lf (bg rfl rfl rfl (fun x hx=>?_) trivial)⟩,
    fun h=>⟨rfl,i,aa,[(0,0),(1,1)],rfl,rfl,rfl,lf (bg rfl rfl rfl (fun x hx=>bE rfl rfl) trivial)⟩⟩
   rw[hiA]
   by_cases hx2:x<i
   ·rw[if_pos hx2];exact bE rfl rfl
   ·rw[if_neg hx2,Fj aa,show x=i by omega];exact bE rfl rfl
  ·subst hi
   have ta:Trim (az p):=lK
   obtain⟨J,hJ⟩:∃J,J=nR (az p) (az p).1 0:=⟨_,rfl⟩
   have hl0:(fc (az p) 0).1<=(az p).1:=Ba ta 0
   obtain⟨j1,j2,_⟩:=Hx ta (az p).1 0 hl0
   rw[<-hJ]at j1 j2
   have hp41:(az p).1<=41:=Nat.le_trans eI z1.2.1
   have hd:∀{x:PP},x.1<=41->(bQ x).1<2^30:=fun h=>Nat.lt_of_le_of_lt eI aa
   refine au.oX hT AD hm (x:=tW) [0,1] (i:=2) (y:=uZ) (z:=part tW [1]) ah ah ah ah [1,0] (j:=3) (x1:=vr) (zb:=part uZ [1,1]) ah ah ah [1,1] (i2:=4) (y2:=part vr [1,1,0,0]) ah ah rfl hk
    (f1:=[]) (f2:=[68]) (f3:=[]) (f4:=[78,86]) (f5:=[]) 60 qJ vw 1 1 (fun k:Nat=>z7 (fc (az p) k) l.length) (fun k=>rB l (jI (az p) l k) l.length) (fun k=>k<=J) (fun k=>k=J) (fun k=>J-k) (fun k=>k<J) (fun _=>False) (fun _=>False)
    (fun k (i:Nat)=>Dx (fc (az p) k) (cq (fc (az p) k)) (cH (fc (az p) k)) l.length i) (fun k i=>rB l (gJ (az p) l k i) l.length) (fun _ i=>i<=l.length) (fun _ i=>i=l.length) (fun _ i=>l.length-i)
    ⟨_,XC (d:=d),?_⟩ (fun k hk=>⟨_,Od (d:=d),?_⟩) (fun k hk hG=>⟨_,aeP (d:=d),?_⟩) (fun k hk hG i hi=>⟨_,aeJ (d:=d),?_⟩) (fun k hk hG i hi=>⟨_,Ts (d:=d),?_⟩) (fun k hk=>?_) (fun _ _ h=>h.elim) (fun _ _ h=>h.elim)
   ·simp only[af.all,aA]
    refine⟨⟨cZ aQ,by show(az p).1<_;omega,y7.1,cZ aQ,cZ aQ,by show(az p).1<_;omega,hd hp41,ta,fA,y7.2⟩,0,Nat.zero_le _,[(0,1)],rfl,rfl,rfl,lf trivial⟩
   ·simp only[af.all,aA,bw,bB]
    refine⟨fun h=>⟨?_,[(0,0)],rfl,rfl,rfl,lf trivial⟩,fun h=>⟨rfl,k,?_,[(0,0)],rfl,rfl,rfl,lf trivial⟩⟩
    ·rcases Nat.lt_or_ge k J with h2|h2
     ·exact h2
     ·have:k=J:=aa
      subst this;omega
    ·rcases Nat.lt_or_ge k J with h2|h2
     ·have:=j2 k (Nat.zero_le _) h2
      omega
     ·omega
   ·obtain⟨x1,x2,x3,x4⟩:=y8 k (j2 k (Nat.zero_le _) hG)
    simp only[af.all,aA]
    exact⟨⟨cZ aQ,x2⟩,0,Nat.zero_le _,[(0,0)],rfl,rfl,rfl,lf trivial⟩
   ·obtain⟨x1,x2,x3,x4⟩:=y8 k (j2 k (Nat.zero_le _) hG)
    have hJ2:J<=(az p).1:=by rw[hJ];have:=Mg (a:=az p) (az p).1 0;omega
    have hsk:0<cq (fc (az p) k):=Nat.succ_pos _
    have hb:gJ (az p) l k i i<=42:=by rw[DJ];have:=Gl (a:=az p) (l:=l) (i:=i) k;omega
    simp only[af.all,aA,bw,bB,bu,Nat.add_zero]
    refine⟨fun h=>⟨⟨aa,aa,fun i _=>.refl _,.refl _,.refl _,hsk,x3,(x4 i aa).1,(x4 i aa).2⟩,fun h2=>⟨⟨aa,aa,aa,aa,aa⟩,aa,i+1,aa,by dsimp only;omega,[(0,0)],rfl,by rw[show(i:Int)+1=((i+1:Nat):Int) by omega];rfl,rfl,bg rfl rfl rfl (fun x hx=>?_) trivial⟩,
      fun h2=>⟨aa,i+1,aa,by dsimp only;omega,[(0,0)],rfl,by rw[show(i:Int)+1=((i+1:Nat):Int) by omega];rfl,rfl,bg rfl rfl rfl (fun x hx=>?_) trivial⟩⟩,
     fun h=>⟨rfl,i,aa,[(0,0)],rfl,rfl,rfl,lf trivial⟩⟩
    ·have h2:sj (az p) l k i=true:=h2
     exact bE (by rw[Km rfl h2];rfl) (Km rfl h2)
    ·have h2:sj (az p) l k i=false:=h2
     exact bE rfl (by show wj l (gJ (az p) l k i) x=_;rw[acQ h2])
   ·obtain⟨x1,x2,x3,x4⟩:=y8 k (j2 k (Nat.zero_le _) hG)
    have hg41:(fc (az p) k).1<=41:=Nat.le_trans (Ba ta k) hp41
    simp only[af.all,aA]
    refine⟨⟨cZ aQ,by show(fc (az p) k).1<_;omega,x1.1,cZ aQ,cZ aQ,by show(fc (az p) k).1<_;omega,hd hg41,tL ta k,fA,x1.2⟩,k+1,hG,by dsimp only;omega,[(0,0)],rfl,rfl,rfl,bg rfl rfl rfl (fun x hx=>bE rfl ?_) trivial⟩
    show AV.agg [dc l x,.int .i64 (gJ (az p) l k i x:Nat)]=.agg [dc l x,.int .i64 (jI (az p) l (k+1) x:Nat)]
    unfold gJ
    rw[if_pos (show x<i by omega)]
   ·subst hk
    refine au.jV ((aF.fin hT AD hm 60 (abu (d:=d)) ah ?_).mono fun _ _ h=>.inl h)
    show fY [.ak 7 l.length _,.int .i64 0] [.ak 7 (iT d p).length (wj (iT d p) (o8 d p)),.int .i64 (if(az p).1=0 then 3 else 0)]
    refine⟨tH (by rw[hll]) fun i hi=>?_,bN (if_neg hne).symm,trivial⟩
    have ht:o8 d p i=jI (az p) l k i:=by unfold o8;rw[<-hll,<-hJ]
    show _=AV.agg [dc (iT d p) i,.int .i64 (o8 d p i:Nat)]
    rw[ht,<-hll];rfl
def LV (d:Nat):Spec:=dA (kC (kL ag) kN) (fun a=>DD d a.1) fun a=>[Ac d a.1]
theorem V0 (d:Nat):bf P (LV d) 18:=cR fun⟨a,_⟩ K hn=>Rv hn K
def ey (k:Nat->Rat) (j:Nat):Nat->Int
 |0=>-1
 |l+1=>if k (j+l)=k (j+l+1)then ey k j l else(j+l:Nat)
theorem KJ {k:Nat->Rat} {j:Nat}:∀{l:Nat},k j≠k (j+l)->∃P:Nat,ey k j l=(P:Int)/\j<=P/\P<j+l/\k P≠k (P+1)
 |0,h=>absurd rfl h
 |l+1,h=>by
  unfold ey
  by_cases he:k (j+l)=k (j+l+1)
  ·rw[if_pos he]
   obtain⟨P,h1,h2,h3,h4⟩:=KJ (k:=k) (j:=j) (l:=l) (by rw[he];exact h)
   exact⟨P,h1,h2,by omega,h4⟩
  ·rw[if_neg he]
   exact⟨j+l,rfl,by omega,by omega,he⟩
theorem Kn.piece {n p:Nat} {k:Nat->Rat} (h:Kn n p k) {j:Nat} (hj:j+p+1<n):∃P:Nat,ey k j (p+1)=(P:Int)/\j<=P/\P<=j+p/\k P<k (P+1)/\p<=P/\P+p+1<n:=by
 have hp:=h.p1
 have hne:k j≠k (j+(p+1)):=by
  have hlt:k j<k (j+(p+1)):=by
   by_cases h0:j=0
   ·subst h0
    have hl:=h.len
    have a1:=h.mult 1 (by omega) (by omega)
    rw[h.first 1 (by omega),show 1+p=0+(p+1) by omega]at a1
    exact a1
   ·have a1:=h.mult j (by omega) (by omega)
    have a2:=h.mono (show j+p<=j+(p+1) by omega) (by omega)
    grind
  grind
 obtain⟨P,h1,h2,h3,h4⟩:=KJ hne
 have hs:=h.sorted P (by omega)
 refine⟨P,h1,h2,by omega,by grind,?_,?_⟩
 ·rcases Nat.lt_or_ge P p with hh|hh
  ·exact absurd (by rw[h.first P (by omega),h.first (P+1) (by omega)]) h4
  ·exact hh
 ·rcases Nat.lt_or_ge (P+p+1) n with hh|hh
  ·exact hh
  ·exact absurd (by rw[h.last P (by omega) (by omega),h.last (P+1) (by omega) (by omega)]) h4
open Go
theorem MI {x:Int} {n:Nat} (h:x.natAbs<2^n) (hn:1<=n):Sz (x:Rat) n:=
 ⟨by rw[Rat.num_intCast];exact h,by rw[Rat.den_intCast];exact Nat.lt_of_lt_of_le (show 1<2^1 by decide) (Nat.pow_le_pow_right (by decide) hn)⟩
end Go.Am.B
