/- ref06.value, changes, between; ref05.Variations. -/
import Derived.Test.YtolopdkjjlfgjaaGreatY38
import Derived.Test.YtolopdkjjlfgjaaGreatY37
import Derived.Test.YtolopdkjjlfgjaaGreatZ2
set_option linter.unusedVariables false
noncomputable section
namespace Go.Am.B
open Go Go.Am.N AV af aq IntKind Proofs.Tryz
abbrev yY:Code:=aI f76
abbrev wY:List Nat:=[0,3,4,5,6]
abbrev EJ (a:PP) (i:Nat):List AV:=[aG a,.ptr 0 0 3 0 [],.ptr 1 0 3 0 [],.ptr 2 0 3 0 [],.int .i64 ((a.1:Int)-1-(i:Int))]
abbrev z9:Code:=aI f161
abbrev uz:List Nat:=[0,3,4,5]
abbrev yq (a:PP) (m:Nat) (l:Int) (i:Nat):List AV:=[aG a,.int .i64 m,.int .i64 l,.int .i64 i]
def gN (a:PP) (i:Nat):Int:=bN (a.2 i)
def JW:Spec:=en (kC (kL ag) kN) (fun a=>.int .i64 ((bW (gN a.1) a.1.1).2:Nat)) fun a=>[a.1.1<2^40]
def Br:bz:=zG::(76,nN)::(161,JW)::iK
abbrev xp:Code:=aI f124
abbrev zn:List Nat:=[0,3,5,6]
abbrev Hj (n:Nat) (c:Nat->PP) (i:Nat):List AV:=[fK n c,.ptr 0 0 3 0 [],.own 1 3 0 i,.int .i64 i]
def HU:Spec:=en (kC mW (kC (eZ ag) kN)) (fun a=>.int .i64 ((bW (cT a.1.2 a.2.1) a.1.1).2:Nat)) fun a=>[a.1.1<2^30,cL a.1.1 a.1.2 a.2.1]
def IF:bz:=nG::(124,HU)::(76,nN)::iK
theorem YV:br 76 f76:=bu func76
theorem TT:br 161 f161:=bu func161
theorem Q0:br 124 f124:=bu func124
theorem adx:br 62 f62:=bu func62
theorem ahd {a:PP} {t:Rat}:aH T lV [] 60 wY (before yY [1,1,0,1]) ⟨aU 0 [aG a,.rat t ag],[],0⟩=
  let c2:Int:=(↑a.fst:Int)-1;let c1:ax:=gP fun x=>rat 0 1;some (aj [-(2:Int)^63<=c2/\c2<2^63] (leaf normal ([ak 3 a.fst fun i=>rat (a.snd i) ag,ptr 0 0 (eC (rat t ag)).size 0 [],ptr 4096 0 3 0 [],ptr 8192 0 3 0 [],int i64 c2],[((8192:Nat),c1),((4096:Nat),c1),(0,ax.mk false true (eC (rat t ag)).size 1 fun x=>rat t ag)]))):=ah
theorem YJ {a:PP} {t x:Rat} {i:Nat}:aH T lV [11] 60 wY [part yY [1,1,0,1,0,0]] ⟨aB wY (EJ a i),ry t x,3⟩=
  let c8:Prop:=0<1;let c7:AV:=ptr 2 0 3 0 [];let c6:AV:=ptr 1 0 3 0 [];let c5:AV:=ptr 0 0 3 0 [];let c4:Nat:=2^41;let c3:AV:=ak 3 a.fst fun i=>rat (a.snd i) ag;let c2:List (Nat×ax):=[((1:Nat),gP fun x=>rat 0 1),((0:Nat),gP fun x=>rat t ag)];let c1:Int:=(↑a.fst:Int)-1-(↑i:Int);let c9:Int:=c1-1;some (fork (decide (c1>=0)) (aj [c8,c8,ag<c4,ag<c4,(0:Int)<=c1/\c1.toNat<a.fst,ag+ag<c4,ag<c4,c8] (aj [-(2:Int)^63<=c9/\c9<2^63] (leaf normal ([c3,c5,c6,c7,int i64 c9],((2:Nat),gP fun j=>if(j==0)=true then eC (w7 (x*t,ag+ag) (a.snd c1.toNat,ag))else rat x ag)::c2)))) (leaf (exit 0) ([c3,c5,c6,c7,int i64 c1],((2:Nat),gP fun x_1=>rat x ag)::c2))):=ah
theorem ab2 {a:PP} {t x:Rat} {i:Nat}:cR T lV [] 60 f76 [part yY [1,1,1]] ⟨aB wY (EJ a i),ry t x,3⟩=
  let c1:Prop:=0<1;some (aj [c1,c1] (aj [c1] (leaf ret [rat x ag]))):=ah
theorem Zd {a:PP}:aH T lV [] 60 uz (before z9 [1,1,0,1]) ⟨aU 0 [aG a],[],0⟩=
  let c1:AV:=int i64 0;some (leaf normal ([ak 3 a.fst fun i=>rat (a.snd i) ag,c1,c1,c1],[])):=ah
theorem X5 {a:PP} {m i:Nat} {l:Int}:aH T lV [10,19,22,26] 60 uz [part z9 [1,1,0,1,0,0]] ⟨aB uz (yq a m l i),[],0⟩=
  let c11:Bool:=l !=(0:Int);let c8:Int:=(↑m:Int)+1;let c7:AV:=int i64 (↑m:Int);let c6:Int:=(2:Int)^63;let c5:Int:=(↑i:Int);let c3:AV:=ak 3 a.fst fun i=>rat (a.snd i) ag;let c10:Int:=c5+1;let c9:Int:=bN (a.snd c5.toNat);let c4:List AV:=[int i64 c9,int i64 c10];let c2:List Prop:=[-c6<=c10/\c10<c6];let c1:af (List AV×aE):=aj [-c6<=c8/\c8<c6] (aj c2 (leaf normal (c3::int i64 c8::c4,[])));some (fork (decide (c5<(↑a.fst:Int))) (aj [(0:Int)<=c5/\c5.toNat<a.fst,ag<2^41] (fork (c9==0) (aj c2 (leaf normal ([c3,c7,int i64 l,int i64 c10],[]))) (fork c11 (aj [c11=true] (fork (bif true then c9 !=l else false) c1 (aj c2 (leaf normal (c3::c7::c4,[]))))) (aj [c11=false] (fork false c1 (aj c2 (leaf normal (c3::c7::c4,[])))))))) (leaf (exit 0) ([c3,c7,int i64 l,int i64 c5],[]))):=ah
theorem UB {a:PP} {m i:Nat} {l:Int}:cR T lV [] 60 f161 [part z9 [1,1,1]] ⟨aB uz (yq a m l i),[],0⟩=
  some (leaf ret [int i64 (↑m:Int)]):=ah
theorem ahE {n:Nat} {c:Nat->PP} {t:Rat}:aH T Br [] 60 zn (before xp [1,1,0,1]) ⟨aU 0 [fK n c,.rat t ag],[],0⟩=
  some (leaf normal ([ak 1 n fun i=>ak 3 (c i).fst fun i_1=>rat ((c i).snd i_1) ag,ptr 0 0 (eC (rat t ag)).size 0 [],nil,int i64 0],[(0,ax.mk false true (eC (rat t ag)).size 1 fun x=>rat t ag)])):=ah
theorem ae5 {n i:Nat} {c:Nat->PP} {t:Rat} {x:Nat->Rat}:aH T Br [10] 60 zn [part xp [1,1,0,1,0,0]] ⟨aB zn (Hj n c i),[(0,tR t ag),(1,cy i x ag)],2⟩=
  let c5:AV:=ptr 0 0 3 0 [];let c3:Nat×ax:=((0:Nat),gP fun x=>rat t ag);let c2:AV:=ak 1 n fun i=>ak 3 (c i).fst fun i_1=>rat ((c i).snd i_1) ag;let c1:Int:=(↑i:Int);let c7:Int:=c1+1;let c6:PP:=c c1.toNat;let c4:Nat×(Nat->Rat):=(c6.fst,fun i=>aQ (rat (c6.snd i) ag));some (fork (decide (c1<(↑n:Int))) (aj [(0:Int)<=c1/\c1.toNat<n,(0:Nat)<1,cZ (fun i=>rat (c6.snd i) ag) c6.fst ag,ag<=ag,c6.fst<2^40,g9 c4 t,(1:Nat)*3<=2^24,(i+1)*((56:Nat)+1)*2<=2^47] (aj [-(2:Int)^63<=c7/\c7<2^63] (leaf normal ([c2,c5,own 49154 3 0 (i+1),int i64 c7],[(49154,ax.mk true true 3 (i+1) fun i_1=>if i_1<i then rat (x i_1) ag else nth [rat (cE c4 t) ag] (rat 0 1) (i_1-i+0)),c3])))) (leaf (exit 0) ([c2,c5,own 1 3 0 i,int i64 c1],[(1,ax.mk true true 3 i fun i=>rat (x i) ag),c3]))):=ah
theorem Vd {n i:Nat} {c:Nat->PP} {t:Rat} {x:Nat->Rat}:cR T Br [] 60 f124 [part xp [1,1,1]] ⟨aB zn (Hj n c i),[(0,tR t ag),(1,cy i x ag)],2⟩=
  some (aj [cZ (fun i=>rat (x (i+0)) ag) i ag,i<2^40] (leaf ret [int i64 (↑(bW (gN (i,fun i=>aQ (rat (x (i+0)) ag))) i).snd:Int)])):=ah
theorem Zg {n:Nat} {c:Nat->PP} {x y:Rat}:cB T IF [21] 60 f62 (aI f62) ⟨aU 0 [fK n c,.rat x ag,.rat y ag],[],0⟩=
  let c7:Prop:=n<2^30;let c4:Prop:=0<1;let c3:Int:=(2:Int)^63;let c2:PP:=c (Int.toNat (0:Int));let c1:Int:=(↑(bW (cT (fun i=>bV (aG (c i))) x) n).snd:Int)-(↑(bW (cT (fun i=>bV (aG (c i))) y) n).snd:Int);let c6:Int:=c1-1;let c5:Nat×(Nat->Rat):=(c2.fst,fun i=>aQ (rat (c2.snd i) ag));some (aj [c4,∀(i:Nat),i<n->bg (aG (c i)) (aG (bV (aG (c i)))),ag<=ag,c7,cL n (fun i=>bV (aG (c i))) x,c4,∀(i:Nat),i<n->bg (aG (c i)) (aG (bV (aG (c i)))),ag<=ag,c7,cL n (fun i=>bV (aG (c i))) y,-c3<=c1/\c1<c3] (aj [(0:Int)<=0/\Int.toNat (0:Int)<n,c4,cZ (fun i=>rat (c2.snd i) ag) c2.fst ag,ag<=ag,c2.fst<2^40,g9 c5 y,ag<2^41] (fork (bN (cE c5 y)==0) (aj [-c3<=c6/\c6<c3] (leaf ret [int i64 c6])) (leaf ret [int i64 c1])))):=ah
theorem JN {a:PP} {t:Rat} (hn:a.1<2^40) (hz:g9 a t) (K:Nat):aS P 76 K [aG a,.rat t ag] [] (aM (.rat (cE a t) ag) []):=by
 have hW:=cY
 refine iW (r:=aM (.rat (cE a t) ag) []) hT zj hm YV rfl aZ rfl [1,1,0,1] (i:=0) (y:=part yY [1,1,0,1,0,0]) (z:=part yY [1,1,1]) ah ah ah (f1:=[]) (f2:=[11]) (f3:=[]) 60 wY 3
  (fun i:Nat=>EJ a i) (fun i=>ry t (fH a.1 a.2 t i)) (fun i=>i<=a.1) (fun i=>i=a.1) (fun i=>a.1-i) (fun _=>⟨⟨_,ahd,?_⟩,fun i hi=>⟨_,YJ,?_⟩,fun i hi=>⟨_,ab2,?_⟩⟩) K []
 ·simp only[af.all,az]
  exact⟨aa,0,Nat.zero_le _,[(0,0),(1,4096),(2,8192)],rfl,by rw[show(a.1:Int)-1=(a.1:Int)-1-((0:Nat):Int) by omega];rfl,rfl,kj rfl rfl (.inr ⟨rfl,dM rfl aa⟩) (dx (dx trivial))⟩
 ·simp only[af.all,az,bD,bI]
  refine⟨fun h=>?_,fun h=>⟨rfl,i,aa,[(0,0),(1,1),(2,2)],rfl,rfl,rfl,dx (dx (dx trivial))⟩⟩
  rw[show((a.1:Int)-1-(i:Int)).toNat=a.1-1-i by omega]
  exact⟨aa,aa,i+1,aa,by dsimp only;omega,[(0,0),(1,1),(2,2)],rfl,by rw[show(a.1:Int)-1-(i:Int)-1=(a.1:Int)-1-((i+1:Nat):Int) by omega];rfl,rfl,kj rfl rfl (.inr ⟨rfl,dY rfl (hz (i+1) aa)⟩) (dx (dx trivial))⟩
 ·subst hi
  simp only[af.all,az]
  exact⟨⟨aa,aa⟩,aa,.refl _⟩
theorem BE:bf P nN 76:=dO fun⟨a,t,_⟩ K hn=>JN hn.1 hn.2 K
theorem OQ {a:PP} (i:Nat):-1<=gN a i/\gN a i<=1:=NG _
theorem agm {a:PP} (hn:a.1<2^40) (K:Nat):aS P 161 K [aG a] [] (aM (.int .i64 ((bW (gN a) a.1).2:Nat)) []):=by
 have hW:=cY
 refine iW (r:=aM (.int .i64 ((bW (gN a) a.1).2:Nat)) []) hT zj hm TT rfl aZ rfl [1,1,0,1] (i:=0) (y:=part z9 [1,1,0,1,0,0]) (z:=part z9 [1,1,1]) ah ah ah (f1:=[]) (f2:=[10,19,22,26]) (f3:=[]) 60 uz 0
  (fun i:Nat=>yq a (bW (gN a) i).2 (bW (gN a) i).1 i) (fun _=>[]) (fun i=>i<=a.1) (fun i=>i=a.1) (fun i=>a.1-i) (fun _=>⟨⟨_,Zd,?_⟩,fun i hi=>⟨_,X5,?_⟩,fun i hi=>⟨_,UB,?_⟩⟩) K []
 ·simp only[af.all]
  exact⟨0,Nat.zero_le _,dP.vals rfl⟩
 ·obtain⟨h1,h2⟩:=s7 (s:=gN a) OQ i
  have h3:=OQ (a:=a) i
  have e2:(bW (gN a) (i+1)).1=if gN a i=0 then(bW (gN a) i).1 else gN a i:=rfl
  have e3:(bW (gN a) (i+1)).2=if gN a i*(bW (gN a) i).1<0 then(bW (gN a) i).2+1 else(bW (gN a) i).2:=rfl
  have re:∀{l:Int} {m:Int},l=(bW (gN a) (i+1)).1->m=((bW (gN a) (i+1)).2:Nat)->dP [] ([aG a,.int .i64 m,.int .i64 l,.int .i64 ((i:Int)+1)],[]) (yq a (bW (gN a) (i+1)).2 (bW (gN a) (i+1)).1 (i+1)) [] 0:=fun {l m} hl hm=>by
   subst hl hm
   rw[show(i:Int)+1=((i+1:Nat):Int) by omega]
   exact dP.vals rfl
  have e4:bN (a.2 i)=gN a i:=rfl
  have hneg:∀{x y:Int},(-1<=x/\x<=1)->(-1<=y/\y<=1)->x≠0->(x*y<0↔y≠0/\x≠y):=fun {x y} hx hy h0=>by
   rcases(show x=-1\/x=1 by omega)with rfl|rfl<;>omega
  simp only[af.all,az,bD,bI,bG,bne_iff_ne,ne_eq,bne_eq_false_iff_eq,beq_iff_eq,beq_eq_false_iff_ne,cond_true,cond_false,e4]
  have nx:∀{l:Int} {m:Int},(i:Int)<a.1->l=(bW (gN a) (i+1)).1->m=((bW (gN a) (i+1)).2:Nat)->Round [] (fun i:Nat=>yq a (bW (gN a) i).2 (bW (gN a) i).1 i) (fun _=>[]) 0 (fun i=>i<=a.1) (fun i=>i=a.1) (fun i=>a.1-i) 0 (tV f161 uz (.int .i64 ((bW (gN a) a.1).2:Nat))) i .normal ([aG a,.int .i64 m,.int .i64 l,.int .i64 ((i:Int)+1)],[]):=fun {l m} h hl hm=>⟨i+1,aa,by dsimp only;omega,re hl hm⟩
  refine⟨fun h=>⟨⟨aa,aa⟩,fun h0=>⟨aa,nx h (by rw[e2,if_pos h0]) (by rw[e3,if_neg (by rw[h0,Int.zero_mul];omega)])⟩,fun h0=>⟨fun h5=>⟨h5,fun h6=>⟨aa,aa,nx h (by rw[e2,if_neg h0]) (by rw[e3,if_pos ((hneg h3 h1 h0).2 ⟨h5,h6⟩)];omega)⟩,fun h6=>⟨aa,nx h (by rw[e2,if_neg h0]) (by rw[e3,if_neg fun h7=>((hneg h3 h1 h0).1 h7).2 h6])⟩⟩,fun h5=>⟨h5,fun hf=>absurd hf (by decide),fun _=>⟨aa,nx h (by rw[e2,if_neg h0]) (by rw[e3,if_neg fun h7=>((hneg h3 h1 h0).1 h7).1 h5])⟩⟩⟩⟩,fun h=>⟨rfl,i,aa,dP.vals rfl⟩⟩
 ·subst hi;exact .refl _
theorem QS:bf P JW 161:=dO fun⟨a,_⟩ K hn=>agm hn K
theorem Wr:bU P Br:=gH (aL BE (aL QS iP))
theorem Sf {n:Nat} {c:Nat->PP} {t:Rat} (hn:n<2^30) (hz:cL n c t) (K:Nat):aS P 124 K [fK n c,.rat t ag] [] (aM (.int .i64 ((bW (cT c t) n).2:Nat)) []):=by
 have hW:=cY
 refine iW (r:=aM (.int .i64 ((bW (cT c t) n).2:Nat)) []) hT Wr hm Q0 rfl aZ rfl [1,1,0,1] (i:=0) (y:=part xp [1,1,0,1,0,0]) (z:=part xp [1,1,1]) ah ah ah (f1:=[]) (f2:=[10]) (f3:=[]) 60 zn 2
  (fun i:Nat=>Hj n c i) (fun i=>[(0,tR t ag),(1,cy i (fun j=>cE (c j) t) ag)]) (fun i=>i<=n) (fun i=>i=n) (fun i=>n-i) (fun _=>⟨⟨_,ahE,?_⟩,fun i hi=>⟨_,ae5,?_⟩,fun i hi=>⟨_,Vd,?_⟩⟩) K []
 ·simp only[af.all]
  exact⟨0,Nat.zero_le _,[(0,0)],rfl,rfl,rfl,dx (lF rfl aa aa trivial)⟩
 ·simp only[af.all,az,bD,bI,bG]
  refine⟨fun h=>⟨⟨aa,aa,dU aT,aT,(hz i aa).1,(hz i aa).2,aa,aa⟩,aa,i+1,aa,by dsimp only;omega,[(0,0),(1,49154)],rfl,by rw[show(i:Int)+1=((i+1:Nat):Int) by omega];rfl,rfl,dx (bk rfl rfl rfl (fun j hj=>?_) trivial)⟩,fun h=>⟨rfl,i,aa,[(0,0),(1,1)],rfl,rfl,rfl,dx (bk rfl rfl rfl (fun j hj=>bK rfl rfl) trivial)⟩⟩
  by_cases h2:j<i
  ·rw[if_pos h2];exact bK rfl rfl
  ·rw[if_neg h2,show j-i+0=0 by omega,show j=i by omega];exact bK rfl rfl
 ·subst hi
  simp only[af.all,az]
  exact⟨⟨dU aT,aa⟩,.refl _⟩
theorem aef:bf P HU 124:=dO fun⟨⟨n,c⟩,t,_⟩ K hn=>Sf hn.1 hn.2 K
theorem UN:bU P IF:=jq (aL aef (aL BE iP))
theorem R3 {n:Nat} {c:Nat->PP} {x y:Rat} (h0:0<n) (hn:n<2^30) (hxy:x<y) (hx:cL n c x) (hy:cL n c y) (K:Nat):aS P 62 K [fK n c,.rat x ag,.rat y ag] [] (aM (.int .i64 (eW n c x y)) []):=by
 have hW:=cY
 refine cF hT UN hm adx rfl aZ rfl 60 Zg (fun _=>?_) K []
 have hbx:=(s7 (s:=cT c x) wD n).2
 have hby:=(s7 (s:=cT c y) wD n).2
 have h:¬x>=y:=Rat.not_le.2 hxy
 simp only[af.all,az,bD,bI,pR]
 show(_/\(∀i,i<n->bg (aG (c i)) (aG (c i)))/\_/\_/\cL n c x/\_/\_/\_/\_/\cL n c y/\(-2^63<=((bW (cT c x) n).2:Int)-((bW (cT c y) n).2:Int)/\((bW (cT c x) n).2:Int)-((bW (cT c y) n).2:Int)<2^63))/\(_/\_/\_/\_/\_/\g9 (c 0) y/\_)/\(cE (c 0) y=0->_)/\(¬cE (c 0) y=0->_)
 refine⟨⟨aa,fun i _=>.refl _,aT,hn,hx,aa,fun i _=>.refl _,aT,hn,hy,aa⟩,⟨aa,aa,dU aT,aT,(hy 0 h0).1,(hy 0 h0).2,aa⟩,fun h2=>⟨?_,?_⟩,fun h2=>?_⟩
 ·show-2^63<=((bW (cT c x) n).2:Int)-((bW (cT c y) n).2:Int)-1/\((bW (cT c x) n).2:Int)-((bW (cT c y) n).2:Int)-1<2^63
  omega
 ·exact cq (by unfold eW;rw[if_neg h,if_pos h2];rfl)
 ·exact cq (by unfold eW;rw[if_neg h,if_neg h2,Int.sub_zero];rfl)
def Eu:Spec:=en (kC mW (kC (eZ ag) (kC (eZ ag) kN))) (fun a=>.int .i64 (eW a.1.1 a.1.2 a.2.1 a.2.2.1)) fun a=>[0<a.1.1,a.1.1<2^30,a.2.1<a.2.2.1,cL a.1.1 a.1.2 a.2.1,cL a.1.1 a.1.2 a.2.2.1]
theorem HT:bf P Eu 62:=dO fun⟨⟨n,c⟩,x,y,_⟩ K hn=>R3 hn.1 hn.2.1 hn.2.2.1 hn.2.2.2.1 hn.2.2.2.2 K
def UP:Spec:=en (kC (kL ag) kN) (fun a=>fK (b7 a.1) (bS a.1)) fun a=>[og a.1]
theorem aei:bf P UP 63:=dO fun⟨a,_⟩ K hn=>adl hn K
def VJ (p:PP) (a b:Rat):Prop:=mJ p/\((aJ p).1≠0->og (aJ p)/\b7 (aJ p)<2^30/\cL (b7 (aJ p)) (bS (aJ p)) a/\cL (b7 (aJ p)) (bS (aJ p)) b)
theorem DS {u v:AV} (h:bg u v):bg (.b9 u) (.b9 v):=by
 refine⟨rfl,fun M w cs hc=>?_⟩
 cases hc with
 |b9 h1 h2 h3=>cases h3;exact .b9 (h.2 _ _ _ h1) h2 .nil
theorem aaS {f:FuncId} {us vs:List AV} (h:g7 us vs) (hv:(vs.all fun v=>!v.isAgg&&!v.isTuple)=true):bg (.func f us) (.func f vs):=by
 refine⟨rfl,fun M w cs hc=>?_⟩
 cases hc with
 |func h1 h2 h3=>cases h3;exact .func (EC h h1) hv .nil
def kRf {α:Type} (k:Kind α):Kind α:=⟨fun v=>match v with
 |.b9 v=>k.read v
 |_=>none,fun a=>.b9 (k.make a),fun {v a q} h hq=>by
  split at h
  ·exact DS (k.ok h hq)
  ·simp at h⟩
abbrev fJ (a b:Rat) (n:Nat):AV:=.agg [.rat a n,.rat b n]
def Ak (s:Nat):Kind (Rat×Rat):=⟨fun v=>match v with
 |.agg [x,y]=>some ((aQ x,aQ y),[bg x (.rat (aQ x) s),bg y (.rat (aQ y) s)])
 |_=>none,fun a=>fJ a.1 a.2 s,fun {v a q} h hq=>by
  split at h
  ·simp only[ay,Prod.mk.injEq]at h
   obtain⟨rfl,rfl⟩:=h
   exact p8 ⟨hq.1,hq.2,trivial⟩
  ·simp at h⟩
def kHf:Kind Unit:=⟨fun v=>match v with
 |.agg [.bool false,.ak 1 1 f,.ak 1 1 g]=>some ((),[f 0=.int .u32 1,g 0=.int .u32 2])
 |_=>none,fun _=>.rat (1/2) 3,fun {v a q} h hq=>by
  split at h
  ·simp only[ay,Prod.mk.injEq]at h
   obtain⟨_,rfl⟩:=h
   refine bg.trans (p8 (vs:=[.bool false,.mag 1,.mag 2]) ⟨.refl _,kY (N:=1) (by decide) (fun i hi=>by obtain rfl:i=0:=aa;exact hq.1),kY (N:=2) (by decide) (fun i hi=>by obtain rfl:i=0:=aa;exact hq.2),trivial⟩) (tT (b:=false) (x:=1) (y:=2) (q:=1/2) ⟨by decide+kernel,by decide+kernel⟩ (by decide+kernel) (by decide+kernel) (by decide+kernel))
  ·simp at h⟩
def IM:Spec:=en (kC kR (kC kHf kN)) (fun a=>.rat (a.1.1*(1/2)) (a.1.2+3)) fun a=>[a.1.2<2^42]
def Jg:Spec:=en (kC (eZ ag) (kC (eZ ag) kN)) (fun a=>.rat (jc a.1 a.2.1) ag) fun _=>[]
def Nh:Spec:=en (kC (eZ ag) (kC (eZ ag) kN)) (fun a=>.rat (jf a.1 a.2.1) ag) fun _=>[]
def Ob:bz:=nG::(130,Jg)::(131,Nh)::iC
def Ih:bz:=nG::(129,IM)::(132,ET T [sG] [] 20 f132)::iC
def aY (a b:Rat):Rat:=(a+b)*(1/2)
def Dt:Spec:=en (kC (eZ ag) (kC (eZ ag) kN)) (fun a=>fJ (jc a.1 a.2.1) (jf a.1 a.2.1) ag) fun _=>[]
def O4:bz:=nG::(68,Dt)::iC
def HZ:bz:=zG::(66,nN)::iC
def Md:bz:=nG::(66,nN)::(60,Cp)::iC
theorem Rf:br 69 f69:=bu func69
theorem ZY:br 132 f132:=bu func132
theorem XH:br 68 f68:=bu func68
theorem aaA:br 70 f70:=bu func70
theorem UT:br 74 f74:=bu func74
theorem QC:br 64 f64:=bu func64
theorem Ym {x y:Rat}:cB T Ob [] 60 f68 (aI f68) ⟨aU 0 [.rat x ag,.rat y ag],[],0⟩=
  let c1:Prop:=0<1;some (aj [c1,c1,ag<=ag,ag<=ag,c1,c1,ag<=ag,ag<=ag,c1] (aj [c1] (leaf ret [agg [rat (jc x y) ag,rat (jf x y) ag]]))):=ah
theorem Uj {x y:Rat}:cB T Ih [] 60 f69 (aI f69) ⟨aU 0 [.rat x ag,.rat y ag],[],0⟩=
  let c2:Nat:=2^42;let c1:Prop:=0<1;some (aj [c1,c1,ag<c2,ag<c2,(1:Nat)*1<=2^24,nth [int u32 (1:Int)] (int u32 (0:Int)) ((0:Nat)+0)=int u32 (1:Int),nth [int u32 (2:Int)] (int u32 (0:Int)) ((0:Nat)+0)=int u32 (2:Int),ag+ag+1<c2,c1] (aj [c1] (leaf ret [rat ((x+y)*(1/2:Rat)) (ag+ag+1+3)]))):=ah
theorem ac0 {x:Rat}:cB T O4 [] 60 f70 (aI f70) ⟨aU 0 [.rat x ag],[],0⟩=
  let c1:Prop:=0<1;some (aj [c1,c1,ag<=ag,ag<=ag,c1] (aj [c1] (leaf ret [agg [rat (jc x x) ag,rat (jf x x) ag]]))):=ah
theorem agN {n:Nat} {c:Nat->PP} {x:Rat}:cB T HZ [] 60 f64 (aI f64) ⟨aU 0 [.rat x ag,.b9 (fK n c)],[],0⟩=
  let c1:PP:=c (Int.toNat (0:Int));let c2:Nat×(Nat->Rat):=(c1.fst,fun i=>aQ (rat (c1.snd i) ag));some (aj [(0:Int)<=0/\Int.toNat (0:Int)<n,(0:Nat)<1,cZ (fun i=>rat (c1.snd i) ag) c1.fst ag,ag<=ag,c1.fst<2^40,g9 c2 x,ag<2^42] (leaf ret [AV.bool (bN (cE c2 x)==0)])):=ah
theorem TM {n:Nat} {c:Nat->PP} {x y:Rat}:cB T Md [9] 60 f74 (aI f74) ⟨aU 0 [fK n c,fJ x y ag],[],0⟩=
  let c4:Int:=eW n (fun i=>bV (aG (c i))) x y;let c3:Prop:=ag<2^42;let c2:Prop:=0<1;let c1:PP:=c (Int.toNat (0:Int));let c5:Nat×(Nat->Rat):=(c1.fst,fun i=>aQ (rat (c1.snd i) ag));some (aj [c2,c2,c3,c3] (fork (decide (x=y)) (aj [(0:Int)<=0/\Int.toNat (0:Int)<n,c2,cZ (fun i=>rat (c1.snd i) ag) c1.fst ag,ag<=ag,c1.fst<2^40,g9 c5 x,c3] (leaf ret [AV.bool (bN (cE c5 x)==0)])) (aj [c2,c2,∀(i:Nat),i<n->bg (aG (c i)) (aG (bV (aG (c i)))),ag<=ag,ag<=ag,(0:Nat)<n,n<2^40,cL n (fun i=>bV (aG (c i))) x,cL n (fun i=>bV (aG (c i))) y] (leaf ret [AV.bool (decide (c4>0))])))):=ah
theorem afZ:bf P Jg 130:=dO fun⟨x,y,_⟩ K _=>by
 have hW:=cY
 have:=Xq (q:=x) (r:=y) (n:=ag) (m:=ag) aa aa K
 rw[Nat.max_self]at this;exact this
theorem Tw:bf P Nh 131:=dO fun⟨x,y,_⟩ K _=>by
 have hW:=cY
 have:=abt (q:=x) (r:=y) (n:=ag) (m:=ag) aa aa K
 rw[Nat.max_self]at this;exact this
theorem Z8:bf P IM 129:=dO fun⟨x,_,_⟩ K hn=>Mn hn aa K
theorem Yn:bU P Ob:=jq (aL afZ (aL Tw iF))
theorem aga:bU P Ih:=jq (aL Z8 (aL (LK hT (Aw cG) hm ZY _ _) iF))
theorem Rv {x y:Rat} (K:Nat):aS P 68 K [.rat x ag,.rat y ag] [] (aM (fJ (jc x y) (jf x y) ag) []):=by
 refine cF hT Yn hm XH rfl aZ rfl 60 Ym (fun _=>?_) K []
 simp only[af.all,az]
 exact⟨⟨aa,aa,aa,aa,aa,aa,aa,aa,aa⟩,aa,.refl _⟩
theorem Mj:bf P Dt 68:=dO fun⟨x,y,_⟩ K _=>Rv K
theorem adM:bU P O4:=jq (aL Mj iF)
def EK:Spec:=en (kC (eZ ag) kN) (fun a=>fJ a.1 a.1 ag) fun _=>[]
theorem Qj (x:Rat):jc x x=x:=by unfold jc;split<;>rfl
theorem Wf (x:Rat):jf x x=x:=by unfold jf;split<;>rfl
theorem Lz:bf P EK 70:=dO fun⟨x,_⟩ K _=>by
 refine cF hT adM hm aaA rfl aZ rfl 60 ac0 (fun _=>?_) K []
 simp only[af.all,az,Qj,Wf]
 exact⟨⟨aa,aa,aa,aa,aa⟩,aa,.refl _⟩
def M6:Spec:=en (kC (eZ ag) (kC (eZ ag) kN)) (fun a=>.rat (aY a.1 a.2.1) ag) fun a=>[Sz (aY a.1 a.2.1) ag]
theorem acM:bf P M6 69:=dO fun⟨x,y,_⟩ K hn=>by
 have hW:=cY
 refine cF hT aga hm Rf rfl aZ rfl 60 Uj (fun _=>?_) K []
 simp only[af.all,az]
 exact⟨⟨aa,aa,aa,aa,aa,rfl,rfl,aa,aa⟩,aa,dY rfl hn⟩
def DB:Spec:=en (kC (eZ ag) (kC (kRf mW) kN)) (fun a=>.bool (decide (cE (a.2.1.2 0) a.1=0))) fun a=>[0<a.2.1.1,cL a.2.1.1 a.2.1.2 a.1]
theorem YZ:bU P HZ:=gH (aL AM iF)
theorem Ka:bf P DB 64:=dO fun⟨x,⟨n,c⟩,_⟩ K hn=>by
 have hW:=cY
 refine cF hT YZ hm QC rfl aZ rfl 60 agN (fun _=>?_) K []
 obtain⟨h1,h2⟩:=hn.2 0 hn.1
 simp only[af.all,az]
 exact⟨⟨⟨aa,hn.1⟩,aa,dU aT,aT,h1,h2,aa⟩,eU (by simp only[pR];rfl)⟩
theorem Vf:bU P Md:=jq (aL AM (aL Fk iF))
def oJ (n:Nat) (c:Nat->PP) (x y:Rat):Bool:=if x=y then decide (cE (c 0) x=0)else decide (0<eW n c x y)
def JC:Spec:=en (kC mW (kC (Ak ag) kN)) (fun a=>.bool (oJ a.1.1 a.1.2 a.2.1.1 a.2.1.2)) fun a=>[0<a.1.1,a.1.1<2^40,cL a.1.1 a.1.2 a.2.1.1,cL a.1.1 a.1.2 a.2.1.2]
theorem afp:bf P JC 74:=dO fun⟨⟨n,c⟩,⟨x,y⟩,_⟩ K hn=>by
 have hW:=cY
 refine cF hT Vf hm UT rfl aZ rfl 60 TM (fun _=>?_) K []
 obtain⟨g1,g2,g3,g4⟩:=hn
 obtain⟨h1,h2⟩:=g3 0 g1
 simp only[af.all,az,bD,bI]
 refine⟨⟨aa,aa,aa,aa⟩,fun h=>⟨⟨⟨aa,g1⟩,aa,dU aT,aT,h1,h2,aa⟩,?_⟩,fun h=>⟨⟨aa,aa,fun i _=>.refl _,aT,aT,g1,g2,g3,g4⟩,?_⟩⟩
 ·exact eU (by unfold oJ;rw[if_pos h];simp only[pR];rfl)
 ·exact eU (by unfold oJ;rw[if_neg h];rfl)
def bC (n:Nat) (c:Nat->PP):Nat->Rat->Rat->List (Rat×Rat)
 |0,_,_=>[]
 |d+1,x,y=>if eW n c x y=0 then []else if eW n c x y=1 then [(jc x y,jf x y)]else
  bC n c d x (aY x y)++(if cE (c 0) (aY x y)=0 then(aY x y,aY x y)::bC n c d (aY x y) y else bC n c d (aY x y) y)
def jO (n:Nat) (c:Nat->PP):Nat->Rat->Rat->Prop
 |0,_,_=>False
 |d+1,x,y=>cL n c x/\cL n c y/\(eW n c x y≠0->eW n c x y≠1->Sz (aY x y) ag/\jO n c d x (aY x y)/\jO n c d (aY x y) y)
def lR:AV->Rat×Rat
 |.agg [x,y]=>(aQ x,aQ y)
 |_=>(0,0)
def jv (f:Nat->AV) (m:Nat):List (Rat×Rat):=(List.range m).map fun i=>lR (f i)
def bO (l:List (Rat×Rat)) (i:Nat):Rat×Rat:=l.getD i (0,0)
abbrev cu (l:List (Rat×Rat)) (i:Nat):AV:=fJ (bO l i).1 (bO l i).2 ag
abbrev mZ (l:List (Rat×Rat)):ax:=⟨true,true,6,l.length,cu l⟩
abbrev s6:FuncId:=64
abbrev mU:FuncId:=67
abbrev BA (n:Nat) (c:Nat->PP):AV:=.func s6 [.b9 (fK n c)]
abbrev N4 (n:Nat) (c:Nat->PP) (kf kl:Nat):AV:=.func mU [.b9 (fK n c),.ptr kf 0 1 0 [],.ptr kl 0 1 0 [],.b9 (BA n c)]
abbrev wj (k m:Nat):ax:=⟨false,true,1,1,fun _=>.own k 6 0 m⟩
abbrev sI (n:Nat) (c:Nat->PP) (kf kl:Nat):ax:=⟨false,true,1,1,fun _=>N4 n c kf kl⟩
abbrev gone:ax:=⟨true,false,0,0,fun _=>.nil⟩
def isVar (o:ax):Bool:=!o.row&&o.wr&&o.es==1&&o.len==1
def HD (st:aE) (k:Nat):Option (Nat×Nat×(Nat->AV)×Nat):=match look k st with
 |some o=>if isVar o then match o.f 0 with
  |.own k0 6 0 m=>match look k0 st with
   |some r=>if r.row&&r.wr&&r.es==6&&k0 !=k then some (k0,m,r.f,r.len)else none
   |none=>none
  |_=>none else none
 |none=>none
def EP (st:aE) (kf kl:Nat):Option (AV×AV):=match look kl st with
 |some o=>if isVar o then match o.f 0 with
  |.func g [.b9 ch,.ptr kf' 0 1 0 [],.ptr kl' 0 1 0 [],.b9 is]=>if g==mU&&kf'==kf&&kl'==kl&&kl !=kf then some (ch,is)else none
  |_=>none else none
 |none=>none
def BN:AV->Option AV
 |.func g [.b9 ch]=>if g==s6 then some ch else none
 |_=>none
def qA (d:Nat):Spec:=fun K args st=>match args with
 |[x,y,.b9 ch,.ptr kf 0 1 0 [],.ptr kl 0 1 0 [],.b9 is]=>match(eZ ag).read x,(eZ ag).read y,mW.read ch,BN is with
  |some (x,q1),some (y,q2),some ((n,c),q3),some ch1=>match HD st kf,EP st kf kl with
   |some (k0,m,f,len),some (ch2,is2)=>match BN is2 with
    |some ch3=>if k0 !=kl&&Nat.blt kf K&&Nat.blt kl K&&Nat.blt k0 K then
      some ⟨.tuple [],[(kf,wj K (jv f m++bC n c d x y).length),(kl,sI n c kf kl),(K,mZ (jv f m++bC n c d x y)),(k0,gone)],
       [az q1,az q2,az q3,bg ch1 (fK n c),bg ch2 (fK n c),bg ch3 (fK n c),m=len,∀i,i<m->keys (f i)=[]/\bg (f i) (fJ (lR (f i)).1 (lR (f i)).2 ag),0<n,n<2^40,jO n c d x y,m+(bC n c d x y).length<2^30]⟩else none
    |none=>none
   |_,_=>none
  |_,_,_,_=>none
 |_=>none
def IG (d:Nat):bz:=nG::(60,Cp)::(68,Dt)::(70,EK)::(69,M6)::(s6,DB)::(mU,qA d)::iC
abbrev JG:Code:=aI f67
abbrev GW (n:Nat) (c:Nat->PP) (x y:Rat):List AV:=[.rat x ag,.rat y ag,.b9 (fK n c),.ptr 0 0 1 0 [],.ptr 1 0 1 0 [],.b9 (BA n c)]
abbrev Ib (n:Nat) (c:Nat->PP) (l:List (Rat×Rat)):aE:=[(0,wj 2 l.length),(1,sI n c 0 1),(2,mZ l)]
theorem LQ:br mU f67:=bu func67
theorem Qd {d n:Nat} {c:Nat->PP} {x y:Rat} {l:List (Rat×Rat)}:aH T (IG d) [32,34,22] 60 [3,4] [JG] ⟨aU 0 (GW n c x y),Ib n c l,3⟩=
  let c31:AV:=fK n fun i=>bV (aG (c i));let c29:Int:=eW n (fun i=>bV (aG (c i))) x y;let c26:Nat:=2^30;let c25:Prop:=0<n;let c24:Prop:=1*6<=2^24;let c21:Rat:=aY x y;let c19:Nat:=l.length;let c18:AV:=rat 0 1;let c17:Prop:=n<2^40;let c16:Prop:=ag<=ag;let c14:AV:=ptr 0 0 1 0 [];let c13:AV:=ptr 1 0 1 0 [];let c11:Prop:=az [∀(i:Nat),i<n->bg (aG (bV (aG (c i)))) (aG (bV (aG (bV (aG (c i))))))];let c10:AV:=(ak 1 n fun i=>ak 3 (c i).fst fun i_1=>rat ((c i).snd i_1) ag).b9;let c9:AV:=(ak 1 n fun i=>ak 3 (c i).fst fun i_1=>rat (aQ (rat (aQ (rat ((c i).snd i_1) ag)) ag)) ag).b9;let c6:Prop:=0<1;let c33:List (Rat×Rat):=bC n (fun i=>bV (aG (c i))) d x c21;let c32:Nat:=c19+1;let c30:Rat:=cE (bV (aG (c 0))) c21;let c28:Prop:=az [c16];let c27:AV:=own 2 6 0 c19;let c20:Prop:=jO n (fun i=>bV (aG (bV (aG (c i))))) d c21 y;let c12:Prop:=bg (fK n c) c31;let c8:List AV:=[c14,c13];let c7:List (Rat×Rat):=bC n (fun i=>bV (aG (bV (aG (c i))))) d c21 y;let c5:Prop:=bg c31 (fK n fun i=>bV (aG (bV (aG (c i)))));let c4:Nat×ax:=(1,ax.mk false true 1 1 fun x=>func 67 [c10,c14,c13,(func 64 [c10]).b9]);let c3:Nat×ax:=(1,ax.mk false true 1 1 fun x=>func 67 [c9,c14,c13,(func 64 [c9]).b9]);let c1:List (Rat×Rat):=jv (cu l) c19++c33;let c15:Nat:=c1.length;let c23:List (Rat×Rat):=jv (cu c1) c15++c7;let c22:Nat:=c15+1;let c2:List (Rat×Rat):=jv (fun i=>if i<c15 then cu c1 i else nth [agg [rat c21 ag,rat c21 ag]] (agg [c18,c18]) (i-c15+0)) c22++c7;some (aj [c6,c6,∀(i:Nat),i<n->bg (aG (c i)) (aG (bV (aG (c i)))),c16,c16,c25,c17,cL n (fun i=>bV (aG (c i))) x,cL n (fun i=>bV (aG (c i))) y] (fork (c29==0) (leaf normal (c8,[c4,(0,ax.mk false true 1 1 fun x=>c27),(2,ax.mk true true 6 c19 fun i=>agg [rat (bO l i).fst ag,rat (bO l i).snd ag])])) (fork (c29==1) (aj [c6,c6,c6,c16,c16,c24,c32*((112:Nat)+1)*2<=2^47,c6] (leaf normal (c8,[c4,(0,ax.mk false true 1 1 fun j=>if(j==0)=true then eC (own (nat_lit 61442+1) 6 0 c32)else c27),(61443,ax.mk true true 6 c32 fun i=>if i<c19 then cu l i else nth [agg [rat (jc x y) ag,rat (jf x y) ag]] (agg [c18,c18]) (i-c19+0))]))) (aj [c6,c6,c16,c16,Sz c21 ag,c6] (aj [c6,c6,c6,c28,c28,az [∀(i:Nat),i<n->bg (aG (c i)) (aG (bV (aG (c i))))],c12,c12,c12,c19=c19,∀(i:Nat),i<c19->(cu l i).keys=[]/\bg (cu l i) (fJ (aQ (rat (bO l i).fst ag)) (aQ (rat (bO l i).snd ag)) ag),c25,c17,jO n (fun i=>bV (aG (c i))) d x c21,c19+c33.length<c26] (aj [c6,c16,∀(i:Nat),i<n->bg (aG (c i)) (aG (bV (aG (c i)))),c25,cL n (fun i=>bV (aG (c i))) c21] (fork (decide (c30=0)) (aj [c6,c6,c16,c24,c22*((112:Nat)+1)*2<=2^47,c6] (aj [c6,c6,c6,c28,c28,c11,c5,c5,c5,c22=c22,∀(i:Nat),i<c22->(if i<c15 then cu c1 i else nth [agg [rat c21 ag,rat c21 ag]] (agg [c18,c18]) (i-c15+0)).keys=[]/\bg (if i<c15 then cu c1 i else nth [agg [rat c21 ag,rat c21 ag]] (agg [c18,c18]) (i-c15+0)) (fJ (lR (if i<c15 then cu c1 i else nth [agg [rat c21 ag,rat c21 ag]] (agg [c18,c18]) (i-c15+0))).fst (lR (if i<c15 then cu c1 i else nth [agg [rat c21 ag,rat c21 ag]] (agg [c18,c18]) (i-c15+0))).snd ag),c25,c17,c20,c22+c7.length<c26] (leaf normal (c8,[c3,(0,ax.mk false true 1 1 fun x=>own 126979 6 0 c2.length),(126979,ax.mk true true 6 c2.length fun i=>agg [rat (bO c2 i).fst ag,rat (bO c2 i).snd ag])])))) (aj [c6,c6,c6,c28,c28,c11,c5,c5,c5,c15=c15,∀(i:Nat),i<c15->(cu c1 i).keys=[]/\bg (cu c1 i) (fJ (aQ (rat (bO c1 i).fst ag)) (aQ (rat (bO c1 i).snd ag)) ag),c25,c17,c20,c15+c7.length<c26] (leaf normal (c8,[c3,(0,ax.mk false true 1 1 fun x=>own 102403 6 0 c23.length),(102403,ax.mk true true 6 c23.length fun i=>agg [rat (bO c23 i).fst ag,rat (bO c23 i).snd ag])])))))))))):=ah
theorem Nf {s:Nat} {v:AV} {x:Rat} {q:List Prop} (h:(eZ s).read v=some (x,q)):v.isTuple=false:=by
 unfold eZ at h
 dsimp only at h
 split at h
 ·rename_i h1
  unfold oQ at h1
  split at h1
  ·rfl
  ·rfl
  ·simp at h1
 ·simp at h
theorem Io {s:Nat} {v:AV} {x:Rat} {q:List Prop} (h:(eZ s).read v=some (x,q)):keys v=[]:=by
 unfold eZ at h
 dsimp only at h
 split at h
 ·rename_i h1
  unfold oQ at h1
  split at h1
  ·rfl
  ·rfl
  ·simp at h1
 ·simp at h
theorem LM {o:ax} (h:isVar o=true):o=⟨false,true,1,1,o.f⟩:=by
 obtain⟨r,w,es,len,f⟩:=o
 unfold isVar at h
 simp only[Bool.and_eq_true,Bool.not_eq_true',beq_iff_eq]at h
 obtain⟨⟨⟨h1,h2⟩,h3⟩,h4⟩:=h
 subst h1 h2 h3 h4;rfl
theorem Qt {st:aE} {k k0 m len:Nat} {f:Nat->AV} (h:HD st k=some (k0,m,f,len)):∃g,look k st=some ⟨false,true,1,1,g⟩/\g 0=.own k0 6 0 m/\look k0 st=some ⟨true,true,6,len,f⟩/\k0≠k:=by
 unfold HD at h
 split at h
 ·rename_i o ho
  split at h
  ·rename_i hv
   have hv:=LM hv
   split at h
   ·rename_i k0' m' hf
    split at h
    ·rename_i r hr
     split at h
     ·rename_i hc
      simp only[Bool.and_eq_true,beq_iff_eq,bne_iff_ne,ne_eq]at hc
      obtain⟨⟨⟨c1,c2⟩,c3⟩,c4⟩:=hc
      simp only[ay,Prod.mk.injEq]at h
      obtain⟨rfl,rfl,rfl,rfl⟩:=h
      refine⟨o.f,by rw[ho,<-hv],hf,?_,c4⟩
      rw[hr]
      obtain⟨r1,r2,r3,r4,r5⟩:=r
      subst c1 c2 c3;rfl
     ·simp at h
    ·simp at h
   ·simp at h
  ·simp at h
 ·simp at h
theorem Ss {st:aE} {kf kl:Nat} {ch is:AV} (h:EP st kf kl=some (ch,is)):∃g,look kl st=some ⟨false,true,1,1,g⟩/\g 0=.func mU [.b9 ch,.ptr kf 0 1 0 [],.ptr kl 0 1 0 [],.b9 is]/\kl≠kf:=by
 unfold EP at h
 split at h
 ·rename_i o ho
  split at h
  ·rename_i hv
   have hv:=LM hv
   split at h
   ·rename_i g' ch' kf' kl' is' hf
    split at h
    ·rename_i hc
     simp only[Bool.and_eq_true,beq_iff_eq,bne_iff_ne,ne_eq]at hc
     obtain⟨⟨⟨c1,c2⟩,c3⟩,c4⟩:=hc
     simp only[ay,Prod.mk.injEq]at h
     obtain⟨rfl,rfl⟩:=h
     subst c1 c2 c3
     exact⟨o.f,by rw[ho,<-hv],hf,c4⟩
    ·simp at h
   ·simp at h
  ·simp at h
 ·simp at h
theorem MH {v ch:AV} (h:BN v=some ch):v=.func s6 [.b9 ch]:=by
 unfold BN at h
 split at h
 ·split at h
  ·rename_i hc
   have:=eq_of_beq hc
   simp only[ay]at h
   subst h this;rfl
  ·simp at h
 ·simp at h
theorem wZ {f:Nat->AV} {m:Nat}:(jv f m).length=m:=by simp[jv]
theorem Yt {f:Nat->AV} {m i:Nat} (h:i<m):bO (jv f m) i=lR (f i):=by
 unfold bO jv
 simp[List.getD,h]
theorem Nc {f:Nat->AV} {m:Nat} {l:List (Rat×Rat)} (hl:l.length=m) (h:∀i,i<m->lR (f i)=bO l i):jv f m=l:=by
 apply List.ext_getElem
 ·rw[wZ,hl]
 ·intro i h1 h2
  have:=h i (by rwa [wZ]at h1)
  simp only[jv,List.getElem_map,List.getElem_range,this,bO]
  simp[List.getD,h2]
theorem Kx {l:List (Rat×Rat)}:jv (cu l) l.length=l:=Nc rfl fun i _=>rfl
theorem sx {l l':List (Rat×Rat)} {i:Nat}:bO (l++l') i=if i<l.length then bO l i else bO l' (i-l.length):=by
 unfold bO
 simp only[List.getD,List.getElem?_append]
 split<;>rfl
theorem Bh {s':aK} {e:aq} {n:Nat} {c:Nat->PP} {kf kl K kx:Nat} {vs:List AV} {vf vl row:ax} {L:List (Rat×Rat)} (he:e=.normal) (h1:kl≠kf) (g1:kf<K) (g2:kl<K) (hv:bA [3,4] s'=some (vs,[(1,vl),(0,vf),(kx,row)])) (hkx:2<=kx) (hl:vl=sI n c 0 1)
  (hf:vf=⟨false,true,1,1,vf.f⟩) (hf0:vf.f 0=.own kx 6 0 L.length) (hr:row=⟨true,true,6,L.length,row.f⟩) (hr0:∀i,i<L.length->row.f i=cu L i):
  (e=.normal\/e=.ret)/\∃ls vs os kx o1 o2 o3,bA ls s'=some (vs,os)/\2<=kx/\
   look 0 os=some o1/\dL (aX [(kf,0),(kl,1),(K,kx)]) o1 (wj K L.length)/\look 1 os=some o2/\dL (aX [(kf,0),(kl,1),(K,kx)]) o2 (sI n c kf kl)/\look kx os=some o3/\dL (aX [(kf,0),(kl,1),(K,kx)]) o3 (mZ L):=by
 have n1:¬kf=K:=aa
 have n2:¬kl=K:=aa
 have n3:¬0=kx:=aa
 have n4:¬1=kx:=aa
 have r1:aX [(kf,0),(kl,1),(K,kx)] kf=some 0:=by simp[aX,look]
 have r2:aX [(kf,0),(kl,1),(K,kx)] kl=some 1:=by simp[aX,look,h1.symm]
 have r3:aX [(kf,0),(kl,1),(K,kx)] K=some kx:=by simp[aX,look,n1,n2]
 refine⟨.inl he,[3,4],vs,_,kx,vf,vl,row,hv,hkx,by simp[look],?_,by simp[look],?_,by simp[look,n3,n4],?_⟩
 ·rw[hf]
  exact ia rfl fun i hi=>by obtain rfl:i=0:=aa;rw[hf0];exact ec r3 rfl rfl
 ·rw[hl]
  exact ia rfl fun i hi=>G0 ⟨⟨rfl,iS rfl (.refl _)⟩,⟨rfl,iw r1⟩,⟨rfl,iw r2⟩,⟨rfl,iS rfl (.refl _)⟩,trivial⟩ rfl
 ·rw[hr]
  exact ia rfl fun i hi=>by rw[hr0 i hi];exact iS rfl (.refl _)
theorem ahI {d:Nat} (h:∀K args pre r,qA d K args pre=some r->aS P mU K args pre r):bU P (IG d):=jq (aL Fk (aL Mj (aL Lz (aL acM (aL Ka (aL h iF))))))
theorem jO.right {n d:Nat} {c:Nat->PP} {x y:Rat} (h:jO n c d x y):cL n c y:=by
 cases d with
 |zero=>exact h.elim
 |succ d=>exact h.2.1
theorem PT {v z:AV} {i:Nat} (h:i=0):nth [v] z i=v:=by subst h;rfl
theorem uN {l:List (Rat×Rat)} {p:Rat×Rat} {z:AV} {i:Nat} (hi:i<l.length+1):(if i<l.length then cu l i else nth [fJ p.1 p.2 ag] z (i-l.length+0))=cu (l++[p]) i:=by
 unfold cu
 rw[sx]
 split
 ·rfl
 ·rw[PT aa,show i-l.length=0 by omega];rfl
theorem Jx {l:List (Rat×Rat)} {p:Rat×Rat} {z:AV}:jv (fun i=>if i<l.length then cu l i else nth [fJ p.1 p.2 ag] z (i-l.length+0)) (l.length+1)=l++[p]:=
 Nc (by simp) fun i hi=>by
  have:=uN (p:=p) (z:=z) hi
  rw[this];rfl
theorem af0 {d:Nat} (hd:∀K args pre r,qA d K args pre=some r->aS P mU K args pre r) {n:Nat} {c:Nat->PP} {x y:Rat} {l:List (Rat×Rat)} {kf kl K:Nat} (h1:kl≠kf) (g1:kf<K) (g2:kl<K) (hn0:0<n) (hn:n<2^40) (hz:jO n c (d+1) x y) (hb:l.length+(bC n c (d+1) x y).length<2^30) (cx:Ctx):
  au P cx f67.ntmps JG ⟨aU 0 (GW n c x y),Ib n c l,3⟩ fun e s'=>(e=.normal\/e=.ret)/\∃ls vs os kx o1 o2 o3,bA ls s'=some (vs,os)/\2<=kx/\
   look 0 os=some o1/\dL (aX [(kf,0),(kl,1),(K,kx)]) o1 (wj K (l++bC n c (d+1) x y).length)/\look 1 os=some o2/\dL (aX [(kf,0),(kl,1),(K,kx)]) o2 (sI n c kf kl)/\look kx os=some o3/\dL (aX [(kf,0),(kl,1),(K,kx)]) o3 (mZ (l++bC n c (d+1) x y)):=by
 have hW:=cY
 obtain⟨z1,z2,z3⟩:=hz
 have hC:(fun i=>bV (aG (c i)))=c:=rfl
 have hL:bC n c (d+1) x y=if eW n c x y=0 then []else if eW n c x y=1 then [(jc x y,jf x y)]else
  bC n c d x (aY x y)++(if cE (c 0) (aY x y)=0 then(aY x y,aY x y)::bC n c d (aY x y) y else bC n c d (aY x y) y):=rfl
 have hk:∀{l:List (Rat×Rat)} {i:Nat},i<l.length->keys (cu l i)=[]/\bg (cu l i) (fJ (aQ (.rat (bO l i).1 ag)) (aQ (.rat (bO l i).2 ag)) ag):=fun _=>⟨rfl,.refl _⟩
 have hq:∀{l:List (Rat×Rat)} {p:Rat×Rat} {z:AV} {i:Nat},i<l.length+1->keys (if i<l.length then cu l i else nth [fJ p.1 p.2 ag] z (i-l.length+0))=[]/\
   bg (if i<l.length then cu l i else nth [fJ p.1 p.2 ag] z (i-l.length+0)) (fJ (lR (if i<l.length then cu l i else nth [fJ p.1 p.2 ag] z (i-l.length+0))).1 (lR (if i<l.length then cu l i else nth [fJ p.1 p.2 ag] z (i-l.length+0))).2 ag):=fun hi=>by
  rw[uN hi];exact⟨rfl,.refl _⟩
 refine au.bL hT (ahI hd) hm 60 [3,4] Qd LQ.dst ?_
 simp only[af.all,az,hC,beq_iff_eq,beq_eq_false_iff_ne,ne_eq,bD,bI,Kx]
 refine⟨⟨aa,aa,fun i _=>.refl _,aT,aT,hn0,hn,z1,z2⟩,fun b0 s' hv=>?_,fun b0=>⟨fun b1=>⟨⟨aa,aa,aa,aT,aT,aa,?_,aa⟩,fun s' hv=>?_⟩,fun b1=>?_⟩⟩
 ·rw[hL,if_pos b0,List.append_nil]
  exact⟨.inl trivial,(Bh (L:=l) rfl h1 g1 g2 hv aa rfl rfl rfl rfl fun i _=>rfl).2⟩
 ·rw[hL,if_neg b0,if_pos b1]at hb
  simp only[List.length_cons,List.length_nil]at hb
  omega
 ·rw[hL,if_neg b0,if_pos b1]
  refine⟨.inl trivial,(Bh (L:=l++[(jc x y,jf x y)]) rfl h1 g1 g2 hv aa rfl rfl (by rw[List.length_append];rfl) (by rw[List.length_append];rfl) fun i hi=>?_).2⟩
  rw[List.length_append]at hi
  exact uN (p:=(jc x y,jf x y)) hi
 ·obtain⟨m1,m2,m3⟩:=z3 b0 b1
  rw[hL,if_neg b0,if_neg b1]at hb ⊢
  rw[List.length_append]at hb
  have hl2:(bC n c d (aY x y) y).length<=(if cE (c 0) (aY x y)=0 then(aY x y,aY x y)::bC n c d (aY x y) y else bC n c d (aY x y) y).length:=by
   split
   ·exact Nat.le_succ _
   ·exact Nat.le_refl _
  refine⟨⟨aa,aa,aT,aT,m1,aa⟩,⟨aa,aa,aa,aT,aT,fun i _=>.refl _,.refl _,.refl _,.refl _,trivial,fun i hi=>hk hi,hn0,hn,m2,aa⟩,⟨aa,aT,fun i _=>.refl _,hn0,m2.right⟩,fun r0=>⟨⟨aa,aa,aT,aa,?_,aa⟩,⟨aa,aa,aa,aT,aT,fun i _=>.refl _,.refl _,.refl _,.refl _,trivial,fun i hi=>hq (p:=(aY x y,aY x y)) hi,hn0,hn,m3,?_⟩,fun s' hv=>?_⟩,
   fun r0=>⟨⟨aa,aa,aa,aT,aT,fun i _=>.refl _,.refl _,.refl _,.refl _,trivial,fun i hi=>hk hi,hn0,hn,m3,?_⟩,fun s' hv=>?_⟩⟩
  ·rw[List.length_append];omega
  ·have r0:cE (c 0) (aY x y)=0:=r0
   rw[if_pos r0,List.length_cons]at hb
   show(l++bC n c d x (aY x y)).length+1+(bC n c d (aY x y) y).length<2^30
   rw[List.length_append];omega
  ·have r0:cE (c 0) (aY x y)=0:=r0
   rw[if_pos r0]
   have e:=Jx (l:=l++bC n c d x (aY x y)) (p:=(aY x y,aY x y)) (z:=.agg [.rat 0 1,.rat 0 1])
   dsimp only at e hv
   rw[e]at hv
   rw[show l++(bC n c d x (aY x y)++(aY x y,aY x y)::bC n c d (aY x y) y)=l++bC n c d x (aY x y)++[(aY x y,aY x y)]++bC n c d (aY x y) y by simp[List.append_assoc]]
   exact⟨.inl trivial,(Bh rfl h1 g1 g2 hv aa rfl rfl rfl rfl fun i _=>rfl).2⟩
  ·show(l++bC n c d x (aY x y)).length+(bC n c d (aY x y) y).length<2^30
   rw[List.length_append];omega
  ·have r0:¬cE (c 0) (aY x y)=0:=r0
   rw[if_neg r0,<-List.append_assoc]
   exact⟨.inl trivial,(Bh rfl h1 g1 g2 hv aa rfl rfl rfl rfl fun i _=>rfl).2⟩
theorem Lm {d:Nat} (ih:∀e,d=e+1->∀K args pre r,qA e K args pre=some r->aS P mU K args pre r):bf P (qA d) mU:=by
 intro K args pre r h
 unfold qA at h
 split at h
 ·rename_i x' y' ch kf kl is
  split at h
  ·rename_i x q1 y q2 n c q3 ch1 hx hy hc hi
   split at h
   ·rename_i k0 m f len ch2 is2 hl hcl
    split at h
    ·rename_i ch3 hi3
     split at h
     ·rename_i hk
      simp only[ay]at h
      subst h
      simp only[Bool.and_eq_true,bne_iff_ne,ne_eq,Nat.blt_eq]at hk
      obtain⟨⟨⟨k1,k2⟩,k3⟩,k4⟩:=hk
      obtain⟨e1,l1,l2,l3,l4⟩:=Qt hl
      obtain⟨e2,c1,c2,c3⟩:=Ss hcl
      obtain rfl:=MH hi
      obtain rfl:=MH hi3
      intro need
      obtain⟨n1,n2,n3,n4,n5,n6,n7,n8,n9,n10,n11,n12⟩:=need
      have hch:=mW.ok hc n3
      have r0:aX [(0,kf),(1,kl),(2,k0)] 0=some kf:=rfl
      have r1:aX [(0,kf),(1,kl),(2,k0)] 1=some kl:=rfl
      have r2:aX [(0,kf),(1,kl),(2,k0)] 2=some k0:=rfl
      have hcr:∀{ρ:Nat->Option Nat} {u v:AV},bg u v->gX ρ (.b9 u) (.b9 v):=fun h=>iS rfl (DS h)
      have hcl:∀{ρ:Nat->Option Nat} {u v:AV},bg u v->gX ρ (.b9 (.func s6 [.b9 u])) (.b9 (.func s6 [.b9 v])):=fun h=>hcr (aaS ⟨DS h,trivial⟩ rfl)
      refine aS.frame (pre:=[(kf,⟨false,true,1,1,e1⟩),(kl,⟨false,true,1,1,e2⟩),(k0,⟨true,true,6,len,f⟩)]) (abU hT LQ (args0:=GW n c x y) (oa0:=wj 2 (jv f m).length) (ob0:=sI n c 0 1) (oc0:=mZ (jv f m)) ah rfl c3 l4 k1 k2 k3 k4 (fun _=>?_) aZ (fun _=>⟨?_,?_,?_⟩) (fun _ cx _=>?_)) (fun k o hk=>?_) ⟨n1,n2,n3,n4,n5,n6,n7,n8,n9,n10,n11,n12⟩
      ·exact⟨⟨Nf hx,iS (Io hx) ((eZ ag).ok hx n1)⟩,⟨Nf hy,iS (Io hy) ((eZ ag).ok hy n2)⟩,⟨rfl,hcr hch⟩,⟨rfl,iw r0⟩,⟨rfl,iw r1⟩,⟨rfl,hcl n4⟩,trivial⟩
      ·rw[wZ]
       exact ia rfl fun i hi=>by obtain rfl:i=0:=aa;rw[l2];exact ec r2 rfl rfl
      ·exact ia rfl fun i hi=>by
        obtain rfl:i=0:=aa
        rw[c2]
        exact G0 ⟨⟨rfl,hcr n5⟩,⟨rfl,iw r0⟩,⟨rfl,iw r1⟩,⟨rfl,hcl n6⟩,trivial⟩ rfl
      ·refine ia (by rw[wZ];exact n7) fun i hi=>?_
       obtain⟨p1,p2⟩:=n8 i aa
       unfold cu
       rw[Yt (show i<m by omega)]
       exact iS p1 p2
      ·cases d with
       |zero=>exact absurd n11 id
       |succ d=>exact af0 (ih d rfl) c3 k2 k3 n9 n10 n11 (by rw[wZ];exact n12) cx
      ·rcases tA hk with⟨e1,e2⟩|⟨e1,_,e2⟩|⟨e1,_,_,e2⟩<;>subst e1<;>subst e2
       ·exact l1
       ·exact c1
       ·exact l3
     ·simp at h
    ·simp at h
   ·simp at h
  ·simp at h
 ·simp at h
theorem Nl:∀d K args pre r,qA d K args pre=some r->aS P mU K args pre r
 |0=>Lm fun e h=>absurd h aa
 |d+1=>Lm fun e h=>by obtain rfl:d=e:=aa;exact Nl d
end Go.Am.B
namespace Go.Am
def sg (f:Nat->Rat):Nat->Rat
 |0=>0
 |n+1=>sg f n+f n
theorem gZ {f g:Nat->Rat}:∀{n:Nat},(∀i,i<n->f i=g i)->sg f n=sg g n
 |0,_=>rfl
 |n+1,h=>by rw[sg,sg,gZ fun i hi=>h i (by omega),h n (by omega)]
theorem oe {f:Nat->Rat}:∀{n:Nat},(∀i,i<n->f i=0)->sg f n=0
 |0,_=>rfl
 |n+1,h=>by rw[sg,oe fun i hi=>h i (by omega),h n (by omega),Rat.add_zero]
theorem tM {f g:Nat->Rat}:∀{n:Nat},sg (fun i=>f i+g i) n=sg f n+sg g n
 |0=>by simp only[sg];grind
 |n+1=>by rw[sg,sg,sg,tM];grind
theorem mo {f:Nat->Rat} {c:Rat}:∀{n:Nat},sg (fun i=>c*f i) n=c*sg f n
 |0=>by simp only[sg];grind
 |n+1=>by rw[sg,sg,mo];grind
theorem ye {f:Nat->Rat}:∀{n:Nat},sg f (n+1)=f 0+sg (fun i=>f (i+1)) n
 |0=>by simp only[sg];grind
 |n+1=>by rw[sg,ye,sg];grind
theorem Co {f:Nat->Rat} {n:Nat}:∀{m:Nat},sg f (n+m)=sg f n+sg (fun i=>f (n+i)) m
 |0=>by simp only[sg];show sg f n=_;grind
 |m+1=>by
  show sg f (n+m)+f (n+m)=sg f n+(sg (fun i=>f (n+i)) m+f (n+m))
  rw[Co];grind
theorem A9 {f:Nat->Rat} {n m:Nat} (h:∀i,n<=i->i<m->f i=0) (hm:n<=m):sg f m=sg f n:=by
 obtain⟨l,rfl⟩:∃l,m=n+l:=⟨m-n,by omega⟩
 rw[Co,oe (f:=fun i=>f (n+i)) fun i hi=>h _ (by omega) (by omega),Rat.add_zero]
theorem CJ {f:Nat->Nat->Rat} {n:Nat}:∀{m:Nat},sg (fun i=>sg (fun j=>f i j) n) m=sg (fun j=>sg (fun i=>f i j) m) n
 |0=>(oe fun _ _=>rfl).symm
 |m+1=>by
  rw[sg,CJ,<-tM];rfl
theorem pow_add' (t:Rat) (m:Nat):∀n:Nat,t^(m+n)=t^m*t^n
 |0=>by rw[Nat.add_zero,Rat.pow_zero,Rat.mul_one]
 |n+1=>by rw[<-Nat.add_assoc,Rat.pow_succ,pow_add' t m n,Rat.pow_succ,Rat.mul_assoc]
def ev (n:Nat) (k:Nat->Rat) (t:Rat):Rat:=sg (fun i=>k i*t^i) n
theorem rE {n:Nat} {k l:Nat->Rat} {t:Rat} (h:∀i,i<n->k i=l i):ev n k t=ev n l t:=gZ fun i hi=>by rw[h i hi]
theorem O6 {n:Nat} {k:Nat->Rat} {t:Rat}:ev (n+1) k t=ev n k t+k n*t^n:=rfl
theorem wh {n:Nat} {k:Nat->Rat} {t:Rat}:ev (n+1) k t=k 0+t*ev n (fun i=>k (i+1)) t:=by
 unfold ev
 rw[ye,<-mo,Rat.pow_zero,Rat.mul_one]
 congr 1
 exact gZ fun i _=>by rw[Rat.pow_succ];grind
theorem KX {n m:Nat} {k:Nat->Rat} {t:Rat} (h:∀i,n<=i->i<m->k i=0) (hm:n<=m):ev m k t=ev n k t:=A9 (fun i h1 h2=>by rw[h i h1 h2,Rat.zero_mul]) hm
theorem uy {n:Nat} {k l:Nat->Rat} {t:Rat}:ev n (fun i=>k i+l i) t=ev n k t+ev n l t:=by
 unfold ev;rw[<-tM];exact gZ fun i _=>by grind
theorem ux {n:Nat} {k:Nat->Rat} {c t:Rat}:ev n (fun i=>c*k i) t=c*ev n k t:=by
 unfold ev;rw[<-mo];exact gZ fun i _=>by grind
theorem acm {n m:Nat} {k:Nat->Rat} {t:Rat}:ev (m+n) (fun i=>if m<=i then k (i-m)else 0) t=t^m*ev n k t:=by
 unfold ev
 rw[Co,oe fun i hi=>by dsimp only;rw[if_neg (by omega),Rat.zero_mul],Rat.zero_add,<-mo]
 exact gZ fun i _=>by dsimp only;rw[if_pos (by omega),pow_add',show m+i-m=i by omega];grind
theorem GP {n:Nat} {k:Nat->Rat} {t:Rat}:∀m,m<=n->fH n k t m=ev m (fun i=>k (n-m+i)) t
 |0,_=>rfl
 |m+1,h=>by
  rw[fH,GP m (by omega),wh]
  rw[show n-(m+1)+0=n-1-m by omega,rE (l:=fun i=>k (n-(m+1)+(i+1))) fun i _=>by rw[show n-m+i=n-(m+1)+(i+1) by omega]]
  grind
theorem pD {a:PP} {t:Rat}:cE a t=ev a.1 a.2 t:=by
 unfold cE
 rw[GP _ (Nat.le_refl _)]
 exact rE fun i _=>by rw[Nat.sub_self,Nat.zero_add]
def jI (n:Nat) (k:Nat->Rat) (c:Rat) (i:Nat):Rat:=fH n k c (n-1-i)
theorem u6 {k:Nat->Rat} {c t:Rat}:∀n,ev (n+1) k t=(t-c)*ev n (jI (n+1) k c) t+ev (n+1) k c
 |0=>by simp only[ev,sg];grind
 |n+1=>by
  -- by the lowest coefficient
  have ih:=u6 (k:=fun i=>k (i+1)) (c:=c) (t:=t) n
  have e1:∀m,m<=n+1->fH (n+1+1) k c m=fH (n+1) (fun i=>k (i+1)) c m:=fun m=>by
   induction m with
   |zero=>exact fun _=>rfl
   |succ m ihm=>
    intro hm
    rw[fH,fH,ihm (by omega),show n+1+1-1-m=n+1-1-m+1 by omega]
  have e2:ev (n+1) (jI (n+1+1) k c) t=ev (n+1) (fun i=>k (i+1)) c+t*ev n (jI (n+1) (fun i=>k (i+1)) c) t:=by
   rw[wh]
   congr 1
   ·unfold jI
    rw[show n+1+1-1-0=n+1 by omega,e1 (n+1) (Nat.le_refl _)]
    have:=pD (a:=(n+1,fun i=>k (i+1))) (t:=c)
    exact this
   ·congr 1
    refine rE fun i hi=>?_
    unfold jI
    rw[show n+1+1-1-(i+1)=n+1-1-i by omega,e1 _ (by omega)]
  rw[wh (n:=n+1) (t:=t),wh (n:=n+1) (t:=c),ih,e2]
  grind
theorem Ml {a b:Nat} (h:((a:Int):Rat)=((b:Int):Rat)):a=b:=by
 have:(a:Int)=(b:Int):=by exact_mod_cast h
 omega
theorem KZ:∀(n:Nat) (k:Nat->Rat) (s:Nat),(∀j,s<=j->j<s+n->ev n k ((j:Int):Rat)=0)->∀i,i<n->k i=0
 |0,_,_,_=>fun i hi=>absurd hi (Nat.not_lt_zero i)
 |n+1,k,s,h=>by
  have h0:=h s (Nat.le_refl _) (by omega)
  have hq:∀i,i<n->jI (n+1) k ((s:Int):Rat) i=0:=KZ n _ (s+1) fun j h1 h2=>by
   have:=h j (by omega) (by omega)
   rw[u6 (c:=((s:Int):Rat)),h0,Rat.add_zero]at this
   rcases Rat.mul_eq_zero.1 this with h3|h3
   ·have:((j:Int):Rat)=((s:Int):Rat):=by grind
    have:=Ml this
    omega
   ·exact h3
  have hh:∀m,m<=n->fH (n+1) k ((s:Int):Rat) m=0:=fun m hm=>by
   cases m with
   |zero=>rfl
   |succ m=>
    have:=hq (n-(m+1)) (by omega)
    unfold jI at this
    rwa [show n+1-1-(n-(m+1))=m+1 by omega]at this
  have hl:fH (n+1) k ((s:Int):Rat) (n+1)=0:=by
   have:=pD (a:=(n+1,k)) (t:=((s:Int):Rat))
   exact this.trans h0
  intro i hi
  have e:fH (n+1) k ((s:Int):Rat) (n-i+1)=fH (n+1) k ((s:Int):Rat) (n-i)*((s:Int):Rat)+k (n+1-1-(n-i)):=rfl
  rw[hh (n-i) (by omega),Rat.zero_mul,Rat.zero_add,show n+1-1-(n-i)=i by omega]at e
  rw[<-e]
  rcases Nat.eq_zero_or_pos i with h1|h1
  ·subst h1;exact hl
  ·exact hh _ (by omega)
theorem TZ {n:Nat} {k l:Nat->Rat} (h:∀t,ev n k t=ev n l t):∀i,i<n->k i=l i:=fun i hi=>by
 have:=KZ n (fun i=>k i+-1*l i) 0 (fun j _ _=>by
  rw[uy,ux (k:=l),h];grind) i hi
 grind
def ep (a:PP) (i:Nat):Rat:=if i<a.1 then a.2 i else 0
def aC (a:PP) (t:Rat):Rat:=ev a.1 a.2 t
theorem qX {a:PP} {t:Rat} {m:Nat} (h:a.1<=m):ev m (ep a) t=aC a t:=by
 rw[KX (n:=a.1) (fun i h1 h2=>by unfold ep;rw[if_neg (by omega)]) h]
 exact rE fun i hi=>by unfold ep;rw[if_pos hi]
theorem tD {a b:PP} (h:∀t,aC a t=aC b t):∀i,ep a i=ep b i:=fun i=>by
 by_cases hi:i<max a.1 b.1
 ·exact TZ (n:=max a.1 b.1) (fun t=>by rw[qX (Nat.le_max_left _ _),qX (Nat.le_max_right _ _),h]) i hi
 ·unfold ep
  rw[if_neg (by omega),if_neg (by omega)]
theorem zJ {a b:PP} (ha:Trim a) (h:∀i,ep a i=ep b i):a.1<=b.1:=by
 rcases ha with ha|ha
 ·omega
 ·rcases Nat.lt_or_ge b.1 a.1 with h1|h1
  ·have:=h (a.1-1)
   unfold ep at this
   rw[if_pos (by omega),if_neg (by omega)]at this
   exact absurd this ha
  ·exact h1
theorem B2 {a b:PP} (ha:Trim a) (hb:Trim b) (h:∀t,aC a t=aC b t):gj a b:=by
 have hc:=tD h
 have h1:=zJ ha hc
 have h2:=zJ hb fun i=>(hc i).symm
 refine⟨by omega,fun i hi=>?_⟩
 have:=hc i
 unfold ep at this
 rwa [if_pos hi,if_pos (by omega)]at this
theorem gj.ev {a b:PP} (h:gj a b) (t:Rat):aC a t=aC b t:=by
 unfold aC
 rw[<-h.1]
 exact rE h.2
theorem vI {n:Nat} {k:Nat->Rat} {t:Rat}:ev (bH k n) k t=ev n k t:=(KX (fun i h1 h2=>Fs h1 h2) fE).symm
theorem TS {n e k:Nat} {d r:Nat->Rat} {t:Rat} (h:k+e<n):ev n (gz e d k r) t=ev n r t-r (k+e)/d e*(t^k*ev (e+1) d t):=by
 obtain⟨l,rfl⟩:∃l,n=k+(e+1)+l:=⟨n-(k+(e+1)),by omega⟩
 have h1:ev (k+(e+1)) (gz e d k r) t=ev (k+(e+1)) r t-r (k+e)/d e*(t^k*ev (e+1) d t):=by
  rw[<-acm (k:=d),Rat.sub_eq_add_neg,<-Rat.neg_mul,<-ux,<-uy]
  refine rE fun i hi=>?_
  unfold gz
  by_cases h2:k<=i
  ·rw[if_pos ⟨h2,by omega⟩,if_pos h2];grind
  ·rw[if_neg (by omega),if_neg h2,Rat.mul_zero,Rat.add_zero]
 have h2:∀(f:Nat->Rat),ev (k+(e+1)+l) f t=ev (k+(e+1)) f t+sg (fun i=>f (k+(e+1)+i)*t^(k+(e+1)+i)) l:=fun f=>Co
 rw[h2,h2 r,h1,gZ (f:=fun i=>gz e d k r (k+(e+1)+i)*t^(k+(e+1)+i)) (g:=fun i=>r (k+(e+1)+i)*t^(k+(e+1)+i)) fun i _=>by unfold gz;rw[if_neg (by omega)]]
 grind
theorem PY {n e R:Nat} {d a:Nat->Rat} {t:Rat} (hR:R=n-e):∀j,j<=R->ev n a t=ev n (ck e d a R j) t+ev R (fun k=>if k+j<R then 0 else dG e d a R k) t*ev (e+1) d t
 |0,_=>by
  rw[show ev R (fun k=>if k+0<R then 0 else dG e d a R k) t=0 from oe fun i hi=>by dsimp only;rw[if_pos (by omega),Rat.zero_mul],Rat.zero_mul,Rat.add_zero];rfl
 |j+1,hj=>by
  have ih:=PY (t:=t) hR j (by omega) (d:=d) (a:=a)
  have e1:ev n (ck e d a R (j+1)) t=_:=TS (k:=R-1-j) (r:=ck e d a R j) (by omega)
  have e2:ck e d a R j (R-1-j+e)/d e=dG e d a R (R-1-j):=by unfold dG;rw[show R-1-(R-1-j)=j by omega]
  rw[e2]at e1
  have e3:ev R (fun k=>if k+(j+1)<R then 0 else dG e d a R k) t=ev R (fun k=>if k+j<R then 0 else dG e d a R k) t+dG e d a R (R-1-j)*t^(R-1-j):=by
   have:∀i,(if i+(j+1)<R then 0 else dG e d a R i)=(if i+j<R then 0 else dG e d a R i)+(if i=R-1-j then dG e d a R (R-1-j)else 0):=fun i=>by
    by_cases h1:i+(j+1)<R
    ·rw[if_pos h1,if_pos (by omega),if_neg (by omega),Rat.add_zero]
    ·rw[if_neg h1]
     by_cases h2:i=R-1-j
     ·rw[if_pos (by omega),if_pos h2,Rat.zero_add,h2]
     ·rw[if_neg (by omega),if_neg h2,Rat.add_zero]
   rw[show(fun k=>if k+(j+1)<R then 0 else dG e d a R k)=fun i=>(if i+j<R then 0 else dG e d a R i)+(if i=R-1-j then dG e d a R (R-1-j)else 0)from funext this,uy]
   congr 1
   -- a single power
   unfold ev
   rw[A9 (n:=R-1-j+1) (fun i h1 h2=>by dsimp only;rw[if_neg (by omega),Rat.zero_mul]) (by omega),sg,oe fun i hi=>by dsimp only;rw[if_neg (by omega),Rat.zero_mul],Rat.zero_add]
   dsimp only
   rw[if_pos rfl]
  rw[e1,e3,ih]
  grind
theorem v9 {a d:PP} (hd:0<d.1) (t:Rat):aC a t=aC (fA a d) t*aC d t+aC (dj a d) t:=by
 have:=PY (n:=a.1) (e:=d.1-1) (d:=d.2) (a:=a.2) (t:=t) rfl _ (Nat.le_refl _)
 rw[show d.1-1+1=d.1 by omega]at this
 have e1:aC (fA a d) t=ev _ _ t:=vI
 have e2:aC (dj a d) t=ev _ _ t:=vI
 show ev a.1 a.2 t=aC (fA a d) t*ev d.1 d.2 t+aC (dj a d) t
 rw[e1,e2,this]
 rw[rE (k:=fun k=>if k+(a.1-(d.1-1))<a.1-(d.1-1)then 0 else dG (d.1-1) d.2 a.2 (a.1-(d.1-1)) k) (l:=dG (d.1-1) d.2 a.2 (a.1-(d.1-1))) fun i hi=>if_neg (by omega)]
 grind
def cs:Nat->(Nat->Rat)->Rat->Rat
 |0,p,_=>p 0
 |m+1,p,t=>(1-t)*cs m p t+t*cs m (fun i=>p (i+1)) t
abbrev bq (n k:Nat):Rat:=((bn n k:Int):Rat)
theorem Jl (n k:Nat):bq (n+1) (k+1)=bq n k+bq n (k+1):=by
 show((bn (n+1) (k+1):Int):Rat)=_
 rw[oS,Int.natCast_add,Rat.intCast_add]
theorem uJ (n:Nat):bq n 0=1:=by show((bn n 0:Int):Rat)=1;rw[rF];rfl
theorem Ga {n k:Nat} (h:n<k):bq n k=0:=by show((bn n k:Int):Rat)=0;rw[nS h];rfl
theorem NR {n k:Nat} (h:k<=n):bq n k≠0:=by
 intro h0
 have h1:((bn n k:Int):Rat).num=(0:Rat).num:=congrArg Rat.num h0
 rw[Rat.num_intCast,show(0:Rat).num=0 from rfl]at h1
 have:=AX h
 omega
theorem DN {p:Nat->Rat}:∀k i,fU p k (i+1)=fU (fun i=>p (i+1)) k i
 |0,_=>rfl
 |k+1,i=>by rw[fU,fU,DN (p:=p) k (i+1),DN (p:=p) k i]
theorem FL:∀(m:Nat) (p:Nat->Rat) (t:Rat),ev (m+1) (fun k=>bq m k*fU p k 0) t=cs m p t
 |0,p,t=>by
  show 0+bq 0 0*p 0*t^0=p 0
  rw[uJ,Rat.pow_zero];grind
 |m+1,p,t=>by
  have h1:=FL m p t
  have h2:=FL m (fun i=>p (i+1)) t
  rw[cs,<-h1,<-h2,wh (n:=m+1)]
  have e1:∀k,bq (m+1) (k+1)*fU p (k+1) 0=bq m (k+1)*fU p (k+1) 0+(bq m k*fU (fun i=>p (i+1)) k 0+-1*(bq m k*fU p k 0)):=fun k=>by
   rw[Jl,<-DN]
   have:fU p (k+1) 0=fU p k 1-fU p k 0:=rfl
   rw[this];grind
  rw[show(fun i=>bq (m+1) (i+1)*fU p (i+1) 0)=fun k=>bq m (k+1)*fU p (k+1) 0+(bq m k*fU (fun i=>p (i+1)) k 0+-1*(bq m k*fU p k 0))from funext e1,uy,uy,ux]
  rw[O6 (k:=fun k=>bq m (k+1)*fU p (k+1) 0),Ga (Nat.lt_succ_self m),Rat.zero_mul,Rat.zero_mul,Rat.add_zero]
  rw[wh (k:=fun k=>bq m k*fU p k 0),uJ,uJ]
  have:fU p 0 0=p 0:=rfl
  rw[this]
  generalize ev m (fun i=>bq m (i+1)*fU p (i+1) 0) t=A
  generalize ev (m+1) (fun k=>bq m k*fU (fun i=>p (i+1)) k 0) t=B
  grind
theorem ahG {m:Nat} {p:Nat->Rat} {t:Rat}:ev (m+1) (gk (m+1) p) t=cs m p t:=FL m p t
def hv (m:Nat) (u:Nat->Rat) (x y:Rat):Rat:=sg (fun i=>u i*(x^i*y^(m-i))) (m+1)
theorem xG:∀(m:Nat) (p:Nat->Rat) (t:Rat),hv m (fun i=>bq m i*p i) t (1-t)=cs m p t
 |0,p,t=>by
  show 0+bq 0 0*p 0*(t^0*(1-t)^0)=p 0
  rw[uJ,Rat.pow_zero,Rat.pow_zero];grind
 |m+1,p,t=>by
  have h1:=xG m p t
  have h2:=xG m (fun i=>p (i+1)) t
  rw[cs,<-h1,<-h2]
  unfold hv
  rw[ye (n:=m+1)]
  dsimp only
  rw[uJ]
  have e1:∀i,i<m+1->bq (m+1) (i+1)*p (i+1)*(t^(i+1)*(1-t)^(m+1-(i+1)))=t*(bq m i*p (i+1)*(t^i*(1-t)^(m-i)))+bq m (i+1)*p (i+1)*(t^(i+1)*(1-t)^(m-i)):=fun i hi=>by
   rw[Jl,show m+1-(i+1)=m-i by omega,Rat.pow_succ];grind
  rw[gZ e1,tM,mo]
  have e2:sg (fun i=>bq m (i+1)*p (i+1)*(t^(i+1)*(1-t)^(m-i))) (m+1)=sg (fun i=>(1-t)*(bq m (i+1)*p (i+1)*(t^(i+1)*(1-t)^(m-(i+1))))) m:=by
   rw[sg,Ga (Nat.lt_succ_self m),Rat.zero_mul,Rat.zero_mul,Rat.add_zero]
   exact gZ fun i hi=>by rw[show m-i=m-(i+1)+1 by omega,Rat.pow_succ (1-t)];grind
  rw[e2,mo,ye (f:=fun i=>bq m i*p i*(t^i*(1-t)^(m-i))),uJ,Rat.pow_zero,Nat.sub_zero,Nat.sub_zero,Rat.pow_succ]
  generalize sg (fun i=>bq m (i+1)*p (i+1)*(t^(i+1)*(1-t)^(m-(i+1)))) m=A
  generalize sg (fun i=>bq m i*p (i+1)*(t^i*(1-t)^(m-i))) (m+1)=B
  grind
def jZ (m n:Nat) (u v:Nat->Rat) (k:Nat):Rat:=sg (fun i=>sg (fun j=>if i+j=k then u i*v j else 0) (n+1)) (m+1)
theorem Dh {f:Nat->Rat} {i n:Nat} (hi:i<n) (h:∀j,j<n->j≠i->f j=0):sg f n=f i:=by
 rw[A9 (n:=i+1) (fun j h1 h2=>h j h2 (by omega)) (by omega),sg,oe fun j hj=>h j (by omega) (by omega),Rat.zero_add]
theorem EZ {m n:Nat} {u v X:Nat->Rat}:sg (fun k=>jZ m n u v k*X k) (m+n+1)=sg (fun i=>sg (fun j=>u i*v j*X (i+j)) (n+1)) (m+1):=by
 unfold jZ
 have e1:∀k,sg (fun i=>sg (fun j=>if i+j=k then u i*v j else 0) (n+1)) (m+1)*X k=sg (fun i=>sg (fun j=>if i+j=k then u i*v j*X k else 0) (n+1)) (m+1):=fun k=>by
  rw[Rat.mul_comm,<-mo]
  refine gZ fun i _=>?_
  rw[<-mo]
  refine gZ fun j _=>?_
  by_cases h:i+j=k
  ·rw[if_pos h,if_pos h];grind
  ·rw[if_neg h,if_neg h,Rat.mul_zero]
 rw[gZ fun k _=>e1 k,CJ]
 refine gZ fun i hi=>?_
 rw[CJ]
 refine gZ fun j hj=>?_
 rw[Dh (i:=i+j) (by omega) fun k _ h=>if_neg fun h'=>h h'.symm,if_pos rfl]
theorem aae {m n:Nat} {u v:Nat->Rat} {x y:Rat}:hv (m+n) (jZ m n u v) x y=hv m u x y*hv n v x y:=by
 unfold hv
 rw[EZ (X:=fun k=>x^k*y^(m+n-k)),<-mo (f:=fun i=>v i*(x^i*y^(n-i)))]
 rw[show(fun i=>sg (fun i=>u i*(x^i*y^(m-i))) (m+1)*(v i*(x^i*y^(n-i))))=fun j=>sg (fun i=>v j*(x^j*y^(n-j))*(u i*(x^i*y^(m-i)))) (m+1)from funext fun j=>by rw[mo];grind]
 rw[<-CJ]
 refine gZ fun i hi=>gZ fun j hj=>?_
 rw[show m+n-(j+i)=(m-j)+(n-i) by omega,pow_add',pow_add'];grind
def j7 (m n:Nat) (p q:Nat->Rat) (k:Nat):Rat:=jZ m n (fun i=>bq m i*p i) (fun j=>bq n j*q j) k/bq (m+n) k
theorem aeC {m n:Nat} {p q:Nat->Rat} {t:Rat}:cs (m+n) (j7 m n p q) t=cs m p t*cs n q t:=by
 rw[<-xG,<-xG,<-xG,<-aae]
 unfold hv
 refine gZ fun i hi=>?_
 show bq (m+n) i*j7 m n p q i*_=jZ _ _ _ _ i*_
 rw[show bq (m+n) i*j7 m n p q i=jZ m n (fun i=>bq m i*p i) (fun j=>bq n j*q j) i from by unfold j7;rw[Rat.mul_comm,Rat.div_mul_cancel (NR (by omega))]]
def g8 (a b:PP):PP:=(max a.1 b.1,fun i=>ep a i+ep b i)
def gi (r:Rat) (a:PP):PP:=(a.1,fun i=>r*a.2 i)
def bZ (a b:PP):PP:=(a.1+b.1+1,jZ a.1 b.1 (ep a) (ep b))
theorem ja {a b:PP} {t:Rat}:aC (g8 a b) t=aC a t+aC b t:=by
 show ev (max a.1 b.1) (fun i=>ep a i+ep b i) t=_
 rw[uy,qX (Nat.le_max_left _ _),qX (Nat.le_max_right _ _)]
theorem fV {r:Rat} {a:PP} {t:Rat}:aC (gi r a) t=r*aC a t:=ux
theorem E0 {m n:Nat} {f g:Nat->Rat}:sg (fun i=>sg (fun j=>f i*g j) n) m=sg f m*sg g n:=by
 rw[Rat.mul_comm,<-mo]
 exact gZ fun i _=>by rw[mo,Rat.mul_comm]
theorem cr {a b:PP} {t:Rat}:aC (bZ a b) t=aC a t*aC b t:=by
 rw[<-qX (a:=a) (Nat.le_succ a.1),<-qX (a:=b) (Nat.le_succ b.1)]
 show sg (fun k=>jZ a.1 b.1 (ep a) (ep b) k*t^k) (a.1+b.1+1)=_
 rw[EZ (X:=fun k=>t^k)]
 unfold ev
 rw[<-E0]
 exact gZ fun i _=>gZ fun j _=>by rw[pow_add'];grind
def dX (t:Rat) (i:Nat):Rat:=((i:Int):Rat)*t^(i-1)
theorem abY {t:Rat} {i j:Nat}:dX t (i+j)=dX t i*t^j+t^i*dX t j:=by
 unfold dX
 cases i with
 |zero=>
  rw[Nat.zero_add,Rat.pow_zero,show((0:Nat):Int)=0 from rfl,show((0:Int):Rat)=0 from rfl];grind
 |succ i=>
  cases j with
  |zero=>rw[Nat.add_zero,Rat.pow_zero,show((0:Nat):Int)=0 from rfl,show((0:Int):Rat)=0 from rfl];grind
  |succ j=>
   rw[show i+1+(j+1)-1=i+(j+1) by omega,show i+1-1=i by omega,show j+1-1=j by omega,show((i+1+(j+1):Nat):Int)=((i+1:Nat):Int)+((j+1:Nat):Int) by omega,Rat.intCast_add,pow_add',Rat.pow_succ,Rat.pow_succ];grind
def dz (a:PP) (t:Rat):Rat:=sg (fun i=>a.2 i*dX t i) a.1
theorem vm {a:PP} {t:Rat} {m:Nat} (h:a.1<=m):sg (fun i=>ep a i*dX t i) m=dz a t:=by
 rw[A9 (n:=a.1) (fun i h1 h2=>by unfold ep;rw[if_neg (by omega),Rat.zero_mul]) h]
 exact gZ fun i hi=>by unfold ep;rw[if_pos hi]
theorem gM {a:PP} {t:Rat}:aC (aW a) t=dz a t:=by
 have e1:aC (aW a) t=ev (a.1-1) (cO a.2) t:=vI
 rw[e1]
 unfold dz
 rcases Nat.eq_zero_or_pos a.1 with h|h
 ·rw[h];rfl
 ·obtain⟨n,hn⟩:∃n,a.1=n+1:=⟨a.1-1,by omega⟩
  rw[hn,ye,show n+1-1=n by omega]
  have:dX t 0=0:=by unfold dX;rw[show((0:Nat):Int)=0 from rfl,show((0:Int):Rat)=0 from rfl,Rat.zero_mul]
  rw[this,Rat.mul_zero,Rat.zero_add]
  refine gZ fun i _=>?_
  unfold cO dX
  rw[show i+1-1=i by omega];grind
theorem Ln {a b:PP} (h:∀t,aC a t=aC b t) (t:Rat):dz a t=dz b t:=by
 rw[<-vm (Nat.le_max_left a.1 b.1),<-vm (Nat.le_max_right a.1 b.1)]
 exact gZ fun i _=>by rw[tD h i]
theorem kM {a b c:PP} (h:∀t,aC c t=aC a t*aC b t) (t:Rat):dz c t=dz a t*aC b t+aC a t*dz b t:=by
 rw[Ln (b:=bZ a b) (fun t=>by rw[h,cr]) t]
 show sg (fun k=>jZ a.1 b.1 (ep a) (ep b) k*dX t k) (a.1+b.1+1)=_
 rw[EZ (X:=dX t),<-vm (a:=a) (Nat.le_succ a.1),<-vm (a:=b) (Nat.le_succ b.1),<-qX (a:=a) (Nat.le_succ a.1),<-qX (a:=b) (Nat.le_succ b.1)]
 unfold ev
 rw[<-E0,<-E0,<-tM]
 refine gZ fun i _=>?_
 rw[<-tM]
 exact gZ fun j _=>by rw[abY];grind
def Dv (h a:PP):Prop:=∃w:PP,∀t,aC a t=aC h t*aC w t
def gW:PP:=(1,fun _=>1)
theorem jm {t:Rat}:aC gW t=1:=by show 0+1*t^0=1;rw[Rat.pow_zero];grind
theorem Dv.refl (a:PP):Dv a a:=⟨gW,fun t=>by rw[jm,Rat.mul_one]⟩
theorem Dv.of_eq {h a b:PP} (hd:Dv h a) (e:∀t,aC a t=aC b t):Dv h b:=hd.imp fun w hw t=>by rw[<-e,hw]
theorem Dv.trans {a b c:PP} (h1:Dv a b) (h2:Dv b c):Dv a c:=by
 obtain⟨v,hv⟩:=h1
 obtain⟨w,hw⟩:=h2
 exact⟨bZ v w,fun t=>by rw[hw,hv,cr,Rat.mul_assoc]⟩
theorem Dv.comb {h a b c u v:PP} (ha:Dv h a) (hb:Dv h b) (e:∀t,aC c t=aC u t*aC a t+aC v t*aC b t):Dv h c:=by
 obtain⟨x,hx⟩:=ha
 obtain⟨y,hy⟩:=hb
 exact⟨g8 (bZ u x) (bZ v y),fun t=>by rw[e,hx,hy,ja,cr,cr];grind⟩
theorem Dv.sC {h a:PP} (ha:Dv h a) (r:Rat) {b:PP} (e:∀t,aC b t=r*aC a t):Dv h b:=by
 obtain⟨x,hx⟩:=ha
 exact⟨gi r x,fun t=>by rw[e,hx,fV];grind⟩
theorem Dv.rem {h a d:PP} (hd:0<d.1) (h1:Dv h a) (h2:Dv h d):Dv h (dj a d):=
 Dv.comb (u:=gW) (v:=gi (-1) (fA a d)) h1 h2 fun t=>by rw[v9 (a:=a) hd t,jm,fV];grind
theorem wU {a:PP} {t:Rat}:aC (dy a) t=(a.2 (a.1-1))⁻¹*aC a t:=by
 show ev a.1 (cM a.1 a.2) t=_
 rw[show aC a t=ev a.1 a.2 t from rfl,<-ux]
 exact rE fun i _=>by unfold cM;rw[Rat.div_def,Rat.mul_comm]
theorem Dr {a:PP} (ha:Trim a) {t:Rat}:aC a t=a.2 (a.1-1)*aC (dy a) t:=by
 rw[wU,<-Rat.mul_assoc]
 rcases ha with h|h
 ·have:aC a t=0:=by show ev a.1 a.2 t=0;rw[h];rfl
  rw[this,Rat.mul_zero]
 ·rw[Rat.mul_inv_cancel _ h,Rat.one_mul]
theorem Dv.cM {h a:PP} (h1:Dv h a):Dv h (dy a):=h1.sC _ fun _=>wU
theorem Dv.Ok {h a:PP} (ha:Trim a) (h1:Dv h (dy a)):Dv h a:=h1.sC _ fun _=>Dr ha
theorem IX {h:PP} {s:PP×PP} (h1:Dv h s.1) (h2:Dv h s.2):∀j,Dv h (bQ s j).1/\Dv h (bQ s j).2
 |0=>⟨h1,h2⟩
 |j+1=>by
  obtain⟨i1,i2⟩:=IX h1 h2 j
  show Dv h (fL _).1/\Dv h (fL _).2
  unfold fL
  by_cases h0:(bQ s j).2.1=0
  ·rw[if_pos h0];exact⟨i1,i2⟩
  ·rw[if_neg h0];exact⟨i2,(i1.rem (by omega) i2).cM⟩
theorem EN {h a b:PP} (h1:Dv h a) (h2:Dv h b):Dv h (bR a b):=(IX (s:=(a,b)) h1 h2 _).1.cM
theorem FY {h:PP} {s:PP×PP} (t1:Trim s.1) (t2:Trim s.2):∀j,Dv h (bQ s j).1->Dv h (bQ s j).2->Dv h s.1/\Dv h s.2
 |0,h1,h2=>⟨h1,h2⟩
 |j+1,h1,h2=>by
  have h1:Dv h (fL (bQ s j)).1:=h1
  have h2:Dv h (fL (bQ s j)).2:=h2
  unfold fL at h1 h2
  by_cases h0:(bQ s j).2.1=0
  ·rw[if_pos h0]at h1 h2;exact FY t1 t2 j h1 h2
  ·rw[if_neg h0]at h1 h2
   refine FY t1 t2 j (Dv.comb (u:=fA (bQ s j).1 (bQ s j).2) (v:=gW) h1 (h2.Ok rD) fun t=>?_) h1
   rw[jm,Rat.one_mul]
   exact v9 (a:=(bQ s j).1) (d:=(bQ s j).2) (by omega) t
theorem jx {a:PP} (h:a.1=0) (t:Rat):aC a t=0:=by show ev a.1 a.2 t=0;rw[h];rfl
theorem rR {a b:PP} (t1:Trim a) (t2:Trim b):Dv (bR a b) a/\Dv (bR a b) b:=by
 have h0:(bQ (a,b) b.1).2.1=0:=by have:=y9 (s:=(a,b)) t1 t2 b.1;dsimp only at this;omega
 have ht:=lW (s:=(a,b)) t1 t2 b.1
 refine FY (s:=(a,b)) t1 t2 b.1 (Dv.Ok ht.1 (Dv.refl _)) ⟨(0,fun _=>0),fun t=>?_⟩
 rw[jx h0,jx (a:=(0,fun _=>(0:Rat))) rfl,Rat.mul_zero]
theorem Gh {a:PP} (h:0<a.1) (ht:Trim a):ep a (a.1-1)≠0:=by
 unfold ep
 rw[if_pos (by omega)]
 rcases ht with h'|h'
 ·omega
 ·exact h'
theorem JY {a b:PP} (ha:0<a.1) (hb:0<b.1) (ta:Trim a) (tb:Trim b):ep (bZ a b) (a.1-1+(b.1-1))≠0:=by
 have e:ep (bZ a b) (a.1-1+(b.1-1))=jZ a.1 b.1 (ep a) (ep b) (a.1-1+(b.1-1)):=by
  show(if _<a.1+b.1+1 then _ else _)=_
  rw[if_pos (by omega)];rfl
 rw[e]
 unfold jZ
 have z:∀{c:PP} {i:Nat},c.1<=i->ep c i=0:=fun h=>by unfold ep;rw[if_neg (by omega)]
 rw[Dh (i:=a.1-1) (by omega) fun i hi hne=>oe fun j hj=>by
  by_cases h:i+j=a.1-1+(b.1-1)
  ·rw[if_pos h]
   by_cases h2:a.1<=i
   ·rw[z h2,Rat.zero_mul]
   ·rw[z (c:=b) (i:=j) (by omega),Rat.mul_zero]
  ·rw[if_neg h],Dh (i:=b.1-1) (by omega) fun j hj hne=>if_neg (by omega),if_pos rfl]
 exact fun h0=>(Rat.mul_eq_zero.1 h0).elim (Gh ha ta) (Gh hb tb)
def ct (a:PP):PP:=(bH a.2 a.1,a.2)
theorem eu {a:PP} (t:Rat):aC (ct a) t=aC a t:=vI
theorem fO {a:PP}:Trim (ct a):=mu
theorem qx {a b c:PP} (h:∀t,aC c t=aC a t*aC b t) (hc:0<c.1) (tc:Trim c) (ta:Trim a) (tb:Trim b):0<a.1/\0<b.1/\c.1=a.1-1+(b.1-1)+1:=by
 have h0:¬∀t,aC c t=aC (0,fun _=>0) t:=fun h1=>by
  have:=zJ tc fun i=>tD h1 i
  dsimp only at this;omega
 have ha:0<a.1:=by
  rcases Nat.eq_zero_or_pos a.1 with h1|h1
  ·exact absurd (fun t=>by rw[h,jx h1,jx (a:=(0,fun _=>(0:Rat))) rfl,Rat.zero_mul]) h0
  ·exact h1
 have hb:0<b.1:=by
  rcases Nat.eq_zero_or_pos b.1 with h1|h1
  ·exact absurd (fun t=>by rw[h,jx h1,jx (a:=(0,fun _=>(0:Rat))) rfl,Rat.mul_zero]) h0
  ·exact h1
 have hcf:∀i,ep c i=ep (bZ a b) i:=tD fun t=>by rw[h,cr]
 refine⟨ha,hb,?_⟩
 have h1:a.1-1+(b.1-1)<c.1:=by
  rcases Nat.lt_or_ge (a.1-1+(b.1-1)) c.1 with h2|h2
  ·exact h2
  ·exact absurd (by rw[<-hcf];unfold ep;rw[if_neg (by omega)]) (JY ha hb ta tb)
 have h2:¬a.1-1+(b.1-1)+1<c.1:=fun h3=>by
  have:=Gh hc tc
  rw[hcf]at this
  refine this ?_
  show(if _<a.1+b.1+1 then jZ a.1 b.1 (ep a) (ep b) (c.1-1)else 0)=0
  split
  ·unfold jZ
   refine oe fun i hi=>oe fun j hj=>?_
   have z:∀{c:PP} {i:Nat},c.1<=i->ep c i=0:=fun h=>by unfold ep;rw[if_neg (by omega)]
   by_cases h4:i+j=c.1-1
   ·rw[if_pos h4]
    by_cases h5:a.1<=i
    ·rw[z h5,Rat.zero_mul]
    ·rw[z (c:=b) (i:=j) (by omega),Rat.mul_zero]
   ·rw[if_neg h4]
  ·rfl
 omega
theorem Dv.len {h g:PP} (hd:Dv h g) (hg:0<g.1) (tg:Trim g) (th:Trim h):h.1<=g.1:=by
 obtain⟨w,hw⟩:=hd
 have:=qx (b:=ct w) (fun t=>by rw[hw,eu]) hg tg th fO
 omega
structure jC (c h f:PP):Prop where
 eq:∀t,aC c t=aC h t*aC f t
 dv:Dv h (aW c)
theorem jC.one:jC gW gW gW:=⟨fun t=>by rw[jm,Rat.mul_one],⟨aW gW,fun t=>by rw[jm,Rat.one_mul]⟩⟩
theorem jC.Dw {c h f q c':PP} (s:jC c h f) (e:∀t,aC c' t=aC c t*aC q t):jC c' h (bZ f q):=
 ⟨fun t=>by rw[e,s.eq,cr,Rat.mul_assoc],Dv.comb (u:=q) (v:=aW q) s.dv ⟨f,s.eq⟩ fun t=>by rw[gM,kM e,gM,gM];grind⟩
theorem jC.P9 {c h f q c':PP} (s:jC c h f) (e:∀t,aC c' t=aC c t*aC q t*aC q t):jC c' (bZ h q) (bZ f q):=by
 refine⟨fun t=>by rw[e,s.eq,cr,cr];grind,?_⟩
 obtain⟨w,hw⟩:=s.dv
 refine⟨g8 (bZ w q) (gi 2 (bZ f (aW q))),fun t=>?_⟩
 have e1:∀t,aC (bZ c q) t=aC c t*aC q t:=fun t=>cr
 have e2:∀t,aC c' t=aC (bZ c q) t*aC q t:=fun t=>by rw[e,e1]
 have hw':dz c t=aC h t*aC w t:=by rw[<-gM];exact hw t
 rw[gM,kM e2,kM e1,e1,hw',ja,fV,cr,cr,cr,gM,s.eq]
 grind
theorem W9 {c h f:PP} (s:jC c h f) (hc:0<c.1) (tc:Trim c):(bh c).1<=(ct f).1:=by
 obtain⟨h1,h2,h3⟩:=qx (a:=ct h) (b:=ct f) (fun t=>by rw[s.eq,eu,eu]) hc tc fO fO
 have hd:Dv h c:=⟨f,s.eq⟩
 have hg:Dv (ct h) (bR c (aW c)):=by
  have:=EN hd s.dv
  exact this.imp fun w hw t=>by rw[hw,eu]
 have hl:=hg.len (mM hc) (j8 tc dI) fO
 unfold bh
 rw[if_neg (by omega)]
 show bH _ _<=_
 refine Nat.le_trans fE ?_
 omega
end Go.Am
namespace Go.Am.B
open Go Go.Am.N AV af aq IntKind Proofs.Tryz
def nR (d:Nat):bz:=nG::(57,yP)::(59,FX)::(s6,DB)::(mU,qA d)::(70,EK)::(72,AG)::(73,qq)::(74,JC)::iC
abbrev EX:Code:=aI f18
abbrev xZ:Code:=part EX [1,1,1,1,1,1,1,1,1]
abbrev uF:Code:=part xZ [1,1,1,1,1]
abbrev wN:Code:=part uF [0,1,0,0]
abbrev zT:Code:=part wN [1,0,0]
abbrev De:List Nat:=[2,3,4,6,7,8,9,10]
abbrev Nd (a:PP):List AV:=[.nil,.int .i64 0,aG a,.ptr 0 0 1 0 [],.ptr 3 0 1 0 [],.ptr 1 0 1 0 [],.ptr 4 0 3 0 [],.ptr 5 0 3 0 []]
abbrev KD (n:Nat) (c:Nat->PP) (l:List (Rat×Rat)):aE:=[(0,wj 2 l.length),(1,sI n c 0 1),(2,mZ l),(3,⟨false,false,1,1,fun _=>BA n c⟩),(4,tR 0 ag),(5,tR 1 ag)]
abbrev zl:List Nat:=[4,11,50,51,52]
abbrev Il (l:List (Rat×Rat)) (g:Nat->Nat) (m:Nat):ax:=⟨true,true,7,m,fun j=>.agg [cu l j,.int .i64 (g j)]⟩
abbrev An (a:PP) (m i:Nat):List AV:=[aG a,.own 1 7 0 i,.own 0 6 0 m,.int .i64 m,.int .i64 i]
abbrev Cn (l:List (Rat×Rat)) (g:Nat->Nat) (i:Nat):aE:=[(0,mZ l),(1,Il l g i)]
abbrev tJ:List Nat:=[4,11]
abbrev Cc (a:PP) (m:Nat):List AV:=[aG a,.own 0 7 0 m]
abbrev sM (l:List (Rat×Rat)) (g:Nat->Nat) (m:Nat):aE:=[(0,Il l g m)]
abbrev zf:List Nat:=[4,11,14,75,76,77]
abbrev FN (a:PP) (n:Nat) (c:Nat->PP) (m i:Nat):List AV:=[aG a,.own 0 7 0 m,fK n c,.own 0 7 0 m,.int .i64 m,.int .i64 i]
abbrev vN (v w:AV):ax:=⟨false,true,1,1,fun j=>if(j==0)=true then v else w⟩
abbrev vM (v w:AV):ax:=⟨false,true,3,1,fun j=>if(j==0)=true then v else w⟩
def eH (a:PP):Nat->PP
 |0=>bR a (aW a)
 |j+1=>bR (eH a j) (aW (eH a j))
def kD (a:PP):Nat->Nat->Nat
 |0,j=>j
 |f+1,j=>if 1<(eH a j).1 then kD a f (j+1)else j
def kg (a:PP) (l:List (Rat×Rat)):Nat->Nat->Nat
 |0,_=>1
 |j+1,i=>if oJ (b7 (eH a j)) (bS (eH a j)) (bO l i).1 (bO l i).2=true then kg a l j i+1 else kg a l j i
def l5 (d n:Nat) (c:Nat->PP):List (Rat×Rat):=(if cE (c 0) 0=0 then [(0,0)]else [])++bC n c d 0 1++(if cE (c 0) 1=0 then [(1,1)]else [])
def fk (d:Nat) (p:PP):List (Rat×Rat):=if(aJ p).1=0 then []else l5 d (b7 (aJ p)) (bS (aJ p))
def kJ (d:Nat) (p:PP) (i:Nat):Nat:=kg (aJ p) (fk d p) (kD (aJ p) (aJ p).1 0) i
abbrev jj (l:List (Rat×Rat)) (g:Nat->Nat) (j:Nat):AV:=.agg [cu l j,.int .i64 (g j)]
abbrev HM (d:Nat) (p:PP):AV:=.tuple [.ak 7 (fk d p).length (jj (fk d p) (kJ d p)),.int .i64 (if(aJ p).1=0 then 3 else 0)]
def C7 (x:PP):Prop:=cN (x.1-1) (cO x.2)/\p7 (x,aW x)
def wA (d:Nat) (p:PP):Prop:=mJ p/\((aJ p).1≠0->pY (aJ p)/\b7 (aJ p)<2^40/\cL (b7 (aJ p)) (bS (aJ p)) 0/\cL (b7 (aJ p)) (bS (aJ p)) 1/\jO (b7 (aJ p)) (bS (aJ p)) d 0 1/\(fk d p).length<2^30/\C7 (aJ p)/\
 ∀j,1<(eH (aJ p) j).1->C7 (eH (aJ p) j)/\pY (eH (aJ p) j)/\b7 (eH (aJ p) j)<2^40/\∀i,i<(fk d p).length->cL (b7 (eH (aJ p) j)) (bS (eH (aJ p) j)) (bO (fk d p) i).1/\cL (b7 (eH (aJ p) j)) (bS (eH (aJ p) j)) (bO (fk d p) i).2)
theorem Mx:br 18 f18:=bu func18
theorem Zq {d:Nat} {p:PP}:aH T (nR d) [20] 60 De (before EX [1,1,1,1,1,1,1,1,1]) ⟨aU 0 [aG p],[],0⟩=
  some (aj [aR p,mJ p] (fork (((aJ p).1:Int)==0) (leaf ret ([.nil,.int .i64 3,aG (aJ p),.tuple [],.tuple [],.tuple [],.tuple [],.tuple []],[]))
   (aj [aR (aJ p),pY (aJ p),(0:Nat)<1] (aj [(0:Nat)<1] (aj [(0:Nat)<1] (aj [-2^63<=(0:Int),(0:Int)<2^63,-2^63<=(1:Int),(1:Int)<2^63,(0:Nat)<1,(0:Nat)<1]
    (leaf normal ([.nil,.int .i64 0,aG (aJ p),.ptr 49152 0 1 0 [],.ptr 57344 0 1 0 [],.ptr 65536 0 1 0 [],.ptr 86016 0 3 0 [],.ptr 90112 0 3 0 []],
     [(65536,vN (N4 (b7 (aJ p)) (bS (aJ p)) 49152 65536) .void),(49152,⟨false,true,1,1,fun _=>.nil⟩),(90112,vM (.rat ((1:Int):Rat) (max 1 (bX (Int.natAbs 1)))) (.rat 0 1)),(86016,vM (.rat ((0:Int):Rat) (max 1 (bX (Int.natAbs 0)))) (.rat 0 1)),(57344,⟨false,false,1,1,fun j=>if(j==0)=true then BA (b7 (aJ p)) (bS (aJ p))else .void⟩)])))))))):=ah
theorem Sk {d n:Nat} {c:Nat->PP} {a:PP} {l:List (Rat×Rat)}:aH T (nR d) [29,41] 60 zl (before xZ [1,1,1,1,0,1]) ⟨aB De (Nd a),KD n c l,6⟩=
  let c36:AV:=rat 0 1;let c35:Prop:=n<2^40;let c30:Prop:=0<n;let c29:Nat:=l.length;let c28:Nat:=2^47;let c27:Nat:=112+1;let c26:PP:=bV (aG (c 0));let c25:AV:=rat 1 ag;let c24:AV:=own 73734 7 0 0;let c23:Prop:=ag<=ag;let c22:Prop:=jO n (fun i=>bV (aG (c i))) d 0 1;let c21:Int:=(↑(120:Nat):Int);let c20:Prop:=(0:Int)<=0;let c17:List AV:=[int i64 0];let c16:Prop:=az [∀(i:Nat),i<n->bg (aG (c i)) (aG (bV (aG (c i))))];let c14:Prop:=1*6<=2^24;let c10:Int:=(2:Int)^47;let c8:List (Rat×Rat):=bC n (fun i=>bV (aG (c i))) d 0 1;let c6:AV:=ak 3 a.fst fun i=>rat (a.snd i) ag;let c5:Prop:=bg (fK n c) (fK n fun i=>bV (aG (c i)));let c3:Prop:=0<1;let c15:Nat:=c29+1;let c11:Rat:=cE c26 1;let c9:List Prop:=[c3,c3,c23,∀(i:Nat),i<n->bg (aG (c i)) (aG (bV (aG (c i)))),c30,cL n (fun i=>bV (aG (c i))) 1];let c7:AV:=agg [c36,c36];let c2:List (Rat×Rat):=jv (cu l) c29++c8;let c19:Nat:=c2.length;let c4:ax:=ax.mk true true 7 0 fun x=>agg (c7::c17);let c1:List (Rat×Rat):=jv (fun i=>if i<c29 then cu l i else nth [agg [rat 0 ag,rat 0 ag]] c7 (i-c29+0)) c15++c8;let c33:Int:=(↑c19:Int);let c18:Nat:=c1.length;let c13:Nat:=c19+1;let c34:Int:=(↑c13:Int);let c31:Int:=(↑c18:Int);let c12:Nat:=c18+1;let c32:Int:=(↑c12:Int);some (aj [c3,c3,c23,∀(i:Nat),i<n->bg (aG (c i)) (aG (bV (aG (c i)))),c30,cL n (fun i=>bV (aG (c i))) 0] (fork (decide (cE c26 0=0)) (aj [c3,c3,c23,c14,c15*c27*2<=c28,c3] (aj [c3,c3,c3,az [c23],az [c23],c16,c5,c5,c5,c15=c15,∀(i:Nat),i<c15->(if i<c29 then cu l i else nth [agg [rat 0 ag,rat 0 ag]] c7 (i-c29+0)).keys=[]/\bg (if i<c29 then cu l i else nth [agg [rat 0 ag,rat 0 ag]] c7 (i-c29+0)) (fJ (lR (if i<c29 then cu l i else nth [agg [rat 0 ag,rat 0 ag]] c7 (i-c29+0))).fst (lR (if i<c29 then cu l i else nth [agg [rat 0 ag,rat 0 ag]] c7 (i-c29+0))).snd ag),c30,c35,c22,c15+c8.length<2^30] (aj c9 (fork (decide (c11=0)) (aj [c3,c3,c23,c14,c12*c27*2<=c28,c3] (aj [c3,c20/\(0:Int)<=c32/\c32<=c10/\c32*c21<=c10] (aj [c3] (leaf normal (c6::own 98310 7 0 0::own 81926 6 0 c12::int i64 c32::c17,[(81926,ax.mk true true 6 c12 fun i=>if i<c18 then cu c1 i else nth [agg [c25,c25]] c7 (i-c18+0)),((98310:Nat),c4)]))))) (aj [c3,c20/\(0:Int)<=c31/\c31<=c10/\c31*c21<=c10] (aj [c3] (leaf normal (c6::c24::own 49158 6 0 c18::int i64 c31::c17,[(49158,ax.mk true true 6 c18 fun i=>agg [rat (bO c1 i).fst ag,rat (bO c1 i).snd ag]),((73734:Nat),c4)])))))))) (aj [c3,c3,c3,az [c23],az [c23],c16,c5,c5,c5,c29=c29,∀(i:Nat),i<c29->(cu l i).keys=[]/\bg (cu l i) (fJ (aQ (rat (bO l i).fst ag)) (aQ (rat (bO l i).snd ag)) ag),c30,c35,c22,c29+c8.length<2^30] (aj c9 (fork (decide (c11=0)) (aj [c3,c3,c23,c14,c13*c27*2<=c28,c3] (aj [c3,c20/\(0:Int)<=c34/\c34<=c10/\c34*c21<=c10] (aj [c3] (leaf normal (c6::c24::own 57350 6 0 c13::int i64 c34::c17,[(57350,ax.mk true true 6 c13 fun i=>if i<c19 then cu c2 i else nth [agg [c25,c25]] c7 (i-c19+0)),((73734:Nat),c4)]))))) (aj [c3,c20/\(0:Int)<=c33/\c33<=c10/\c33*c21<=c10] (aj [c3] (leaf normal (c6::own 49158 7 0 0::own 24582 6 0 c19::int i64 c33::c17,[(24582,ax.mk true true 6 c19 fun i=>agg [rat (bO c2 i).fst ag,rat (bO c2 i).snd ag]),((49158:Nat),c4)]))))))))):=ah
theorem RP {d m i:Nat} {a:PP} {l:List (Rat×Rat)} {g:Nat->Nat}:aH T (nR d) [53] 60 zl [part xZ [1,1,1,1,0,1,0,0]] ⟨aB zl (An a m i),Cn l g i,2⟩=
  let c8:AV:=rat 0 1;let c7:Int:=(↑m:Int);let c5:AV:=own 0 6 0 m;let c3:AV:=ak 3 a.fst fun i=>rat (a.snd i) ag;let c2:Int:=(↑i:Int);let c1:Nat×ax:=(0,ax.mk true true 6 l.length fun i=>agg [rat (bO l i).fst ag,rat (bO l i).snd ag]);let c6:Int:=c2+1;let c4:Nat:=c2.toNat+0;some (fork (decide (c2<c7)) (aj [(0:Int)<=c2/\c2.toNat<m,c4<l.length,(0:Nat)<1] (aj [(0:Nat)<1,(1:Nat)*7<=2^24,(i+1)*((120:Nat)+1)*2<=2^47] (aj [-(2:Int)^63<=c6/\c6<2^63] (leaf normal ([c3,own 36866 7 0 (i+1),c5,int i64 c7,int i64 c6],[c1,(36866,ax.mk true true 7 (i+1) fun i_1=>if i_1<i then agg [cu l i_1,int i64 (↑(g i_1):Int)]else nth [agg [agg [rat (bO l c4).fst ag,rat (bO l c4).snd ag],int i64 1]] (agg [agg [c8,c8],int i64 0]) (i_1-i+0))]))))) (leaf (exit 0) ([c3,own 1 7 0 i,c5,int i64 c7,int i64 c2],[c1,(1,ax.mk true true 7 i fun j=>agg [agg [rat (bO l j).fst ag,rat (bO l j).snd ag],int i64 (↑(g j):Int)])]))):=ah
theorem TJ {d m i:Nat} {a:PP} {l:List (Rat×Rat)} {g:Nat->Nat}:aH T (nR d) [] 60 tJ (before uF [0,1]) ⟨aB zl (An a m i),Cn l g i,2⟩=
  let c6:Nat×(Nat->Rat):=(a.fst,fun i=>aQ (rat (a.snd i) ag));let c4:Prop:=cZ (fun i=>rat (a.snd i) ag) a.fst ag;let c1:Nat:=bH (cO fun i=>aQ (rat (a.snd i) ag)) (a.fst-1);let c3:Nat×(Nat->Rat):=(c1,fun i=>aQ (rat (cO (fun i=>aQ (rat (a.snd i) ag)) i) ag));let c2:PP×PP:=(c6,c3);let c5:PP:=(bQ c2 c1).fst;some (aj [c4,a.fst<2^40,cN (a.fst-1) (cO fun i=>aQ (rat (a.snd i) ag)),c4,cZ (fun i=>rat (cO (fun i=>aQ (rat (a.snd i) ag)) i) ag) c1 ag,a.fst<2^30,c1<2^30,Trim c6,Trim c3,p7 c2] (leaf normal ([ak 3 c5.fst fun i=>rat (cM c5.fst c5.snd i) ag,own 1 7 0 i],[(1,ax.mk true true 7 i fun j=>agg [agg [rat (bO l j).fst ag,rat (bO l j).snd ag],int i64 (↑(g j):Int)])]))):=ah
theorem ahQ {d m:Nat} {a:PP} {l:List (Rat×Rat)} {g:Nat->Nat}:aH T (nR d) [68] 60 tJ (before wN [1,0]) ⟨aB tJ (Cc a m),sM l g m,1⟩=
  let c1:List AV×aE:=([ak 3 a.fst fun i=>rat (a.snd i) ag,own 0 7 0 m],[(0,ax.mk true true 7 m fun j=>agg [agg [rat (bO l j).fst ag,rat (bO l j).snd ag],int i64 (↑(g j):Int)])]);some (fork (decide ((↑a.fst:Int)>1)) (leaf normal c1) (leaf (exit 2) c1)):=ah
theorem aa4 {d m:Nat} {a:PP} {l:List (Rat×Rat)} {g:Nat->Nat}:aH T (nR d) [] 60 zf (before zT [1,1]) ⟨aB tJ (Cc a m),sM l g m,1⟩=
  let c2:AV:=own 0 7 0 m;let c1:Nat×(Nat->Rat):=(a.fst,fun i=>aQ (rat (a.snd i) ag));some (aj [cZ (fun i=>rat (a.snd i) ag) a.fst ag,pY c1] (leaf normal ([ak 3 a.fst fun i=>rat (a.snd i) ag,c2,ak 1 (b7 c1) fun i=>ak 3 (bS c1 i).fst fun i_1=>rat ((bS c1 i).snd i_1) ag,c2,int i64 (↑m:Int),int i64 0],[(0,ax.mk true true 7 m fun j=>agg [agg [rat (bO l j).fst ag,rat (bO l j).snd ag],int i64 (↑(g j):Int)])]))):=ah
theorem U4 {d m n i:Nat} {a:PP} {c:Nat->PP} {l:List (Rat×Rat)} {g:Nat->Nat}:aH T (nR d) [78,86] 60 zf [part zT [1,1,0,0]] ⟨aB zf (FN a n c m i),sM l g m,1⟩=
  let c14:Int:=(↑m:Int);let c8:AV:=ak 3 a.fst fun i=>rat (a.snd i) ag;let c7:AV:=ak 1 n fun i=>ak 3 (c i).fst fun i_1=>rat ((c i).snd i_1) ag;let c6:Int:=(2:Int)^63;let c5:AV:=own 0 7 0 m;let c4:Int:=(↑i:Int);let c3:Nat×ax:=(0,ax.mk true true 7 m fun j=>agg [agg [rat (bO l j).fst ag,rat (bO l j).snd ag],int i64 (↑(g j):Int)]);let c13:Int:=c4+1;let c11:Prop:=(0:Int)<=c4/\c4.toNat<m;let c1:Nat:=c4.toNat+0;let c12:Int:=(↑(g c1):Int)+1;let c10:AV:=rat (bO l c1).fst ag;let c9:AV:=rat (bO l c1).snd ag;let c2:List AV:=[c8,c5,c7,c5,int i64 c14,int i64 c13];some (fork (decide (c4<c14)) (aj [c11,c1<m,∀(i:Nat),i<n->bg (aG (c i)) (aG (bV (aG (c i)))),bg c10 (rat (aQ c10) ag),bg c9 (rat (aQ c9) ag),(0:Nat)<n,n<2^40,cL n (fun i=>bV (aG (c i))) (aQ c10),cL n (fun i=>bV (aG (c i))) (aQ c9)] (fork (oJ n (fun i=>bV (aG (c i))) (aQ c10) (aQ c9)) (aj [c11,c1<m,-c6<=c12/\c12<c6,c11,c1<m] (aj [-c6<=c13/\c13<c6] (leaf normal (c2,[(0,ax.mk true true 7 m fun j=>agg [agg [rat (bif j==c1 then(bO l c1).fst else(bO l j).fst) (bif j==c1 then ag else ag),rat (bif j==c1 then(bO l c1).snd else(bO l j).snd) (bif j==c1 then ag else ag)],nP (j==c1) (int i64 c12) (int i64 (↑(g j):Int))])])))) (aj [-c6<=c13/\c13<c6] (leaf normal (c2,[c3]))))) (leaf (exit 4) ([c8,c5,c7,c5,int i64 c14,int i64 c4],[c3]))):=ah
theorem Zo {d m n i:Nat} {a:PP} {c:Nat->PP} {l:List (Rat×Rat)} {g:Nat->Nat}:aH T (nR d) [] 60 tJ (behind zT [1,1]++[part wN [1,1]]) ⟨aB zf (FN a n c m i),sM l g m,1⟩=
  let c6:Nat×(Nat->Rat):=(a.fst,fun i=>aQ (rat (a.snd i) ag));let c4:Prop:=cZ (fun i=>rat (a.snd i) ag) a.fst ag;let c1:Nat:=bH (cO fun i=>aQ (rat (a.snd i) ag)) (a.fst-1);let c3:Nat×(Nat->Rat):=(c1,fun i=>aQ (rat (cO (fun i=>aQ (rat (a.snd i) ag)) i) ag));let c2:PP×PP:=(c6,c3);let c5:PP:=(bQ c2 c1).fst;some (aj [c4,a.fst<2^40,cN (a.fst-1) (cO fun i=>aQ (rat (a.snd i) ag)),c4,cZ (fun i=>rat (cO (fun i=>aQ (rat (a.snd i) ag)) i) ag) c1 ag,a.fst<2^30,c1<2^30,Trim c6,Trim c3,p7 c2] (leaf normal ([ak 3 c5.fst fun i=>rat (cM c5.fst c5.snd i) ag,own 0 7 0 m],[(0,ax.mk true true 7 m fun j=>agg [agg [rat (bO l j).fst ag,rat (bO l j).snd ag],int i64 (↑(g j):Int)])]))):=ah
theorem adw {d m:Nat} {a:PP} {l:List (Rat×Rat)} {g:Nat->Nat}:cR T (nR d) [] 60 f18 [part uF [1]] ⟨aB tJ (Cc a m),sM l g m,1⟩=
  some (leaf ret [ak 7 m fun i=>agg [agg [rat (bO l (i+0)).fst ag,rat (bO l (i+0)).snd ag],int i64 (↑(g (i+0)):Int)],int i64 0]):=ah
theorem B4 {d:Nat}:bU P (nR d):=jq (aL HY (aL NN (aL Ka (aL (Nl d) (aL Lz (aL ER (aL Dz (aL afp iF))))))))
theorem Hh {a:PP} (ta:Trim a) (h:1<a.1):(bR a (aW a)).1<a.1:=by
 have h1:(aW a).1=a.1-1:=qb (.inr (by
  unfold cO
  rw[show a.1-1-1+1=a.1-1 by omega]
  intro h0
  rcases Rat.mul_eq_zero.1 h0 with h0|h0
  ·have h0:((a.1-1:Nat):Int)=0:=Rat.intCast_inj.1 h0
   omega
  ·rcases ta with h2|h2
   ·omega
   ·exact h2 h0))
 have h2:=(rR ta (dI (a:=a))).2.len aa dI (j8 ta dI)
 omega
theorem s9 {a:PP} (ta:Trim a):∀j,Trim (eH a j)
 |0=>j8 ta dI
 |j+1=>j8 (s9 ta j) dI
theorem ya {a:PP} (ta:Trim a):(bR a (aW a)).1<=a.1:=v5 (s:=(a,aW a)) aT (Nat.le_trans fE (Nat.sub_le _ _)) ta dI _
theorem BP {a:PP} (ta:Trim a):∀j,(eH a j).1<=a.1
 |0=>ya ta
 |j+1=>Nat.le_trans (ya (s9 ta j)) (BP ta j)
theorem Ex {a:PP} (ta:Trim a):∀f j,(eH a j).1<=f->(eH a (kD a f j)).1<=1/\(∀i,j<=i->i<kD a f j->1<(eH a i).1)/\j<=kD a f j
 |0,j,h=>⟨by show(eH a j).1<=1;omega,fun i h1 h2=>by have:i<j:=h2;omega,aT⟩
 |f+1,j,h=>by
  unfold kD
  split
  ·rename_i h1
   have:=Hh (s9 ta j) h1
   obtain⟨g1,g2,g3⟩:=Ex ta f (j+1) (by show(bR _ _).1<=f;omega)
   refine⟨g1,fun i h2 h3=>?_,aa⟩
   rcases Nat.eq_or_lt_of_le h2 with h4|h4
   ·rw[<-h4];exact h1
   ·exact g2 i h4 h3
  ·exact⟨aa,fun i h1 h2=>aa,aT⟩
theorem Mc {a:PP}:∀f j,kD a f j<=j+f
 |0,j=>aT
 |f+1,j=>by
  unfold kD
  split
  ·have:=Mc (a:=a) f (j+1);omega
  ·omega
theorem LF {a:PP} {l:List (Rat×Rat)} {i:Nat}:∀j,kg a l j i<=j+1
 |0=>aT
 |j+1=>by
  have:=LF (a:=a) (l:=l) (i:=i) j
  unfold kg;split<;>omega
theorem Y5 {k es:Nat} (h:0<es):bg .nil (.own k es 0 0):=by
 refine⟨rfl,fun M w cs hc=>?_⟩
 cases hc with
 |vnil h1=>cases h1;exact .own0 h .nil
def iJ (a:PP) (l:List (Rat×Rat)) (k i x:Nat):Nat:=if x<i then kg a l (k+1) x else kg a l k x
abbrev vc (a:PP) (l:List (Rat×Rat)) (k i:Nat):Bool:=oJ (b7 (eH a k)) (bS (eH a k)) (bO l i).1 (bO l i).2
theorem Oa {a:PP} {l:List (Rat×Rat)} {k i:Nat}:kg a l (k+1) i=if vc a l k i=true then kg a l k i+1 else kg a l k i:=rfl
theorem FC {a:PP} {l:List (Rat×Rat)} {k i:Nat}:iJ a l k i i=kg a l k i:=if_neg aa
theorem Jd {a:PP} {l:List (Rat×Rat)} {k i x:Nat} (h:x≠i):iJ a l k (i+1) x=iJ a l k i x:=by
 unfold iJ
 by_cases h1:x<i
 ·rw[if_pos h1,if_pos aa]
 ·rw[if_neg h1,if_neg aa]
theorem Um {a:PP} {l:List (Rat×Rat)} {k i:Nat} (h:vc a l k i=true):iJ a l k (i+1) i=iJ a l k i i+1:=by
 rw[FC];unfold iJ
 rw[if_pos aa,Oa,if_pos h]
theorem T4 {a:PP} {l:List (Rat×Rat)} {k i:Nat} (h:vc a l k i=false):iJ a l k (i+1)=iJ a l k i:=by
 funext x
 by_cases hx:x=i
 ·subst hx
  rw[FC];unfold iJ
  rw[if_pos aa,Oa,if_neg (by rw[h];decide)]
 ·exact Jd hx
theorem IN {a:PP} {l:List (Rat×Rat)} {k i c j:Nat} (hc:c=i) (h:vc a l k i=true):
  AV.agg [.agg [.rat (bif j==c then(bO l c).1 else(bO l j).1) (bif j==c then ag else ag),.rat (bif j==c then(bO l c).2 else(bO l j).2) (bif j==c then ag else ag)],nP (j==c) (.int .i64 ((iJ a l k i c:Nat)+1)) (.int .i64 (iJ a l k i j:Nat))]=jj l (iJ a l k (i+1)) j:=by
 subst hc
 by_cases hj:j=c
 ·subst hj
  rw[beq_self_eq_true]
  show AV.agg [cu l j,.int .i64 ((iJ a l k j j:Nat)+1)]=AV.agg [cu l j,.int .i64 (iJ a l k (j+1) j:Nat)]
  rw[Um h];rfl
 ·rw[show(j==c)=false by simp[hj]]
  show AV.agg [cu l j,.int .i64 (iJ a l k c j:Nat)]=AV.agg [cu l j,.int .i64 (iJ a l k (c+1) j:Nat)]
  rw[Jd hj]
theorem adt {l:List (Rat×Rat)} {p:Rat×Rat} {z:AV} {i:Nat} (hi:i<l.length+1):keys (if i<l.length then cu l i else nth [fJ p.1 p.2 ag] z (i-l.length+0))=[]/\
  bg (if i<l.length then cu l i else nth [fJ p.1 p.2 ag] z (i-l.length+0)) (fJ (lR (if i<l.length then cu l i else nth [fJ p.1 p.2 ag] z (i-l.length+0))).1 (lR (if i<l.length then cu l i else nth [fJ p.1 p.2 ag] z (i-l.length+0))).2 ag):=by
 rw[uN hi];exact⟨rfl,.refl _⟩
theorem BV {a:PP} {l:List (Rat×Rat)} {g:Nat->Nat} {k0 k1 M:Nat} {row:ax} {z:Nat->AV} (hM:l.length=M) (hrow:row=⟨true,true,6,M,row.f⟩) (hf:∀i,i<l.length->row.f i=cu l i) (hne:k0≠k1):
  dP [] ([aG a,.own k1 7 0 0,.own k0 6 0 M,.int .i64 M,.int .i64 0],[(k0,row),(k1,⟨true,true,7,0,z⟩)]) (An a l.length 0) (Cn l g 0) 2:=by
 subst hM
 have e1:look k1 [(k0,row),(k1,(⟨true,true,7,0,z⟩:ax))]=some ⟨true,true,7,0,z⟩:=by simp[look,hne]
 have e0:look k0 [(k0,row),(k1,(⟨true,true,7,0,z⟩:ax))]=some ⟨true,true,6,l.length,row.f⟩:=by rw[<-hrow];simp[look]
 exact⟨[(0,k0),(1,k1)],by simp[iR,hne,Ne.symm hne],rfl,rfl,bk rfl e0 rfl (fun i hi=>bK (by rw[hf i hi];rfl) (hf i hi)) (bk rfl e1 rfl (fun i hi=>absurd hi (Nat.not_lt_zero _)) trivial)⟩
theorem Vk {d:Nat} {p:PP} (hz:wA d p) (K:Nat):aS P 18 K [aG p] [] (aM (HM d p) []):=by
 have hW:=cY
 obtain⟨z1,z2⟩:=hz
 refine iE (r:=aM (HM d p) []) hT Mx rfl aZ rfl (fun _ cx h0=>?_) K []
 have hk:=mR h0
 refine au.FM hT B4 hm (x:=EX) [1,1,1,1,1,1,1,1,1] ah ah Mx.dst hk (f1:=[20]) 60 De 6 (fun _:Unit=>Nd (aJ p)) (fun _=>KD (b7 (aJ p)) (bS (aJ p)) []) (fun _=>(aJ p).1≠0) ⟨_,Zq (d:=d),?_⟩ (fun _ hne=>?_)
 ·simp only[af.all,az,beq_iff_eq,beq_eq_false_iff_ne,ne_eq]
  refine⟨⟨dU aT,z1⟩,fun h s' hv=>?_,fun h=>?_⟩
  ·have h:(aJ p).1=0:=aa
   have e1:fk d p=[]:=if_pos h
   refine tV.fin ⟨[.nil,.int .i64 3],rfl,?_⟩ hv
   show g7 [.nil,.int .i64 3] [.ak 7 (fk d p).length (jj (fk d p) (kJ d p)),.int .i64 (if(aJ p).1=0 then 3 else 0)]
   rw[e1,if_pos h]
   exact⟨lS aa,.refl _,trivial⟩
  ·have h:(aJ p).1≠0:=aa
   obtain⟨y1,y2,y3,y4,y5,y6,y7,y8⟩:=z2 h
   refine⟨⟨dU aT,y1,aa⟩,aa,aa,⟨aa,aa,aa,aa,aa,aa⟩,(),h,[(0,49152),(1,65536),(3,57344),(4,86016),(5,90112)],rfl,rfl,rfl,?_⟩
   refine kj rfl rfl (.inr ⟨rfl,Y5 aa⟩) (kj rfl rfl (.inl (.inr (G0 ⟨⟨rfl,iS rfl (.refl _)⟩,⟨rfl,iw rfl⟩,⟨rfl,iw rfl⟩,⟨rfl,iS rfl (.refl _)⟩,trivial⟩ rfl))) (lF rfl aa aa (dx (kj rfl rfl (.inr ⟨rfl,dM rfl (by rw[hW];decide)⟩) (kj rfl rfl (.inr ⟨rfl,dM rfl (by rw[hW];decide)⟩) trivial)))))
 ·obtain⟨y1,y2,y3,y4,y5,y6,y7,y8⟩:=z2 hne
  have hsm:0<b7 (aJ p):=Nat.succ_pos _
  have hl:fk d p=l5 d (b7 (aJ p)) (bS (aJ p)):=if_neg hne
  obtain⟨l,hll⟩:∃l,l=fk d p:=⟨_,rfl⟩
  rw[<-hll]at y6 y8
  have hl2:l=(if cE (bS (aJ p) 0) 0=0 then [(0,0)]else [])++bC (b7 (aJ p)) (bS (aJ p)) d 0 1++(if cE (bS (aJ p) 0) 1=0 then [(1,1)]else []):=by rw[hll,hl];rfl
  refine au.rz hT B4 hm (x:=xZ) [1,1,1,1,0,1] (i:=0) (y:=part xZ [1,1,1,1,0,1,0,0]) (z:=uF) ah ah ah ah hk (f1:=[29,41]) (f2:=[53]) 60 zl 2 (fun i:Nat=>An (aJ p) l.length i) (fun i=>Cn l (fun _=>1) i) (fun i=>i<=l.length) (fun i=>i=l.length) (fun i=>l.length-i) (fun _=>False)
   ⟨_,Sk (d:=d),?_⟩ (fun i hi=>⟨_,RP (d:=d),?_⟩) (fun i hi=>?_) fun _ _ h=>h.elim
  ·have hC:(fun i=>bV (aG (bS (aJ p) i)))=bS (aJ p):=rfl
   have hC0:bV (aG (bS (aJ p) 0))=bS (aJ p) 0:=rfl
   have h00:([]:List (Rat×Rat)).length=0:=rfl
   have e0:jv (fun i=>if i<([]:List (Rat×Rat)).length then cu [] i else nth [.agg [.rat 0 ag,.rat 0 ag]] (.agg [.rat 0 1,.rat 0 1]) (i-([]:List (Rat×Rat)).length+0)) (([]:List (Rat×Rat)).length+1)=[(0,0)]:=Jx (l:=[]) (p:=(0,0))
   simp only[af.all,az,hC,hC0,Kx,e0,bD,bI]
   have hm:(bC (b7 (aJ p)) (bS (aJ p)) d 0 1).length<=l.length:=by rw[hl2];simp only[List.length_append];omega
   refine⟨⟨aa,aa,aT,fun i _=>.refl _,hsm,y3⟩,fun r0=>⟨⟨aa,aa,aT,aa,aa,aa⟩,⟨aa,aa,aa,aT,aT,fun i _=>.refl _,.refl _,.refl _,.refl _,trivial,?_,hsm,y2,y5,?_⟩,⟨aa,aa,aT,fun i _=>.refl _,hsm,y4⟩,?_⟩,fun r0=>⟨⟨aa,aa,aa,aT,aT,fun i _=>.refl _,.refl _,.refl _,.refl _,trivial,fun i hi=>absurd hi (Nat.not_lt_zero _),hsm,y2,y5,?_⟩,⟨aa,aa,aT,fun i _=>.refl _,hsm,y4⟩,?_⟩⟩
   ·exact fun i hi=>adt (l:=[]) (p:=(0,0)) hi
   ·show 0+1+(bC (b7 (aJ p)) (bS (aJ p)) d 0 1).length<2^30
    rw[hl2,if_pos r0]at y6;simp only[List.length_append,List.length_cons,List.length_nil]at y6;omega
   ·refine⟨fun r1=>?_,fun r1=>?_⟩
    ·rw[if_pos r0,if_pos r1]at hl2
     have hle:l.length=([(0,0)]++bC (b7 (aJ p)) (bS (aJ p)) d 0 1).length+1:=by rw[hl2,List.length_append];rfl
     refine⟨⟨aa,aa,aT,aa,aa,aa⟩,⟨aa,aa,aa,aa,aa⟩,aa,0,Nat.zero_le _,BV hle rfl (fun i hi=>?_) (by decide)⟩
     rw[hle]at hi;rw[hl2];exact uN (p:=(1,1)) hi
    ·rw[if_pos r0,if_neg r1,List.append_nil]at hl2
     have hl3:([(0,0)]++bC (b7 (aJ p)) (bS (aJ p)) d 0 1).length=l.length:=by rw[<-hl2]
     refine⟨⟨aa,aa,aa,aa,aa⟩,aa,0,Nat.zero_le _,BV hl3.symm rfl (fun i hi=>by rw[hl2]) (by decide)⟩
   ·show 0+(bC (b7 (aJ p)) (bS (aJ p)) d 0 1).length<2^30
    omega
   ·refine⟨fun r1=>?_,fun r1=>?_⟩
    ·rw[if_neg r0,if_pos r1]at hl2
     have hle:l.length=([]++bC (b7 (aJ p)) (bS (aJ p)) d 0 1).length+1:=by rw[hl2,List.length_append];rfl
     refine⟨⟨aa,aa,aT,aa,aa,aa⟩,⟨aa,aa,aa,aa,aa⟩,aa,0,Nat.zero_le _,BV hle rfl (fun i hi=>?_) (by decide)⟩
     rw[hle]at hi;rw[hl2];exact uN (p:=(1,1)) hi
    ·rw[if_neg r0,if_neg r1,List.append_nil]at hl2
     have hl3:([]++bC (b7 (aJ p)) (bS (aJ p)) d 0 1).length=l.length:=by rw[<-hl2]
     refine⟨⟨aa,aa,aa,aa,aa⟩,aa,0,Nat.zero_le _,BV hl3.symm rfl (fun i hi=>by rw[hl2]) (by decide)⟩
  ·have hiA:((i:Int)).toNat+0=i:=aa
   simp only[af.all,az,bD,bI]
   refine⟨fun h=>⟨⟨aa,aa,aa⟩,⟨aa,aa,aa⟩,aa,i+1,aa,by dsimp only;omega,[(0,0),(1,36866)],rfl,by rw[show(i:Int)+1=((i+1:Nat):Int) by omega];rfl,rfl,nD (bk rfl rfl rfl (fun x hx=>?_) trivial)⟩,
    fun h=>⟨rfl,i,aa,[(0,0),(1,1)],rfl,rfl,rfl,nD (bk rfl rfl rfl (fun x hx=>bK rfl rfl) trivial)⟩⟩
   rw[hiA]
   by_cases hx2:x<i
   ·rw[if_pos hx2];exact bK rfl rfl
   ·rw[if_neg hx2,PT aa,show x=i by omega];exact bK rfl rfl
  ·subst hi
   have ta:Trim (aJ p):=mu
   obtain⟨J,hJ⟩:∃J,J=kD (aJ p) (aJ p).1 0:=⟨_,rfl⟩
   have hl0:(eH (aJ p) 0).1<=(aJ p).1:=BP ta 0
   obtain⟨j1,j2,_⟩:=Ex ta (aJ p).1 0 hl0
   rw[<-hJ]at j1 j2
   have hp41:(aJ p).1<=41:=Nat.le_trans fE z1.2.1
   have hd:∀{x:PP},x.1<=41->(aW x).1<2^30:=fun h=>Nat.lt_of_le_of_lt fE aa
   refine au.qp hT B4 hm (x:=uF) [0,1] (i:=2) (y:=wN) (z:=part uF [1]) ah ah ah ah [1,0] (j:=3) (x1:=zT) (zb:=part wN [1,1]) ah ah ah [1,1] (i2:=4) (y2:=part zT [1,1,0,0]) ah ah rfl hk
    (f1:=[]) (f2:=[68]) (f3:=[]) (f4:=[78,86]) (f5:=[]) 60 tJ zf 1 1 (fun k:Nat=>Cc (eH (aJ p) k) l.length) (fun k=>sM l (kg (aJ p) l k) l.length) (fun k=>k<=J) (fun k=>k=J) (fun k=>J-k) (fun k=>k<J) (fun _=>False) (fun _=>False)
    (fun k (i:Nat)=>FN (eH (aJ p) k) (b7 (eH (aJ p) k)) (bS (eH (aJ p) k)) l.length i) (fun k i=>sM l (iJ (aJ p) l k i) l.length) (fun _ i=>i<=l.length) (fun _ i=>i=l.length) (fun _ i=>l.length-i)
    ⟨_,TJ (d:=d),?_⟩ (fun k hk=>⟨_,ahQ (d:=d),?_⟩) (fun k hk hG=>⟨_,aa4 (d:=d),?_⟩) (fun k hk hG i hi=>⟨_,U4 (d:=d),?_⟩) (fun k hk hG i hi=>⟨_,Zo (d:=d),?_⟩) (fun k hk=>?_) (fun _ _ h=>h.elim) (fun _ _ h=>h.elim)
   ·simp only[af.all,az]
    refine⟨⟨dU aT,by show(aJ p).1<_;omega,y7.1,dU aT,dU aT,by show(aJ p).1<_;omega,hd hp41,ta,dI,y7.2⟩,0,Nat.zero_le _,[(0,1)],rfl,rfl,rfl,nD trivial⟩
   ·simp only[af.all,az,bD,bI]
    refine⟨fun h=>⟨?_,[(0,0)],rfl,rfl,rfl,nD trivial⟩,fun h=>⟨rfl,k,?_,[(0,0)],rfl,rfl,rfl,nD trivial⟩⟩
    ·rcases Nat.lt_or_ge k J with h2|h2
     ·exact h2
     ·have:k=J:=aa
      subst this;omega
    ·rcases Nat.lt_or_ge k J with h2|h2
     ·have:=j2 k (Nat.zero_le _) h2
      omega
     ·omega
   ·obtain⟨x1,x2,x3,x4⟩:=y8 k (j2 k (Nat.zero_le _) hG)
    simp only[af.all,az]
    exact⟨⟨dU aT,x2⟩,0,Nat.zero_le _,[(0,0)],rfl,rfl,rfl,nD trivial⟩
   ·obtain⟨x1,x2,x3,x4⟩:=y8 k (j2 k (Nat.zero_le _) hG)
    have hJ2:J<=(aJ p).1:=by rw[hJ];have:=Mc (a:=aJ p) (aJ p).1 0;omega
    have hsk:0<b7 (eH (aJ p) k):=Nat.succ_pos _
    have hb:iJ (aJ p) l k i i<=42:=by rw[FC];have:=LF (a:=aJ p) (l:=l) (i:=i) k;omega
    simp only[af.all,az,bD,bI,bG,Nat.add_zero]
    refine⟨fun h=>⟨⟨aa,aa,fun i _=>.refl _,.refl _,.refl _,hsk,x3,(x4 i aa).1,(x4 i aa).2⟩,fun h2=>⟨⟨aa,aa,aa,aa,aa⟩,aa,i+1,aa,by dsimp only;omega,[(0,0)],rfl,by rw[show(i:Int)+1=((i+1:Nat):Int) by omega];rfl,rfl,bk rfl rfl rfl (fun x hx=>?_) trivial⟩,
      fun h2=>⟨aa,i+1,aa,by dsimp only;omega,[(0,0)],rfl,by rw[show(i:Int)+1=((i+1:Nat):Int) by omega];rfl,rfl,bk rfl rfl rfl (fun x hx=>?_) trivial⟩⟩,
     fun h=>⟨rfl,i,aa,[(0,0)],rfl,rfl,rfl,nD trivial⟩⟩
    ·have h2:vc (aJ p) l k i=true:=h2
     exact bK (by rw[IN rfl h2];rfl) (IN rfl h2)
    ·have h2:vc (aJ p) l k i=false:=h2
     exact bK rfl (by show jj l (iJ (aJ p) l k i) x=_;rw[T4 h2])
   ·obtain⟨x1,x2,x3,x4⟩:=y8 k (j2 k (Nat.zero_le _) hG)
    have hg41:(eH (aJ p) k).1<=41:=Nat.le_trans (BP ta k) hp41
    simp only[af.all,az]
    refine⟨⟨dU aT,by show(eH (aJ p) k).1<_;omega,x1.1,dU aT,dU aT,by show(eH (aJ p) k).1<_;omega,hd hg41,s9 ta k,dI,x1.2⟩,k+1,hG,by dsimp only;omega,[(0,0)],rfl,rfl,rfl,bk rfl rfl rfl (fun x hx=>bK rfl ?_) trivial⟩
    show AV.agg [cu l x,.int .i64 (iJ (aJ p) l k i x:Nat)]=.agg [cu l x,.int .i64 (kg (aJ p) l (k+1) x:Nat)]
    unfold iJ
    rw[if_pos (show x<i by omega)]
   ·subst hk
    refine au.mQ ((aF.fin hT B4 hm 60 (adw (d:=d)) ah ?_).mono fun _ _ h=>.inl h)
    show g7 [.ak 7 l.length _,.int .i64 0] [.ak 7 (fk d p).length (jj (fk d p) (kJ d p)),.int .i64 (if(aJ p).1=0 then 3 else 0)]
    refine⟨uZ (by rw[hll]) fun i hi=>?_,cq (if_neg hne).symm,trivial⟩
    have ht:kJ d p i=kg (aJ p) l k i:=by unfold kJ;rw[<-hll,<-hJ]
    show _=AV.agg [cu (fk d p) i,.int .i64 (kJ d p i:Nat)]
    rw[ht,<-hll];rfl
def FZ (d:Nat):Spec:=en (kC (kL ag) kN) (fun a=>HM d a.1) fun a=>[wA d a.1]
theorem N8 (d:Nat):bf P (FZ d) 18:=dO fun⟨a,_⟩ K hn=>Vk hn K
def fj (k:Nat->Rat) (j:Nat):Nat->Int
 |0=>-1
 |l+1=>if k (j+l)=k (j+l+1)then fj k j l else(j+l:Nat)
theorem MT {k:Nat->Rat} {j:Nat}:∀{l:Nat},k j≠k (j+l)->∃P:Nat,fj k j l=(P:Int)/\j<=P/\P<j+l/\k P≠k (P+1)
 |0,h=>absurd rfl h
 |l+1,h=>by
  unfold fj
  by_cases he:k (j+l)=k (j+l+1)
  ·rw[if_pos he]
   obtain⟨P,h1,h2,h3,h4⟩:=MT (k:=k) (j:=j) (l:=l) (by rw[he];exact h)
   exact⟨P,h1,h2,by omega,h4⟩
  ·rw[if_neg he]
   exact⟨j+l,rfl,by omega,by omega,he⟩
theorem Kn.piece {n p:Nat} {k:Nat->Rat} (h:Kn n p k) {j:Nat} (hj:j+p+1<n):∃P:Nat,fj k j (p+1)=(P:Int)/\j<=P/\P<=j+p/\k P<k (P+1)/\p<=P/\P+p+1<n:=by
 have hp:=h.p1
 have hne:k j≠k (j+(p+1)):=by
  have hlt:k j<k (j+(p+1)):=by
   by_cases h0:j=0
   ·subst h0
    have hl:=h.len
    have a1:=h.mult 1 (by omega) (by omega)
    rw[h.first 1 (by omega),show 1+p=0+(p+1) by omega]at a1
    exact a1
   ·have a1:=h.mult j (by omega) (by omega)
    have a2:=h.mono (show j+p<=j+(p+1) by omega) (by omega)
    grind
  grind
 obtain⟨P,h1,h2,h3,h4⟩:=MT hne
 have hs:=h.sorted P (by omega)
 refine⟨P,h1,h2,by omega,by grind,?_,?_⟩
 ·rcases Nat.lt_or_ge P p with hh|hh
  ·exact absurd (by rw[h.first P (by omega),h.first (P+1) (by omega)]) h4
  ·exact hh
 ·rcases Nat.lt_or_ge (P+p+1) n with hh|hh
  ·exact hh
  ·exact absurd (by rw[h.last P (by omega) (by omega),h.last (P+1) (by omega) (by omega)]) h4
open Go
theorem ME {x:Int} {n:Nat} (h:x.natAbs<2^n) (hn:1<=n):Sz (x:Rat) n:=
 ⟨by rw[Rat.num_intCast];exact h,by rw[Rat.den_intCast];exact Nat.lt_of_lt_of_le (show 1<2^1 by decide) (Nat.pow_le_pow_right (by decide) hn)⟩
end Go.Am.B
namespace Go.Am
open Go
def cj (D:Int) (s:Nat) (x:Rat):Prop:=∃z:Int,(z:Rat)=x*(D:Rat)/\z.natAbs<=2^s
theorem pO {D:Int} (h:D≠0):(D:Rat)≠0:=fun h0=>by
 have h0:(D:Rat)=((0:Int):Rat):=h0
 exact h (Rat.intCast_inj.1 h0)
theorem cj.more {D:Int} {s t:Nat} {x:Rat} (h:cj D s x) (ht:s<=t):cj D t x:=h.imp fun z hz=>⟨hz.1,Nat.le_trans hz.2 (Nat.pow_le_pow_right (by decide) ht)⟩
theorem cj.sz {D:Int} {s e:Nat} {x:Rat} (hD:D≠0) (hd:D.natAbs<=2^e) (h:cj D s x):Sz x (s+e+2):=by
 obtain⟨z,hz,b⟩:=h
 have hx:x=(z:Rat)/(D:Rat):=by rw[hz,Rat.div_def,Rat.mul_assoc,Rat.mul_inv_cancel _ (pO hD),Rat.mul_one]
 rw[hx]
 have s1:Sz (z:Rat) (s+1):=B.ME (Nat.lt_of_le_of_lt b (Nat.pow_lt_pow_right (by decide) aa)) aa
 have s2:Sz (D:Rat) (e+1):=B.ME (Nat.lt_of_le_of_lt hd (Nat.pow_lt_pow_right (by decide) aa)) aa
 exact(s1.div s2).more aa
theorem cj.zero {D:Int} {s:Nat}:cj D s 0:=⟨0,by rw[Rat.zero_mul];rfl,Nat.zero_le _⟩
theorem cj.int {z:Int} {s:Nat} (h:z.natAbs<=2^s):cj 1 s (z:Rat):=⟨z,by rw[show((1:Int):Rat)=1 from rfl,Rat.mul_one],h⟩
theorem cj.mul {D E:Int} {s t:Nat} {x y:Rat} (h:cj D s x) (h':cj E t y):cj (D*E) (s+t) (x*y):=by
 obtain⟨z,hz,b⟩:=h
 obtain⟨w,hw,c⟩:=h'
 refine⟨z*w,by rw[Rat.intCast_mul,hz,hw,Rat.intCast_mul];grind,?_⟩
 rw[Int.natAbs_mul,Nat.pow_add];exact Nat.mul_le_mul b c
theorem cj.add {D:Int} {s:Nat} {x y:Rat} (h:cj D s x) (h':cj D s y):cj D (s+1) (x+y):=by
 obtain⟨z,hz,b⟩:=h
 obtain⟨w,hw,c⟩:=h'
 refine⟨z+w,by rw[Rat.intCast_add,hz,hw];grind,?_⟩
 have:=Int.natAbs_add_le z w
 rw[Nat.pow_succ];omega
theorem cj.up {D E:Int} {s e:Nat} {x:Rat} (h:cj D s x) (hE:E.natAbs<=2^e):cj (D*E) (s+e) x:=by
 obtain⟨z,hz,b⟩:=h
 refine⟨z*E,by rw[Rat.intCast_mul,hz,Rat.intCast_mul];grind,?_⟩
 rw[Int.natAbs_mul,Nat.pow_add];exact Nat.mul_le_mul b hE
theorem cj.yX {D:Int} {s e:Nat} {x:Rat} (h:cj D s x) {n:Int} (hn:n.natAbs<=2^e):cj D (e+s) ((n:Rat)*x):=by
 obtain⟨z,hz,b⟩:=h
 refine⟨n*z,by rw[Rat.intCast_mul,hz];grind,?_⟩
 rw[Int.natAbs_mul,Nat.pow_add];exact Nat.mul_le_mul hn b
theorem yw {w:Int} {t:Nat} (h:w.natAbs<=2^t) (j:Nat):(w^j).natAbs<=2^(j*t):=by
 rw[Int.natAbs_pow,Nat.mul_comm,Nat.pow_mul];exact Nat.pow_le_pow_left h j
theorem mI {v w:Int} {s t:Nat} (h:v.natAbs<=2^s) (h':w.natAbs<=2^t):(v*w).natAbs<=2^(s+t):=by
 rw[Int.natAbs_mul,Nat.pow_add];exact Nat.mul_le_mul h h'
def dn (n:Nat) (k:Nat->Rat) (s:Nat):Prop:=∃D:Int,D≠0/\D.natAbs<=2^s/\∀i,i<n->cj D s (k i)
def Bd (a:PP) (s:Nat):Prop:=dn a.1 a.2 s
theorem dn.sz {n s:Nat} {k:Nat->Rat} (h:dn n k s) {i:Nat} (hi:i<n):Sz (k i) (2*s+2):=by
 obtain⟨D,h1,h2,h3⟩:=h
 exact((h3 i hi).sz h1 h2).more aa
theorem dn.more {n s t:Nat} {k:Nat->Rat} (h:dn n k s) (ht:s<=t):dn n k t:=by
 obtain⟨D,h1,h2,h3⟩:=h
 exact⟨D,h1,Nat.le_trans h2 (Nat.pow_le_pow_right (by decide) ht),fun i hi=>(h3 i hi).more ht⟩
theorem dn.short {n m s:Nat} {k:Nat->Rat} (h:dn n k s) (hm:m<=n):dn m k s:=by
 obtain⟨D,h1,h2,h3⟩:=h
 exact⟨D,h1,h2,fun i hi=>h3 i aa⟩
theorem dn.congr {n s:Nat} {k l:Nat->Rat} (h:dn n k s) (e:∀i,i<n->k i=l i):dn n l s:=by
 obtain⟨D,h1,h2,h3⟩:=h
 exact⟨D,h1,h2,fun i hi=>by rw[<-e i hi];exact h3 i hi⟩
theorem Bd.Cb {a b:PP} {s:Nat} (h:Bd a s) (e:gj a b):Bd b s:=by
 show dn b.1 b.2 s
 rw[<-e.1];exact dn.congr h e.2
theorem abe {n e s t:Nat} {d a:Nat->Rat} (ha:dn n a s) (hd:dn (e+1) d t) (h0:d e≠0):
  ∃D w:Int,D≠0/\w≠0/\D.natAbs<=2^s/\w.natAbs<=2^t/\(∀j,j<=n-e->∀i,i<n->cj (D*w^j) (s+j*(t+1)) (ck e d a (n-e) j i))/\∀k,k<n-e->cj (D*w^(n-e)) (s+(n-e)*(t+1)) (dG e d a (n-e) k):=by
 obtain⟨D,d1,d2,d3⟩:=ha
 obtain⟨E,e1,e2,e3⟩:=hd
 obtain⟨w,w1,w2⟩:=e3 e aa
 have hw:w≠0:=fun h=>by
  rw[h]at w1
  have w1:(0:Rat)=d e*(E:Rat):=w1
  exact(Rat.mul_eq_zero.1 w1.symm).elim h0 (pO e1)
 have key:∀j,j<=n-e->∀i,i<n->cj (D*w^j) (s+j*(t+1)) (ck e d a (n-e) j i):=by
  intro j
  induction j with
  |zero=>exact fun _ i hi=>by rw[Int.pow_zero,Int.mul_one,Nat.zero_mul];exact d3 i hi
  |succ j ih=>
   intro hj i hi
   have ih:=ih aa
   show cj _ _ (gz e d (n-e-1-j) (ck e d a (n-e) j) i)
   have hs:s+(j+1)*(t+1)=s+j*(t+1)+t+1:=by rw[Nat.add_mul];omega
   have hD:D*w^(j+1)=D*w^j*w:=by rw[Int.pow_succ,Int.mul_assoc]
   rw[hs,hD]
   unfold gz
   by_cases h:n-e-1-j<=i/\i<n-e-1-j+e+1
   ·rw[if_pos h]
    obtain⟨z,z1,z2⟩:=ih i hi
    obtain⟨y,y1,y2⟩:=ih (n-e-1-j+e) aa
    obtain⟨m,m1,m2⟩:=e3 (i-(n-e-1-j)) aa
    refine⟨z*w-y*m,?_,?_⟩
    ·rw[Rat.intCast_sub,Rat.intCast_mul,Rat.intCast_mul,Rat.intCast_mul,z1,m1]
     generalize ((D*w^j:Int):Rat)=Q at*
     rw[y1,w1,Rat.div_def]
     have:d e*(d e)⁻¹=1:=Rat.mul_inv_cancel _ h0
     generalize (d e)⁻¹=v at*
     generalize d (i-(n-e-1-j))=u
     generalize ck e d a (n-e) j i=x
     generalize ck e d a (n-e) j (n-e-1-j+e)=r
     generalize d e=g at*
     have h3:r*v*u*(Q*(g*(E:Rat)))=r*u*Q*(E:Rat)*(g*v):=by grind
     rw[Rat.sub_eq_add_neg,Rat.sub_eq_add_neg,Rat.add_mul,Rat.neg_mul,h3,this];grind
    ·have b1:=mI z2 w2
     have b2:=mI y2 m2
     have:=Int.natAbs_sub_le (z*w) (y*m)
     rw[Nat.pow_succ];omega
   ·rw[if_neg h]
    exact((ih i hi).up w2).more aa
 refine⟨D,w,d1,hw,d2,w2,key,fun k hk=>?_⟩
 -- the quotient
 obtain⟨z,z1,z2⟩:=key (n-e-1-k) aa (k+e) aa
 have h1:cj (D*w^(n-e-1-k)*w) (s+(n-e-1-k)*(t+1)+t) (dG e d a (n-e) k):=by
  refine⟨z*E,?_,mI z2 e2⟩
  unfold dG
  rw[Rat.intCast_mul,Rat.intCast_mul (D*w^(n-e-1-k)),z1,w1,Rat.div_def]
  have:d e*(d e)⁻¹=1:=Rat.mul_inv_cancel _ h0
  generalize (d e)⁻¹=v at*
  generalize ck e d a (n-e) (n-e-1-k) (k+e)=r
  generalize d e=g at*
  generalize ((D*w^(n-e-1-k):Int):Rat)=Q
  have h3:r*v*(Q*(g*(E:Rat)))=r*Q*(E:Rat)*(g*v):=by grind
  rw[h3,this,Rat.mul_one]
 have h2:=h1.up (yw w2 k)
 rw[show D*w^(n-e-1-k)*w*w^k=D*w^(n-e) by rw[Int.mul_assoc,Int.mul_assoc,<-Int.pow_succ',<-Int.pow_add,show n-e-1-k+(k+1)=n-e by omega]]at h2
 refine h2.more ?_
 have:(n-e)*(t+1)=(n-e-1-k)*(t+1)+(k+1)*(t+1):=by rw[<-Nat.add_mul,show n-e-1-k+(k+1)=n-e by omega]
 rw[this,Nat.add_mul k 1,Nat.mul_add k t 1];omega
theorem Bd.rem {a d:PP} {s t:Nat} (ha:Bd a s) (hd:Bd d t) (h0:0<d.1) (td:Trim d):Bd (dj a d) (s+(a.1-(d.1-1))*(t+1))/\Bd (fA a d) (s+(a.1-(d.1-1))*(t+1))/\(∀j,j<=a.1-(d.1-1)->∀i,i<a.1->Sz (ck (d.1-1) d.2 a.2 (a.1-(d.1-1)) j i) (2*(s+(a.1-(d.1-1))*(t+1))+2))/\∀k,k<a.1-(d.1-1)->Sz (dG (d.1-1) d.2 a.2 (a.1-(d.1-1)) k) (2*(s+(a.1-(d.1-1))*(t+1))+2):=by
 have hd':dn (d.1-1+1) d.2 t:=by rw[show d.1-1+1=d.1 by omega];exact hd
 obtain⟨D,w,d1,w1,d2,w2,h1,h2⟩:=abe ha hd' (td.resolve_left aa)
 obtain⟨R,hR⟩:∃R,R=a.1-(d.1-1):=⟨_,rfl⟩
 unfold dj fA
 rw[<-hR]at h1 h2 ⊢
 have hne:∀j,D*w^j≠0:=fun j=>Int.mul_ne_zero d1 (Int.pow_ne_zero w1)
 have hjR:∀{j},j<=R->j*(t+1)<=R*(t+1):=fun h=>Nat.mul_le_mul_right _ h
 have hab:∀j,j<=R->(D*w^j).natAbs<=2^(s+R*(t+1)):=fun j hj=>Nat.le_trans (mI d2 (yw w2 j)) (Nat.pow_le_pow_right (by decide) (by have:=hjR hj;have:=Nat.mul_le_mul_left j (show t<=t+1 by omega);omega))
 refine⟨⟨D*w^R,hne R,hab R aT,fun i hi=>h1 R aT i (Nat.lt_of_lt_of_le hi fE)⟩,⟨D*w^R,hne R,hab R aT,fun k hk=>h2 k (Nat.lt_of_lt_of_le hk fE)⟩,fun j hj i hi=>?_,fun k hk=>?_⟩
 ·exact((h1 j hj i hi).sz (hne j) (hab j hj)).more (by have:=hjR hj;omega)
 ·exact((h2 k hk).sz (hne R) (hab R aT)).more aa
theorem Bd.cM {a:PP} {s:Nat} (h:Bd a s) (ta:Trim a):Bd (dy a) s:=by
 obtain⟨D,h1,h2,h3⟩:=h
 rcases Nat.eq_zero_or_pos a.1 with h0|h0
 ·exact⟨1,by decide,Nat.one_le_two_pow,fun i hi=>absurd hi (by show¬i<a.1;omega)⟩
 have ht:a.2 (a.1-1)≠0:=ta.resolve_left aa
 obtain⟨w,w1,w2⟩:=h3 (a.1-1) aa
 have hw:w≠0:=fun h=>by
  rw[h]at w1
  have w1:(0:Rat)=a.2 (a.1-1)*(D:Rat):=w1
  exact(Rat.mul_eq_zero.1 w1.symm).elim ht (pO h1)
 refine⟨w,hw,w2,fun i hi=>?_⟩
 obtain⟨z,z1,z2⟩:=h3 i hi
 refine⟨z,?_,z2⟩
 show _=Go.Am.cM a.1 a.2 i*_
 unfold Go.Am.cM
 rw[z1,w1,Rat.div_def]
 have:a.2 (a.1-1)*(a.2 (a.1-1))⁻¹=1:=Rat.mul_inv_cancel _ ht
 generalize (a.2 (a.1-1))⁻¹=v at*
 generalize a.2 (a.1-1)=g at*
 have h4:a.2 i*v*(g*(D:Rat))=a.2 i*(D:Rat)*(g*v):=by grind
 rw[h4,this,Rat.mul_one]
theorem yy {n s:Nat} {k:Nat->Rat} (h:dn n k s) (hn:n<=41):dn (n-1) (cO k) (s+6):=by
 obtain⟨D,h1,h2,h3⟩:=h
 refine⟨D,h1,Nat.le_trans h2 (Nat.pow_le_pow_right (by decide) aa),fun i hi=>?_⟩
 unfold cO
 exact((h3 (i+1) aa).yX (e:=6) aa).more aa
theorem Bd.cO {a:PP} {s:Nat} (h:Bd a s) (ha:a.1<=41):Bd (aW a) (s+6):=(yy h ha).short fE
theorem Bd.neg {a:PP} {s:Nat} (h:Bd a s):Bd (a.1,fun i=>((-1:Int):Rat)*a.2 i) s:=by
 obtain⟨D,h1,h2,h3⟩:=h
 exact⟨D,h1,h2,fun i hi=>((h3 i hi).yX (e:=0) (n:=-1) (by decide)).more aa⟩
theorem Gd {n s τ:Nat} {k:Nat->Rat} {D T:Int} {t:Rat} (h:∀i,i<n->cj D s (k i)) (ht:cj T τ t) (hT:T.natAbs<=2^τ):∀m,m<=n->cj (D*T^m) (s+m*(τ+1)) (fH n k t m)
 |0,_=>cj.zero
 |m+1,hm=>by
  have ih:=Gd h ht hT m aa
  have e1:=ih.mul ht
  have e2:=(h (n-1-m) aa).up (yw hT (m+1))
  have hD:D*T^m*T=D*T^(m+1):=by rw[Int.pow_succ,Int.mul_assoc]
  rw[hD]at e1
  have hs:s+(m+1)*(τ+1)=s+m*(τ+1)+τ+1:=by rw[Nat.add_mul];omega
  rw[hs]
  refine(e1.more aT).add (e2.more ?_)
  rw[Nat.add_mul,Nat.one_mul]
  have:=Nat.mul_le_mul_left m (show τ<=τ+1 by omega)
  omega
end Go.Am
