/- ref06.value, changes, between; ref05.Variations. -/
import Derived.Test.YtolopdkjjlfgjaaGreatY38
import Derived.Test.YtolopdkjjlfgjaaGreatY37
import Derived.Test.YtolopdkjjlfgjaaGreatZ2
set_option linter.unusedVariables false
noncomputable section
namespace Go.Am.B
open Go Go.Am.N AV ag aq IntKind Proofs.Tryz
abbrev AB:Code:=aH f76
abbrev xY:List Nat:=[0,3,4,5,6]
abbrev Eb (a:PP) (i:Nat):List AV:=[aA a,.ptr 0 0 3 0 [],.ptr 1 0 3 0 [],.ptr 2 0 3 0 [],.int .i64 ((a.1:Int)-1-(i:Int))]
abbrev xP:Code:=aH f161
abbrev vT:List Nat:=[0,3,4,5]
abbrev ye (a:PP) (m:Nat) (l:Int) (i:Nat):List AV:=[aA a,.int .i64 m,.int .i64 l,.int .i64 i]
def gV (a:PP) (i:Nat):Int:=bL (a.2 i)
def NF:Spec:=dD (kC (kL af) kN) (fun a=>.int .i64 ((bX (gV a.1) a.1.1).2:Nat)) fun a=>[a.1.1<2^40]
def CD:bk:=zG::(76,mB)::(161,NF)::gN
abbrev Ac:Code:=aH f124
abbrev ya:List Nat:=[0,3,5,6]
abbrev D0 (n:Nat) (c:Nat->PP) (i:Nat):List AV:=[eO n c,.ptr 0 0 3 0 [],.own 1 3 0 i,.int .i64 i]
def O9:Spec:=dD (kC mG (kC (eU af) kN)) (fun a=>.int .i64 ((bX (cX a.1.2 a.2.1) a.1.1).2:Nat)) fun a=>[a.1.1<2^30,cq a.1.1 a.1.2 a.2.1]
def Qd:bk:=nG::(124,O9)::(76,mB)::gN
theorem RJ:bf 76 f76:=bg func76
theorem RX:bf 161 f161:=bg func161
theorem ahc:bf 124 f124:=bg func124
theorem aiV:bf 62 f62:=bg func62
theorem X7 {a:PP} {t:Rat}:aI T mA [] 60 xY (before AB [1,1,0,1]) ⟨aU 0 [aA a,.rat t af],[],0⟩=
  let c2:Int:=(↑a.fst:Int)-1;let c1:au:=gA fun x=>rat 0 1;some (aj [-(2:Int)^63<=c2/\c2<2^63] (leaf normal ([ak 3 a.fst fun i=>rat (a.snd i) af,ptr 0 0 (de (rat t af)).size 0 [],ptr 4096 0 3 0 [],ptr 8192 0 3 0 [],int i64 c2],[((8192:Nat),c1),((4096:Nat),c1),(0,au.mk false true (de (rat t af)).size 1 fun x=>rat t af)]))):=ah
theorem UN {a:PP} {t x:Rat} {i:Nat}:aI T mA [11] 60 xY [part AB [1,1,0,1,0,0]] ⟨aC xY (Eb a i),rG t x,3⟩=
  let c8:Prop:=0<1;let c7:AV:=ptr 2 0 3 0 [];let c6:AV:=ptr 1 0 3 0 [];let c5:AV:=ptr 0 0 3 0 [];let c4:Nat:=2^41;let c3:AV:=ak 3 a.fst fun i=>rat (a.snd i) af;let c2:List (Nat×au):=[((1:Nat),gA fun x=>rat 0 1),((0:Nat),gA fun x=>rat t af)];let c1:Int:=(↑a.fst:Int)-1-(↑i:Int);let c9:Int:=c1-1;some (fork (decide (c1>=0)) (aj [c8,c8,af<c4,af<c4,(0:Int)<=c1/\c1.toNat<a.fst,af+af<c4,af<c4,c8] (aj [-(2:Int)^63<=c9/\c9<2^63] (leaf normal ([c3,c5,c6,c7,int i64 c9],((2:Nat),gA fun j=>if(j==0)=true then de (xI (x*t,af+af) (a.snd c1.toNat,af))else rat x af)::c2)))) (leaf (exit 0) ([c3,c5,c6,c7,int i64 c1],((2:Nat),gA fun x_1=>rat x af)::c2))):=ah
theorem Uu {a:PP} {t x:Rat} {i:Nat}:cQ T mA [] 60 f76 [part AB [1,1,1]] ⟨aC xY (Eb a i),rG t x,3⟩=
  let c1:Prop:=0<1;some (aj [c1,c1] (aj [c1] (leaf ret [rat x af]))):=ah
theorem aeZ {a:PP}:aI T mA [] 60 vT (before xP [1,1,0,1]) ⟨aU 0 [aA a],[],0⟩=
  let c1:AV:=int i64 0;some (leaf normal ([ak 3 a.fst fun i=>rat (a.snd i) af,c1,c1,c1],[])):=ah
theorem YA {a:PP} {m i:Nat} {l:Int}:aI T mA [10,19,22,26] 60 vT [part xP [1,1,0,1,0,0]] ⟨aC vT (ye a m l i),[],0⟩=
  let c11:Bool:=l !=(0:Int);let c8:Int:=(↑m:Int)+1;let c7:AV:=int i64 (↑m:Int);let c6:Int:=(2:Int)^63;let c5:Int:=(↑i:Int);let c3:AV:=ak 3 a.fst fun i=>rat (a.snd i) af;let c10:Int:=c5+1;let c9:Int:=bL (a.snd c5.toNat);let c4:List AV:=[int i64 c9,int i64 c10];let c2:List Prop:=[-c6<=c10/\c10<c6];let c1:ag (List AV×aE):=aj [-c6<=c8/\c8<c6] (aj c2 (leaf normal (c3::int i64 c8::c4,[])));some (fork (decide (c5<(↑a.fst:Int))) (aj [(0:Int)<=c5/\c5.toNat<a.fst,af<2^41] (fork (c9==0) (aj c2 (leaf normal ([c3,c7,int i64 l,int i64 c10],[]))) (fork c11 (aj [c11=true] (fork (bif true then c9 !=l else false) c1 (aj c2 (leaf normal (c3::c7::c4,[]))))) (aj [c11=false] (fork false c1 (aj c2 (leaf normal (c3::c7::c4,[])))))))) (leaf (exit 0) ([c3,c7,int i64 l,int i64 c5],[]))):=ah
theorem ae6 {a:PP} {m i:Nat} {l:Int}:cQ T mA [] 60 f161 [part xP [1,1,1]] ⟨aC vT (ye a m l i),[],0⟩=
  some (leaf ret [int i64 (↑m:Int)]):=ah
theorem aae {n:Nat} {c:Nat->PP} {t:Rat}:aI T CD [] 60 ya (before Ac [1,1,0,1]) ⟨aU 0 [eO n c,.rat t af],[],0⟩=
  some (leaf normal ([ak 1 n fun i=>ak 3 (c i).fst fun i_1=>rat ((c i).snd i_1) af,ptr 0 0 (de (rat t af)).size 0 [],nil,int i64 0],[(0,au.mk false true (de (rat t af)).size 1 fun x=>rat t af)])):=ah
theorem ab1 {n i:Nat} {c:Nat->PP} {t:Rat} {x:Nat->Rat}:aI T CD [10] 60 ya [part Ac [1,1,0,1,0,0]] ⟨aC ya (D0 n c i),[(0,tR t af),(1,cC i x af)],2⟩=
  let c5:AV:=ptr 0 0 3 0 [];let c3:Nat×au:=((0:Nat),gA fun x=>rat t af);let c2:AV:=ak 1 n fun i=>ak 3 (c i).fst fun i_1=>rat ((c i).snd i_1) af;let c1:Int:=(↑i:Int);let c7:Int:=c1+1;let c6:PP:=c c1.toNat;let c4:Nat×(Nat->Rat):=(c6.fst,fun i=>aM (rat (c6.snd i) af));some (fork (decide (c1<(↑n:Int))) (aj [(0:Int)<=c1/\c1.toNat<n,(0:Nat)<1,cP (fun i=>rat (c6.snd i) af) c6.fst af,af<=af,c6.fst<2^40,gb c4 t,(1:Nat)*3<=2^24,(i+1)*((56:Nat)+1)*2<=2^47] (aj [-(2:Int)^63<=c7/\c7<2^63] (leaf normal ([c2,c5,own 49154 3 0 (i+1),int i64 c7],[(49154,au.mk true true 3 (i+1) fun i_1=>if i_1<i then rat (x i_1) af else nth [rat (cr c4 t) af] (rat 0 1) (i_1-i+0)),c3])))) (leaf (exit 0) ([c2,c5,own 1 3 0 i,int i64 c1],[(1,au.mk true true 3 i fun i=>rat (x i) af),c3]))):=ah
theorem agh {n i:Nat} {c:Nat->PP} {t:Rat} {x:Nat->Rat}:cQ T CD [] 60 f124 [part Ac [1,1,1]] ⟨aC ya (D0 n c i),[(0,tR t af),(1,cC i x af)],2⟩=
  some (aj [cP (fun i=>rat (x (i+0)) af) i af,i<2^40] (leaf ret [int i64 (↑(bX (gV (i,fun i=>aM (rat (x (i+0)) af))) i).snd:Int)])):=ah
theorem T0 {n:Nat} {c:Nat->PP} {x y:Rat}:b9 T Qd [21] 60 f62 (aH f62) ⟨aU 0 [eO n c,.rat x af,.rat y af],[],0⟩=
  let c7:Prop:=n<2^30;let c4:Prop:=0<1;let c3:Int:=(2:Int)^63;let c2:PP:=c (Int.toNat (0:Int));let c1:Int:=(↑(bX (cX (fun i=>bu (aA (c i))) x) n).snd:Int)-(↑(bX (cX (fun i=>bu (aA (c i))) y) n).snd:Int);let c6:Int:=c1-1;let c5:Nat×(Nat->Rat):=(c2.fst,fun i=>aM (rat (c2.snd i) af));some (aj [c4,∀(i:Nat),i<n->aW (aA (c i)) (aA (bu (aA (c i)))),af<=af,c7,cq n (fun i=>bu (aA (c i))) x,c4,∀(i:Nat),i<n->aW (aA (c i)) (aA (bu (aA (c i)))),af<=af,c7,cq n (fun i=>bu (aA (c i))) y,-c3<=c1/\c1<c3] (aj [(0:Int)<=0/\Int.toNat (0:Int)<n,c4,cP (fun i=>rat (c2.snd i) af) c2.fst af,af<=af,c2.fst<2^40,gb c5 y,af<2^41] (fork (bL (cr c5 y)==0) (aj [-c3<=c6/\c6<c3] (leaf ret [int i64 c6])) (leaf ret [int i64 c1])))):=ah
theorem Ji {a:PP} {t:Rat} (hn:a.1<2^40) (hz:gb a t) (K:Nat):aQ P 76 K [aA a,.rat t af] [] (aL (.rat (cr a t) af) []):=by
 have hW:=cF
 refine jc (r:=aL (.rat (cr a t) af) []) hT xb hm RJ rfl aX rfl [1,1,0,1] (i:=0) (y:=part AB [1,1,0,1,0,0]) (z:=part AB [1,1,1]) ah ah ah (f1:=[]) (f2:=[11]) (f3:=[]) 60 xY 3
  (fun i:Nat=>Eb a i) (fun i=>rG t (fP a.1 a.2 t i)) (fun i=>i<=a.1) (fun i=>i=a.1) (fun i=>a.1-i) (fun _=>⟨⟨_,X7,?_⟩,fun i hi=>⟨_,UN,?_⟩,fun i hi=>⟨_,Uu,?_⟩⟩) K []
 ·simp only[ag.all,az]
  exact⟨aa,0,Nat.zero_le _,[(0,0),(1,4096),(2,8192)],rfl,by rw[show(a.1:Int)-1=(a.1:Int)-1-((0:Nat):Int) by omega];rfl,rfl,kg rfl rfl (.inr ⟨rfl,dy rfl aa⟩) (cG (cG trivial))⟩
 ·simp only[ag.all,az,bB,bD]
  refine⟨fun h=>?_,fun h=>⟨rfl,i,aa,[(0,0),(1,1),(2,2)],rfl,rfl,rfl,cG (cG (cG trivial))⟩⟩
  rw[show((a.1:Int)-1-(i:Int)).toNat=a.1-1-i by omega]
  exact⟨aa,aa,i+1,aa,by dsimp only;omega,[(0,0),(1,1),(2,2)],rfl,by rw[show(a.1:Int)-1-(i:Int)-1=(a.1:Int)-1-((i+1:Nat):Int) by omega];rfl,rfl,kg rfl rfl (.inr ⟨rfl,ej rfl (hz (i+1) aa)⟩) (cG (cG trivial))⟩
 ·subst hi
  simp only[ag.all,az]
  exact⟨⟨aa,aa⟩,aa,.refl _⟩
theorem wI:aY P mB 76:=cO fun⟨a,t,_⟩ K hn=>Ji hn.1 hn.2 K
theorem NY {a:PP} (i:Nat):-1<=gV a i/\gV a i<=1:=Rm _
theorem ahx {a:PP} (hn:a.1<2^40) (K:Nat):aQ P 161 K [aA a] [] (aL (.int .i64 ((bX (gV a) a.1).2:Nat)) []):=by
 have hW:=cF
 refine jc (r:=aL (.int .i64 ((bX (gV a) a.1).2:Nat)) []) hT xb hm RX rfl aX rfl [1,1,0,1] (i:=0) (y:=part xP [1,1,0,1,0,0]) (z:=part xP [1,1,1]) ah ah ah (f1:=[]) (f2:=[10,19,22,26]) (f3:=[]) 60 vT 0
  (fun i:Nat=>ye a (bX (gV a) i).2 (bX (gV a) i).1 i) (fun _=>[]) (fun i=>i<=a.1) (fun i=>i=a.1) (fun i=>a.1-i) (fun _=>⟨⟨_,aeZ,?_⟩,fun i hi=>⟨_,YA,?_⟩,fun i hi=>⟨_,ae6,?_⟩⟩) K []
 ·simp only[ag.all]
  exact⟨0,Nat.zero_le _,dS.vals rfl⟩
 ·obtain⟨h1,h2⟩:=uh (s:=gV a) NY i
  have h3:=NY (a:=a) i
  have e2:(bX (gV a) (i+1)).1=if gV a i=0 then(bX (gV a) i).1 else gV a i:=rfl
  have e3:(bX (gV a) (i+1)).2=if gV a i*(bX (gV a) i).1<0 then(bX (gV a) i).2+1 else(bX (gV a) i).2:=rfl
  have re:∀{l:Int} {m:Int},l=(bX (gV a) (i+1)).1->m=((bX (gV a) (i+1)).2:Nat)->dS [] ([aA a,.int .i64 m,.int .i64 l,.int .i64 ((i:Int)+1)],[]) (ye a (bX (gV a) (i+1)).2 (bX (gV a) (i+1)).1 (i+1)) [] 0:=fun {l m} hl hm=>by
   subst hl hm
   rw[show(i:Int)+1=((i+1:Nat):Int) by omega]
   exact dS.vals rfl
  have e4:bL (a.2 i)=gV a i:=rfl
  have hneg:∀{x y:Int},(-1<=x/\x<=1)->(-1<=y/\y<=1)->x≠0->(x*y<0↔y≠0/\x≠y):=fun {x y} hx hy h0=>by
   rcases(show x=-1\/x=1 by omega)with rfl|rfl<;>omega
  simp only[ag.all,az,bB,bD,bJ,bne_iff_ne,ne_eq,bne_eq_false_iff_eq,beq_iff_eq,beq_eq_false_iff_ne,cond_true,cond_false,e4]
  have nx:∀{l:Int} {m:Int},(i:Int)<a.1->l=(bX (gV a) (i+1)).1->m=((bX (gV a) (i+1)).2:Nat)->Round [] (fun i:Nat=>ye a (bX (gV a) i).2 (bX (gV a) i).1 i) (fun _=>[]) 0 (fun i=>i<=a.1) (fun i=>i=a.1) (fun i=>a.1-i) 0 (tT f161 vT (.int .i64 ((bX (gV a) a.1).2:Nat))) i .normal ([aA a,.int .i64 m,.int .i64 l,.int .i64 ((i:Int)+1)],[]):=fun {l m} h hl hm=>⟨i+1,aa,by dsimp only;omega,re hl hm⟩
  refine⟨fun h=>⟨⟨aa,aa⟩,fun h0=>⟨aa,nx h (by rw[e2,if_pos h0]) (by rw[e3,if_neg (by rw[h0,Int.zero_mul];omega)])⟩,fun h0=>⟨fun h5=>⟨h5,fun h6=>⟨aa,aa,nx h (by rw[e2,if_neg h0]) (by rw[e3,if_pos ((hneg h3 h1 h0).2 ⟨h5,h6⟩)];omega)⟩,fun h6=>⟨aa,nx h (by rw[e2,if_neg h0]) (by rw[e3,if_neg fun h7=>((hneg h3 h1 h0).1 h7).2 h6])⟩⟩,fun h5=>⟨h5,fun hf=>absurd hf (by decide),fun _=>⟨aa,nx h (by rw[e2,if_neg h0]) (by rw[e3,if_neg fun h7=>((hneg h3 h1 h0).1 h7).1 h5])⟩⟩⟩⟩,fun h=>⟨rfl,i,aa,dS.vals rfl⟩⟩
 ·subst hi;exact .refl _
theorem aij:aY P NF 161:=cO fun⟨a,_⟩ K hn=>ahx hn K
theorem aj1:bR P CD:=gY (aJ wI (aJ aij gM))
theorem RM {n:Nat} {c:Nat->PP} {t:Rat} (hn:n<2^30) (hz:cq n c t) (K:Nat):aQ P 124 K [eO n c,.rat t af] [] (aL (.int .i64 ((bX (cX c t) n).2:Nat)) []):=by
 have hW:=cF
 refine jc (r:=aL (.int .i64 ((bX (cX c t) n).2:Nat)) []) hT aj1 hm ahc rfl aX rfl [1,1,0,1] (i:=0) (y:=part Ac [1,1,0,1,0,0]) (z:=part Ac [1,1,1]) ah ah ah (f1:=[]) (f2:=[10]) (f3:=[]) 60 ya 2
  (fun i:Nat=>D0 n c i) (fun i=>[(0,tR t af),(1,cC i (fun j=>cr (c j) t) af)]) (fun i=>i<=n) (fun i=>i=n) (fun i=>n-i) (fun _=>⟨⟨_,aae,?_⟩,fun i hi=>⟨_,ab1,?_⟩,fun i hi=>⟨_,agh,?_⟩⟩) K []
 ·simp only[ag.all]
  exact⟨0,Nat.zero_le _,[(0,0)],rfl,rfl,rfl,cG (kZ rfl aa aa trivial)⟩
 ·simp only[ag.all,az,bB,bD,bJ]
  refine⟨fun h=>⟨⟨aa,aa,ek aT,aT,(hz i aa).1,(hz i aa).2,aa,aa⟩,aa,i+1,aa,by dsimp only;omega,[(0,0),(1,49154)],rfl,by rw[show(i:Int)+1=((i+1:Nat):Int) by omega];rfl,rfl,cG (br rfl rfl rfl (fun j hj=>?_) trivial)⟩,fun h=>⟨rfl,i,aa,[(0,0),(1,1)],rfl,rfl,rfl,cG (br rfl rfl rfl (fun j hj=>bN rfl rfl) trivial)⟩⟩
  by_cases h2:j<i
  ·rw[if_pos h2];exact bN rfl rfl
  ·rw[if_neg h2,show j-i+0=0 by omega,show j=i by omega];exact bN rfl rfl
 ·subst hi
  simp only[ag.all,az]
  exact⟨⟨ek aT,aa⟩,.refl _⟩
theorem Uh:aY P O9 124:=cO fun⟨⟨n,c⟩,t,_⟩ K hn=>RM hn.1 hn.2 K
theorem aip:bR P Qd:=gi (aJ Uh (aJ wI gM))
theorem ahu {n:Nat} {c:Nat->PP} {x y:Rat} (h0:0<n) (hn:n<2^30) (hxy:x<y) (hx:cq n c x) (hy:cq n c y) (K:Nat):aQ P 62 K [eO n c,.rat x af,.rat y af] [] (aL (.int .i64 (dG n c x y)) []):=by
 have hW:=cF
 refine ck hT aip hm aiV rfl aX rfl 60 T0 (fun _=>?_) K []
 have hbx:=(uh (s:=cX c x) we n).2
 have hby:=(uh (s:=cX c y) we n).2
 have h:¬x>=y:=Rat.not_le.2 hxy
 simp only[ag.all,az,bB,bD,od]
 show(_/\(∀i,i<n->aW (aA (c i)) (aA (c i)))/\_/\_/\cq n c x/\_/\_/\_/\_/\cq n c y/\(-2^63<=((bX (cX c x) n).2:Int)-((bX (cX c y) n).2:Int)/\((bX (cX c x) n).2:Int)-((bX (cX c y) n).2:Int)<2^63))/\(_/\_/\_/\_/\_/\gb (c 0) y/\_)/\(cr (c 0) y=0->_)/\(¬cr (c 0) y=0->_)
 refine⟨⟨aa,fun i _=>.refl _,aT,hn,hx,aa,fun i _=>.refl _,aT,hn,hy,aa⟩,⟨aa,aa,ek aT,aT,(hy 0 h0).1,(hy 0 h0).2,aa⟩,fun h2=>⟨?_,?_⟩,fun h2=>?_⟩
 ·show-2^63<=((bX (cX c x) n).2:Int)-((bX (cX c y) n).2:Int)-1/\((bX (cX c x) n).2:Int)-((bX (cX c y) n).2:Int)-1<2^63
  omega
 ·exact cw (by unfold dG;rw[if_neg h,if_pos h2];rfl)
 ·exact cw (by unfold dG;rw[if_neg h,if_neg h2,Int.sub_zero];rfl)
def x6:Spec:=dD (kC mG (kC (eU af) (kC (eU af) kN))) (fun a=>.int .i64 (dG a.1.1 a.1.2 a.2.1 a.2.2.1)) fun a=>[0<a.1.1,a.1.1<2^30,a.2.1<a.2.2.1,cq a.1.1 a.1.2 a.2.1,cq a.1.1 a.1.2 a.2.2.1]
theorem Bf:aY P x6 62:=cO fun⟨⟨n,c⟩,x,y,_⟩ K hn=>ahu hn.1 hn.2.1 hn.2.2.1 hn.2.2.2.1 hn.2.2.2.2 K
def adv:Spec:=dD (kC (kL af) kN) (fun a=>eO (bA a.1) (bh a.1)) fun a=>[lM a.1]
theorem akf:aY P adv 63:=cO fun⟨a,_⟩ K hn=>Wp hn K
def R8 (p:PP) (a b:Rat):Prop:=kD p/\((aF p).1≠0->lM (aF p)/\bA (aF p)<2^30/\cq (bA (aF p)) (bh (aF p)) a/\cq (bA (aF p)) (bh (aF p)) b)
theorem EK {u v:AV} (h:aW u v):aW (.b7 u) (.b7 v):=by
 refine⟨rfl,fun M w cs hc=>?_⟩
 cases hc with
 |b7 h1 h2 h3=>cases h3;exact .b7 (h.2 _ _ _ h1) h2 .nil
theorem Ug {f:FuncId} {us vs:List AV} (h:ir us vs) (hv:(vs.all fun v=>!v.isAgg&&!v.isTuple)=true):aW (.func f us) (.func f vs):=by
 refine⟨rfl,fun M w cs hc=>?_⟩
 cases hc with
 |func h1 h2 h3=>cases h3;exact .func (HW h h1) hv .nil
def kRf {α:Type} (k:Kind α):Kind α:=⟨fun v=>match v with
 |.b7 v=>k.read v
 |_=>none,fun a=>.b7 (k.make a),fun {v a q} h hq=>by
  split at h
  ·exact EK (k.ok h hq)
  ·simp at h⟩
abbrev dA (a b:Rat) (n:Nat):AV:=.agg [.rat a n,.rat b n]
def p8 (s:Nat):Kind (Rat×Rat):=⟨fun v=>match v with
 |.agg [x,y]=>some ((aM x,aM y),[aW x (.rat (aM x) s),aW y (.rat (aM y) s)])
 |_=>none,fun a=>dA a.1 a.2 s,fun {v a q} h hq=>by
  split at h
  ·simp only[ay,Prod.mk.injEq]at h
   obtain⟨rfl,rfl⟩:=h
   exact mh ⟨hq.1,hq.2,trivial⟩
  ·simp at h⟩
def kHf:Kind Unit:=⟨fun v=>match v with
 |.agg [.bool false,.ak 1 1 f,.ak 1 1 g]=>some ((),[f 0=.int .u32 1,g 0=.int .u32 2])
 |_=>none,fun _=>.rat (1/2) 3,fun {v a q} h hq=>by
  split at h
  ·simp only[ay,Prod.mk.injEq]at h
   obtain⟨_,rfl⟩:=h
   refine aW.trans (mh (vs:=[.bool false,.mag 1,.mag 2]) ⟨.refl _,lT (N:=1) (by decide) (fun i hi=>by obtain rfl:i=0:=aa;exact hq.1),lT (N:=2) (by decide) (fun i hi=>by obtain rfl:i=0:=aa;exact hq.2),trivial⟩) (ug (b:=false) (x:=1) (y:=2) (q:=1/2) ⟨by decide+kernel,by decide+kernel⟩ (by decide+kernel) (by decide+kernel) (by decide+kernel))
  ·simp at h⟩
def Lh:Spec:=dD (kC kR (kC kHf kN)) (fun a=>.rat (a.1.1*(1/2)) (a.1.2+3)) fun a=>[a.1.2<2^42]
def I5:Spec:=dD (kC (eU af) (kC (eU af) kN)) (fun a=>.rat (eJ a.1 a.2.1) af) fun _=>[]
def OY:Spec:=dD (kC (eU af) (kC (eU af) kN)) (fun a=>.rat (eI a.1 a.2.1) af) fun _=>[]
def Ls:bk:=nG::(130,I5)::(131,OY)::gL
def NQ:bk:=nG::(129,Lh)::(132,FJ T [sG] [] 20 f132)::gL
def aV (a b:Rat):Rat:=(a+b)*(1/2)
def Ak:Spec:=dD (kC (eU af) (kC (eU af) kN)) (fun a=>dA (eJ a.1 a.2.1) (eI a.1 a.2.1) af) fun _=>[]
def Rf:bk:=nG::(68,Ak)::gL
def Nn:bk:=zG::(66,mB)::gL
def NI:bk:=nG::(66,mB)::(60,vI)::gL
theorem ZI:bf 69 f69:=bg func69
theorem SP:bf 132 f132:=bg func132
theorem Tx:bf 68 f68:=bg func68
theorem aiH:bf 70 f70:=bg func70
theorem ajR:bf 74 f74:=bg func74
theorem TA:bf 64 f64:=bg func64
theorem XJ {x y:Rat}:b9 T Ls [] 60 f68 (aH f68) ⟨aU 0 [.rat x af,.rat y af],[],0⟩=
  let c1:Prop:=0<1;some (aj [c1,c1,af<=af,af<=af,c1,c1,af<=af,af<=af,c1] (aj [c1] (leaf ret [agg [rat (eJ x y) af,rat (eI x y) af]]))):=ah
theorem ajc {x y:Rat}:b9 T NQ [] 60 f69 (aH f69) ⟨aU 0 [.rat x af,.rat y af],[],0⟩=
  let c2:Nat:=2^42;let c1:Prop:=0<1;some (aj [c1,c1,af<c2,af<c2,(1:Nat)*1<=2^24,nth [int u32 (1:Int)] (int u32 (0:Int)) ((0:Nat)+0)=int u32 (1:Int),nth [int u32 (2:Int)] (int u32 (0:Int)) ((0:Nat)+0)=int u32 (2:Int),af+af+1<c2,c1] (aj [c1] (leaf ret [rat ((x+y)*(1/2:Rat)) (af+af+1+3)]))):=ah
theorem aat {x:Rat}:b9 T Rf [] 60 f70 (aH f70) ⟨aU 0 [.rat x af],[],0⟩=
  let c1:Prop:=0<1;some (aj [c1,c1,af<=af,af<=af,c1] (aj [c1] (leaf ret [agg [rat (eJ x x) af,rat (eI x x) af]]))):=ah
theorem afc {n:Nat} {c:Nat->PP} {x:Rat}:b9 T Nn [] 60 f64 (aH f64) ⟨aU 0 [.rat x af,.b7 (eO n c)],[],0⟩=
  let c1:PP:=c (Int.toNat (0:Int));let c2:Nat×(Nat->Rat):=(c1.fst,fun i=>aM (rat (c1.snd i) af));some (aj [(0:Int)<=0/\Int.toNat (0:Int)<n,(0:Nat)<1,cP (fun i=>rat (c1.snd i) af) c1.fst af,af<=af,c1.fst<2^40,gb c2 x,af<2^42] (leaf ret [AV.bool (bL (cr c2 x)==0)])):=ah
theorem ajW {n:Nat} {c:Nat->PP} {x y:Rat}:b9 T NI [9] 60 f74 (aH f74) ⟨aU 0 [eO n c,dA x y af],[],0⟩=
  let c4:Int:=dG n (fun i=>bu (aA (c i))) x y;let c3:Prop:=af<2^42;let c2:Prop:=0<1;let c1:PP:=c (Int.toNat (0:Int));let c5:Nat×(Nat->Rat):=(c1.fst,fun i=>aM (rat (c1.snd i) af));some (aj [c2,c2,c3,c3] (fork (decide (x=y)) (aj [(0:Int)<=0/\Int.toNat (0:Int)<n,c2,cP (fun i=>rat (c1.snd i) af) c1.fst af,af<=af,c1.fst<2^40,gb c5 x,c3] (leaf ret [AV.bool (bL (cr c5 x)==0)])) (aj [c2,c2,∀(i:Nat),i<n->aW (aA (c i)) (aA (bu (aA (c i)))),af<=af,af<=af,(0:Nat)<n,n<2^40,cq n (fun i=>bu (aA (c i))) x,cq n (fun i=>bu (aA (c i))) y] (leaf ret [AV.bool (decide (c4>0))])))):=ah
theorem Ud:aY P I5 130:=cO fun⟨x,y,_⟩ K _=>by
 have hW:=cF
 have:=XE (q:=x) (r:=y) (n:=af) (m:=af) aa aa K
 rw[Nat.max_self]at this;exact this
theorem Uc:aY P OY 131:=cO fun⟨x,y,_⟩ K _=>by
 have hW:=cF
 have:=ajY (q:=x) (r:=y) (n:=af) (m:=af) aa aa K
 rw[Nat.max_self]at this;exact this
theorem Tb:aY P Lh 129:=cO fun⟨x,_,_⟩ K hn=>Jt hn aa K
theorem ajG:bR P Ls:=gi (aJ Ud (aJ Uc gQ))
theorem ab3:bR P NQ:=gi (aJ Tb (aJ (Q1 hT (BT cz) hm SP _ _) gQ))
theorem adr {x y:Rat} (K:Nat):aQ P 68 K [.rat x af,.rat y af] [] (aL (dA (eJ x y) (eI x y) af) []):=by
 refine ck hT ajG hm Tx rfl aX rfl 60 XJ (fun _=>?_) K []
 simp only[ag.all,az]
 exact⟨⟨aa,aa,aa,aa,aa,aa,aa,aa,aa⟩,aa,.refl _⟩
theorem CB:aY P Ak 68:=cO fun⟨x,y,_⟩ K _=>adr K
theorem XQ:bR P Rf:=gi (aJ CB gQ)
def CM:Spec:=dD (kC (eU af) kN) (fun a=>dA a.1 a.1 af) fun _=>[]
theorem aaV (x:Rat):eJ x x=x:=by unfold eJ;split<;>rfl
theorem UW (x:Rat):eI x x=x:=by unfold eI;split<;>rfl
theorem IG:aY P CM 70:=cO fun⟨x,_⟩ K _=>by
 refine ck hT XQ hm aiH rfl aX rfl 60 aat (fun _=>?_) K []
 simp only[ag.all,az,aaV,UW]
 exact⟨⟨aa,aa,aa,aa,aa⟩,aa,.refl _⟩
def H6:Spec:=dD (kC (eU af) (kC (eU af) kN)) (fun a=>.rat (aV a.1 a.2.1) af) fun a=>[Sz (aV a.1 a.2.1) af]
theorem MJ:aY P H6 69:=cO fun⟨x,y,_⟩ K hn=>by
 have hW:=cF
 refine ck hT ab3 hm ZI rfl aX rfl 60 ajc (fun _=>?_) K []
 simp only[ag.all,az]
 exact⟨⟨aa,aa,aa,aa,aa,rfl,rfl,aa,aa⟩,aa,ej rfl hn⟩
def GY:Spec:=dD (kC (eU af) (kC (kRf mG) kN)) (fun a=>.bool (decide (cr (a.2.1.2 0) a.1=0))) fun a=>[0<a.2.1.1,cq a.2.1.1 a.2.1.2 a.1]
theorem ah4:bR P Nn:=gY (aJ xh gQ)
theorem Py:aY P GY 64:=cO fun⟨x,⟨n,c⟩,_⟩ K hn=>by
 have hW:=cF
 refine ck hT ah4 hm TA rfl aX rfl 60 afc (fun _=>?_) K []
 obtain⟨h1,h2⟩:=hn.2 0 hn.1
 simp only[ag.all,az]
 exact⟨⟨⟨aa,hn.1⟩,aa,ek aT,aT,h1,h2,aa⟩,fk (by simp only[od];rfl)⟩
theorem akh:bR P NI:=gi (aJ xh (aJ xx gQ))
def qn (n:Nat) (c:Nat->PP) (x y:Rat):Bool:=if x=y then decide (cr (c 0) x=0)else decide (0<dG n c x y)
def Gf:Spec:=dD (kC mG (kC (p8 af) kN)) (fun a=>.bool (qn a.1.1 a.1.2 a.2.1.1 a.2.1.2)) fun a=>[0<a.1.1,a.1.1<2^40,cq a.1.1 a.1.2 a.2.1.1,cq a.1.1 a.1.2 a.2.1.2]
theorem OJ:aY P Gf 74:=cO fun⟨⟨n,c⟩,⟨x,y⟩,_⟩ K hn=>by
 have hW:=cF
 refine ck hT akh hm ajR rfl aX rfl 60 ajW (fun _=>?_) K []
 obtain⟨g1,g2,g3,g4⟩:=hn
 obtain⟨h1,h2⟩:=g3 0 g1
 simp only[ag.all,az,bB,bD]
 refine⟨⟨aa,aa,aa,aa⟩,fun h=>⟨⟨⟨aa,g1⟩,aa,ek aT,aT,h1,h2,aa⟩,?_⟩,fun h=>⟨⟨aa,aa,fun i _=>.refl _,aT,aT,g1,g2,g3,g4⟩,?_⟩⟩
 ·exact fk (by unfold qn;rw[if_pos h];simp only[od];rfl)
 ·exact fk (by unfold qn;rw[if_neg h];rfl)
def bG (n:Nat) (c:Nat->PP):Nat->Rat->Rat->List (Rat×Rat)
 |0,_,_=>[]
 |d+1,x,y=>if dG n c x y=0 then []else if dG n c x y=1 then [(eJ x y,eI x y)]else
  bG n c d x (aV x y)++(if cr (c 0) (aV x y)=0 then(aV x y,aV x y)::bG n c d (aV x y) y else bG n c d (aV x y) y)
def jO (n:Nat) (c:Nat->PP):Nat->Rat->Rat->Prop
 |0,_,_=>False
 |d+1,x,y=>cq n c x/\cq n c y/\(dG n c x y≠0->dG n c x y≠1->Sz (aV x y) af/\jO n c d x (aV x y)/\jO n c d (aV x y) y)
def mF:AV->Rat×Rat
 |.agg [x,y]=>(aM x,aM y)
 |_=>(0,0)
def jF (f:Nat->AV) (m:Nat):List (Rat×Rat):=(List.range m).map fun i=>mF (f i)
def cj (l:List (Rat×Rat)) (i:Nat):Rat×Rat:=l.getD i (0,0)
abbrev cy (l:List (Rat×Rat)) (i:Nat):AV:=dA (cj l i).1 (cj l i).2 af
abbrev nC (l:List (Rat×Rat)):au:=⟨true,true,6,l.length,cy l⟩
abbrev s4:FuncId:=64
abbrev nq:FuncId:=67
abbrev BA (n:Nat) (c:Nat->PP):AV:=.func s4 [.b7 (eO n c)]
abbrev OU (n:Nat) (c:Nat->PP) (kf kl:Nat):AV:=.func nq [.b7 (eO n c),.ptr kf 0 1 0 [],.ptr kl 0 1 0 [],.b7 (BA n c)]
abbrev wh (k m:Nat):au:=⟨false,true,1,1,fun _=>.own k 6 0 m⟩
abbrev sF (n:Nat) (c:Nat->PP) (kf kl:Nat):au:=⟨false,true,1,1,fun _=>OU n c kf kl⟩
abbrev gone:au:=⟨true,false,0,0,fun _=>.nil⟩
def isVar (o:au):Bool:=!o.row&&o.wr&&o.es==1&&o.len==1
def Hx (st:aE) (k:Nat):Option (Nat×Nat×(Nat->AV)×Nat):=match look k st with
 |some o=>if isVar o then match o.f 0 with
  |.own k0 6 0 m=>match look k0 st with
   |some r=>if r.row&&r.wr&&r.es==6&&k0 !=k then some (k0,m,r.f,r.len)else none
   |none=>none
  |_=>none else none
 |none=>none
def Ec (st:aE) (kf kl:Nat):Option (AV×AV):=match look kl st with
 |some o=>if isVar o then match o.f 0 with
  |.func g [.b7 ch,.ptr kf' 0 1 0 [],.ptr kl' 0 1 0 [],.b7 is]=>if g==nq&&kf'==kf&&kl'==kl&&kl !=kf then some (ch,is)else none
  |_=>none else none
 |none=>none
def A3:AV->Option AV
 |.func g [.b7 ch]=>if g==s4 then some ch else none
 |_=>none
def qR (d:Nat):Spec:=fun K args st=>match args with
 |[x,y,.b7 ch,.ptr kf 0 1 0 [],.ptr kl 0 1 0 [],.b7 is]=>match(eU af).read x,(eU af).read y,mG.read ch,A3 is with
  |some (x,q1),some (y,q2),some ((n,c),q3),some ch1=>match Hx st kf,Ec st kf kl with
   |some (k0,m,f,len),some (ch2,is2)=>match A3 is2 with
    |some ch3=>if k0 !=kl&&Nat.blt kf K&&Nat.blt kl K&&Nat.blt k0 K then
      some ⟨.tuple [],[(kf,wh K (jF f m++bG n c d x y).length),(kl,sF n c kf kl),(K,nC (jF f m++bG n c d x y)),(k0,gone)],
       [az q1,az q2,az q3,aW ch1 (eO n c),aW ch2 (eO n c),aW ch3 (eO n c),m=len,∀i,i<m->keys (f i)=[]/\aW (f i) (dA (mF (f i)).1 (mF (f i)).2 af),0<n,n<2^40,jO n c d x y,m+(bG n c d x y).length<2^30]⟩else none
    |none=>none
   |_,_=>none
  |_,_,_,_=>none
 |_=>none
def JJ (d:Nat):bk:=nG::(60,vI)::(68,Ak)::(70,CM)::(69,H6)::(s4,GY)::(nq,qR d)::gL
abbrev O8:Code:=aH f67
abbrev Ii (n:Nat) (c:Nat->PP) (x y:Rat):List AV:=[.rat x af,.rat y af,.b7 (eO n c),.ptr 0 0 1 0 [],.ptr 1 0 1 0 [],.b7 (BA n c)]
abbrev Me (n:Nat) (c:Nat->PP) (l:List (Rat×Rat)):aE:=[(0,wh 2 l.length),(1,sF n c 0 1),(2,nC l)]
theorem KN:bf nq f67:=bg func67
theorem acD {d n:Nat} {c:Nat->PP} {x y:Rat} {l:List (Rat×Rat)}:aI T (JJ d) [32,34,22] 60 [3,4] [O8] ⟨aU 0 (Ii n c x y),Me n c l,3⟩=
  let c31:AV:=eO n fun i=>bu (aA (c i));let c29:Int:=dG n (fun i=>bu (aA (c i))) x y;let c26:Nat:=2^30;let c25:Prop:=0<n;let c24:Prop:=1*6<=2^24;let c21:Rat:=aV x y;let c19:Nat:=l.length;let c18:AV:=rat 0 1;let c17:Prop:=n<2^40;let c16:Prop:=af<=af;let c14:AV:=ptr 0 0 1 0 [];let c13:AV:=ptr 1 0 1 0 [];let c11:Prop:=az [∀(i:Nat),i<n->aW (aA (bu (aA (c i)))) (aA (bu (aA (bu (aA (c i))))))];let c10:AV:=(ak 1 n fun i=>ak 3 (c i).fst fun i_1=>rat ((c i).snd i_1) af).b7;let c9:AV:=(ak 1 n fun i=>ak 3 (c i).fst fun i_1=>rat (aM (rat (aM (rat ((c i).snd i_1) af)) af)) af).b7;let c6:Prop:=0<1;let c33:List (Rat×Rat):=bG n (fun i=>bu (aA (c i))) d x c21;let c32:Nat:=c19+1;let c30:Rat:=cr (bu (aA (c 0))) c21;let c28:Prop:=az [c16];let c27:AV:=own 2 6 0 c19;let c20:Prop:=jO n (fun i=>bu (aA (bu (aA (c i))))) d c21 y;let c12:Prop:=aW (eO n c) c31;let c8:List AV:=[c14,c13];let c7:List (Rat×Rat):=bG n (fun i=>bu (aA (bu (aA (c i))))) d c21 y;let c5:Prop:=aW c31 (eO n fun i=>bu (aA (bu (aA (c i)))));let c4:Nat×au:=(1,au.mk false true 1 1 fun x=>func 67 [c10,c14,c13,(func 64 [c10]).b7]);let c3:Nat×au:=(1,au.mk false true 1 1 fun x=>func 67 [c9,c14,c13,(func 64 [c9]).b7]);let c1:List (Rat×Rat):=jF (cy l) c19++c33;let c15:Nat:=c1.length;let c23:List (Rat×Rat):=jF (cy c1) c15++c7;let c22:Nat:=c15+1;let c2:List (Rat×Rat):=jF (fun i=>if i<c15 then cy c1 i else nth [agg [rat c21 af,rat c21 af]] (agg [c18,c18]) (i-c15+0)) c22++c7;some (aj [c6,c6,∀(i:Nat),i<n->aW (aA (c i)) (aA (bu (aA (c i)))),c16,c16,c25,c17,cq n (fun i=>bu (aA (c i))) x,cq n (fun i=>bu (aA (c i))) y] (fork (c29==0) (leaf normal (c8,[c4,(0,au.mk false true 1 1 fun x=>c27),(2,au.mk true true 6 c19 fun i=>agg [rat (cj l i).fst af,rat (cj l i).snd af])])) (fork (c29==1) (aj [c6,c6,c6,c16,c16,c24,c32*((112:Nat)+1)*2<=2^47,c6] (leaf normal (c8,[c4,(0,au.mk false true 1 1 fun j=>if(j==0)=true then de (own (nat_lit 61442+1) 6 0 c32)else c27),(61443,au.mk true true 6 c32 fun i=>if i<c19 then cy l i else nth [agg [rat (eJ x y) af,rat (eI x y) af]] (agg [c18,c18]) (i-c19+0))]))) (aj [c6,c6,c16,c16,Sz c21 af,c6] (aj [c6,c6,c6,c28,c28,az [∀(i:Nat),i<n->aW (aA (c i)) (aA (bu (aA (c i))))],c12,c12,c12,c19=c19,∀(i:Nat),i<c19->(cy l i).keys=[]/\aW (cy l i) (dA (aM (rat (cj l i).fst af)) (aM (rat (cj l i).snd af)) af),c25,c17,jO n (fun i=>bu (aA (c i))) d x c21,c19+c33.length<c26] (aj [c6,c16,∀(i:Nat),i<n->aW (aA (c i)) (aA (bu (aA (c i)))),c25,cq n (fun i=>bu (aA (c i))) c21] (fork (decide (c30=0)) (aj [c6,c6,c16,c24,c22*((112:Nat)+1)*2<=2^47,c6] (aj [c6,c6,c6,c28,c28,c11,c5,c5,c5,c22=c22,∀(i:Nat),i<c22->(if i<c15 then cy c1 i else nth [agg [rat c21 af,rat c21 af]] (agg [c18,c18]) (i-c15+0)).keys=[]/\aW (if i<c15 then cy c1 i else nth [agg [rat c21 af,rat c21 af]] (agg [c18,c18]) (i-c15+0)) (dA (mF (if i<c15 then cy c1 i else nth [agg [rat c21 af,rat c21 af]] (agg [c18,c18]) (i-c15+0))).fst (mF (if i<c15 then cy c1 i else nth [agg [rat c21 af,rat c21 af]] (agg [c18,c18]) (i-c15+0))).snd af),c25,c17,c20,c22+c7.length<c26] (leaf normal (c8,[c3,(0,au.mk false true 1 1 fun x=>own 126979 6 0 c2.length),(126979,au.mk true true 6 c2.length fun i=>agg [rat (cj c2 i).fst af,rat (cj c2 i).snd af])])))) (aj [c6,c6,c6,c28,c28,c11,c5,c5,c5,c15=c15,∀(i:Nat),i<c15->(cy c1 i).keys=[]/\aW (cy c1 i) (dA (aM (rat (cj c1 i).fst af)) (aM (rat (cj c1 i).snd af)) af),c25,c17,c20,c15+c7.length<c26] (leaf normal (c8,[c3,(0,au.mk false true 1 1 fun x=>own 102403 6 0 c23.length),(102403,au.mk true true 6 c23.length fun i=>agg [rat (cj c23 i).fst af,rat (cj c23 i).snd af])])))))))))):=ah
theorem NJ {s:Nat} {v:AV} {x:Rat} {q:List Prop} (h:(eU s).read v=some (x,q)):v.isTuple=false:=by
 unfold eU at h
 dsimp only at h
 split at h
 ·rename_i h1
  unfold ov at h1
  split at h1
  ·rfl
  ·rfl
  ·simp at h1
 ·simp at h
theorem Ms {s:Nat} {v:AV} {x:Rat} {q:List Prop} (h:(eU s).read v=some (x,q)):keys v=[]:=by
 unfold eU at h
 dsimp only at h
 split at h
 ·rename_i h1
  unfold ov at h1
  split at h1
  ·rfl
  ·rfl
  ·simp at h1
 ·simp at h
theorem Pz {o:au} (h:isVar o=true):o=⟨false,true,1,1,o.f⟩:=by
 obtain⟨r,w,es,len,f⟩:=o
 unfold isVar at h
 simp only[Bool.and_eq_true,Bool.not_eq_true',beq_iff_eq]at h
 obtain⟨⟨⟨h1,h2⟩,h3⟩,h4⟩:=h
 subst h1 h2 h3 h4;rfl
theorem abh {st:aE} {k k0 m len:Nat} {f:Nat->AV} (h:Hx st k=some (k0,m,f,len)):∃g,look k st=some ⟨false,true,1,1,g⟩/\g 0=.own k0 6 0 m/\look k0 st=some ⟨true,true,6,len,f⟩/\k0≠k:=by
 unfold Hx at h
 split at h
 ·rename_i o ho
  split at h
  ·rename_i hv
   have hv:=Pz hv
   split at h
   ·rename_i k0' m' hf
    split at h
    ·rename_i r hr
     split at h
     ·rename_i hc
      simp only[Bool.and_eq_true,beq_iff_eq,bne_iff_ne,ne_eq]at hc
      obtain⟨⟨⟨c1,c2⟩,c3⟩,c4⟩:=hc
      simp only[ay,Prod.mk.injEq]at h
      obtain⟨rfl,rfl,rfl,rfl⟩:=h
      refine⟨o.f,by rw[ho,<-hv],hf,?_,c4⟩
      rw[hr]
      obtain⟨r1,r2,r3,r4,r5⟩:=r
      subst c1 c2 c3;rfl
     ·simp at h
    ·simp at h
   ·simp at h
  ·simp at h
 ·simp at h
theorem Wd {st:aE} {kf kl:Nat} {ch is:AV} (h:Ec st kf kl=some (ch,is)):∃g,look kl st=some ⟨false,true,1,1,g⟩/\g 0=.func nq [.b7 ch,.ptr kf 0 1 0 [],.ptr kl 0 1 0 [],.b7 is]/\kl≠kf:=by
 unfold Ec at h
 split at h
 ·rename_i o ho
  split at h
  ·rename_i hv
   have hv:=Pz hv
   split at h
   ·rename_i g' ch' kf' kl' is' hf
    split at h
    ·rename_i hc
     simp only[Bool.and_eq_true,beq_iff_eq,bne_iff_ne,ne_eq]at hc
     obtain⟨⟨⟨c1,c2⟩,c3⟩,c4⟩:=hc
     simp only[ay,Prod.mk.injEq]at h
     obtain⟨rfl,rfl⟩:=h
     subst c1 c2 c3
     exact⟨o.f,by rw[ho,<-hv],hf,c4⟩
    ·simp at h
   ·simp at h
  ·simp at h
 ·simp at h
theorem LX {v ch:AV} (h:A3 v=some ch):v=.func s4 [.b7 ch]:=by
 unfold A3 at h
 split at h
 ·split at h
  ·rename_i hc
   have:=eq_of_beq hc
   simp only[ay]at h
   subst h this;rfl
  ·simp at h
 ·simp at h
theorem zP {f:Nat->AV} {m:Nat}:(jF f m).length=m:=by simp[jF]
theorem ahn {f:Nat->AV} {m i:Nat} (h:i<m):cj (jF f m) i=mF (f i):=by
 unfold cj jF
 simp[List.getD,h]
theorem JD {f:Nat->AV} {m:Nat} {l:List (Rat×Rat)} (hl:l.length=m) (h:∀i,i<m->mF (f i)=cj l i):jF f m=l:=by
 apply List.ext_getElem
 ·rw[zP,hl]
 ·intro i h1 h2
  have:=h i (by rwa [zP]at h1)
  simp only[jF,List.getElem_map,List.getElem_range,this,cj]
  simp[List.getD,h2]
theorem Pm {l:List (Rat×Rat)}:jF (cy l) l.length=l:=JD rfl fun i _=>rfl
theorem tO {l l':List (Rat×Rat)} {i:Nat}:cj (l++l') i=if i<l.length then cj l i else cj l' (i-l.length):=by
 unfold cj
 simp only[List.getD,List.getElem?_append]
 split<;>rfl
theorem Cp {s':aN} {e:aq} {n:Nat} {c:Nat->PP} {kf kl K kx:Nat} {vs:List AV} {vf vl row:au} {L:List (Rat×Rat)} (he:e=.normal) (h1:kl≠kf) (g1:kf<K) (g2:kl<K) (hv:bE [3,4] s'=some (vs,[(1,vl),(0,vf),(kx,row)])) (hkx:2<=kx) (hl:vl=sF n c 0 1)
  (hf:vf=⟨false,true,1,1,vf.f⟩) (hf0:vf.f 0=.own kx 6 0 L.length) (hr:row=⟨true,true,6,L.length,row.f⟩) (hr0:∀i,i<L.length->row.f i=cy L i):
  (e=.normal\/e=.ret)/\∃ls vs os kx o1 o2 o3,bE ls s'=some (vs,os)/\2<=kx/\
   look 0 os=some o1/\dU (bp [(kf,0),(kl,1),(K,kx)]) o1 (wh K L.length)/\look 1 os=some o2/\dU (bp [(kf,0),(kl,1),(K,kx)]) o2 (sF n c kf kl)/\look kx os=some o3/\dU (bp [(kf,0),(kl,1),(K,kx)]) o3 (nC L):=by
 have n1:¬kf=K:=aa
 have n2:¬kl=K:=aa
 have n3:¬0=kx:=aa
 have n4:¬1=kx:=aa
 have r1:bp [(kf,0),(kl,1),(K,kx)] kf=some 0:=by simp[bp,look]
 have r2:bp [(kf,0),(kl,1),(K,kx)] kl=some 1:=by simp[bp,look,h1.symm]
 have r3:bp [(kf,0),(kl,1),(K,kx)] K=some kx:=by simp[bp,look,n1,n2]
 refine⟨.inl he,[3,4],vs,_,kx,vf,vl,row,hv,hkx,by simp[look],?_,by simp[look],?_,by simp[look,n3,n4],?_⟩
 ·rw[hf]
  exact hH rfl fun i hi=>by obtain rfl:i=0:=aa;rw[hf0];exact eE r3 rfl rfl
 ·rw[hl]
  exact hH rfl fun i hi=>FW ⟨⟨rfl,iV rfl (.refl _)⟩,⟨rfl,iL r1⟩,⟨rfl,iL r2⟩,⟨rfl,iV rfl (.refl _)⟩,trivial⟩ rfl
 ·rw[hr]
  exact hH rfl fun i hi=>by rw[hr0 i hi];exact iV rfl (.refl _)
theorem ac0 {d:Nat} (h:∀K args pre r,qR d K args pre=some r->aQ P nq K args pre r):bR P (JJ d):=gi (aJ xx (aJ CB (aJ IG (aJ MJ (aJ Py (aJ h gQ))))))
theorem jO.right {n d:Nat} {c:Nat->PP} {x y:Rat} (h:jO n c d x y):cq n c y:=by
 cases d with
 |zero=>exact h.elim
 |succ d=>exact h.2.1
theorem NM {v z:AV} {i:Nat} (h:i=0):nth [v] z i=v:=by subst h;rfl
theorem vh {l:List (Rat×Rat)} {p:Rat×Rat} {z:AV} {i:Nat} (hi:i<l.length+1):(if i<l.length then cy l i else nth [dA p.1 p.2 af] z (i-l.length+0))=cy (l++[p]) i:=by
 unfold cy
 rw[tO]
 split
 ·rfl
 ·rw[NM aa,show i-l.length=0 by omega];rfl
theorem Jr {l:List (Rat×Rat)} {p:Rat×Rat} {z:AV}:jF (fun i=>if i<l.length then cy l i else nth [dA p.1 p.2 af] z (i-l.length+0)) (l.length+1)=l++[p]:=
 JD (by simp) fun i hi=>by
  have:=vh (p:=p) (z:=z) hi
  rw[this];rfl
theorem aiu {d:Nat} (hd:∀K args pre r,qR d K args pre=some r->aQ P nq K args pre r) {n:Nat} {c:Nat->PP} {x y:Rat} {l:List (Rat×Rat)} {kf kl K:Nat} (h1:kl≠kf) (g1:kf<K) (g2:kl<K) (hn0:0<n) (hn:n<2^40) (hz:jO n c (d+1) x y) (hb:l.length+(bG n c (d+1) x y).length<2^30) (cx:Ctx):
  ax P cx f67.ntmps O8 ⟨aU 0 (Ii n c x y),Me n c l,3⟩ fun e s'=>(e=.normal\/e=.ret)/\∃ls vs os kx o1 o2 o3,bE ls s'=some (vs,os)/\2<=kx/\
   look 0 os=some o1/\dU (bp [(kf,0),(kl,1),(K,kx)]) o1 (wh K (l++bG n c (d+1) x y).length)/\look 1 os=some o2/\dU (bp [(kf,0),(kl,1),(K,kx)]) o2 (sF n c kf kl)/\look kx os=some o3/\dU (bp [(kf,0),(kl,1),(K,kx)]) o3 (nC (l++bG n c (d+1) x y)):=by
 have hW:=cF
 obtain⟨z1,z2,z3⟩:=hz
 have hC:(fun i=>bu (aA (c i)))=c:=rfl
 have hL:bG n c (d+1) x y=if dG n c x y=0 then []else if dG n c x y=1 then [(eJ x y,eI x y)]else
  bG n c d x (aV x y)++(if cr (c 0) (aV x y)=0 then(aV x y,aV x y)::bG n c d (aV x y) y else bG n c d (aV x y) y):=rfl
 have hk:∀{l:List (Rat×Rat)} {i:Nat},i<l.length->keys (cy l i)=[]/\aW (cy l i) (dA (aM (.rat (cj l i).1 af)) (aM (.rat (cj l i).2 af)) af):=fun _=>⟨rfl,.refl _⟩
 have hq:∀{l:List (Rat×Rat)} {p:Rat×Rat} {z:AV} {i:Nat},i<l.length+1->keys (if i<l.length then cy l i else nth [dA p.1 p.2 af] z (i-l.length+0))=[]/\
   aW (if i<l.length then cy l i else nth [dA p.1 p.2 af] z (i-l.length+0)) (dA (mF (if i<l.length then cy l i else nth [dA p.1 p.2 af] z (i-l.length+0))).1 (mF (if i<l.length then cy l i else nth [dA p.1 p.2 af] z (i-l.length+0))).2 af):=fun hi=>by
  rw[vh hi];exact⟨rfl,.refl _⟩
 refine ax.bO hT (ac0 hd) hm 60 [3,4] acD KN.dst ?_
 simp only[ag.all,az,hC,beq_iff_eq,beq_eq_false_iff_ne,ne_eq,bB,bD,Pm]
 refine⟨⟨aa,aa,fun i _=>.refl _,aT,aT,hn0,hn,z1,z2⟩,fun b0 s' hv=>?_,fun b0=>⟨fun b1=>⟨⟨aa,aa,aa,aT,aT,aa,?_,aa⟩,fun s' hv=>?_⟩,fun b1=>?_⟩⟩
 ·rw[hL,if_pos b0,List.append_nil]
  exact⟨.inl trivial,(Cp (L:=l) rfl h1 g1 g2 hv aa rfl rfl rfl rfl fun i _=>rfl).2⟩
 ·rw[hL,if_neg b0,if_pos b1]at hb
  simp only[List.length_cons,List.length_nil]at hb
  omega
 ·rw[hL,if_neg b0,if_pos b1]
  refine⟨.inl trivial,(Cp (L:=l++[(eJ x y,eI x y)]) rfl h1 g1 g2 hv aa rfl rfl (by rw[List.length_append];rfl) (by rw[List.length_append];rfl) fun i hi=>?_).2⟩
  rw[List.length_append]at hi
  exact vh (p:=(eJ x y,eI x y)) hi
 ·obtain⟨m1,m2,m3⟩:=z3 b0 b1
  rw[hL,if_neg b0,if_neg b1]at hb ⊢
  rw[List.length_append]at hb
  have hl2:(bG n c d (aV x y) y).length<=(if cr (c 0) (aV x y)=0 then(aV x y,aV x y)::bG n c d (aV x y) y else bG n c d (aV x y) y).length:=by
   split
   ·exact Nat.le_succ _
   ·exact Nat.le_refl _
  refine⟨⟨aa,aa,aT,aT,m1,aa⟩,⟨aa,aa,aa,aT,aT,fun i _=>.refl _,.refl _,.refl _,.refl _,trivial,fun i hi=>hk hi,hn0,hn,m2,aa⟩,⟨aa,aT,fun i _=>.refl _,hn0,m2.right⟩,fun r0=>⟨⟨aa,aa,aT,aa,?_,aa⟩,⟨aa,aa,aa,aT,aT,fun i _=>.refl _,.refl _,.refl _,.refl _,trivial,fun i hi=>hq (p:=(aV x y,aV x y)) hi,hn0,hn,m3,?_⟩,fun s' hv=>?_⟩,
   fun r0=>⟨⟨aa,aa,aa,aT,aT,fun i _=>.refl _,.refl _,.refl _,.refl _,trivial,fun i hi=>hk hi,hn0,hn,m3,?_⟩,fun s' hv=>?_⟩⟩
  ·rw[List.length_append];omega
  ·have r0:cr (c 0) (aV x y)=0:=r0
   rw[if_pos r0,List.length_cons]at hb
   show(l++bG n c d x (aV x y)).length+1+(bG n c d (aV x y) y).length<2^30
   rw[List.length_append];omega
  ·have r0:cr (c 0) (aV x y)=0:=r0
   rw[if_pos r0]
   have e:=Jr (l:=l++bG n c d x (aV x y)) (p:=(aV x y,aV x y)) (z:=.agg [.rat 0 1,.rat 0 1])
   dsimp only at e hv
   rw[e]at hv
   rw[show l++(bG n c d x (aV x y)++(aV x y,aV x y)::bG n c d (aV x y) y)=l++bG n c d x (aV x y)++[(aV x y,aV x y)]++bG n c d (aV x y) y by simp[List.append_assoc]]
   exact⟨.inl trivial,(Cp rfl h1 g1 g2 hv aa rfl rfl rfl rfl fun i _=>rfl).2⟩
  ·show(l++bG n c d x (aV x y)).length+(bG n c d (aV x y) y).length<2^30
   rw[List.length_append];omega
  ·have r0:¬cr (c 0) (aV x y)=0:=r0
   rw[if_neg r0,<-List.append_assoc]
   exact⟨.inl trivial,(Cp rfl h1 g1 g2 hv aa rfl rfl rfl rfl fun i _=>rfl).2⟩
theorem Js {d:Nat} (ih:∀e,d=e+1->∀K args pre r,qR e K args pre=some r->aQ P nq K args pre r):aY P (qR d) nq:=by
 intro K args pre r h
 unfold qR at h
 split at h
 ·rename_i x' y' ch kf kl is
  split at h
  ·rename_i x q1 y q2 n c q3 ch1 hx hy hc hi
   split at h
   ·rename_i k0 m f len ch2 is2 hl hcl
    split at h
    ·rename_i ch3 hi3
     split at h
     ·rename_i hk
      simp only[ay]at h
      subst h
      simp only[Bool.and_eq_true,bne_iff_ne,ne_eq,Nat.blt_eq]at hk
      obtain⟨⟨⟨k1,k2⟩,k3⟩,k4⟩:=hk
      obtain⟨e1,l1,l2,l3,l4⟩:=abh hl
      obtain⟨e2,c1,c2,c3⟩:=Wd hcl
      obtain rfl:=LX hi
      obtain rfl:=LX hi3
      intro need
      obtain⟨n1,n2,n3,n4,n5,n6,n7,n8,n9,n10,n11,n12⟩:=need
      have hch:=mG.ok hc n3
      have r0:bp [(0,kf),(1,kl),(2,k0)] 0=some kf:=rfl
      have r1:bp [(0,kf),(1,kl),(2,k0)] 1=some kl:=rfl
      have r2:bp [(0,kf),(1,kl),(2,k0)] 2=some k0:=rfl
      have hcr:∀{ρ:Nat->Option Nat} {u v:AV},aW u v->iu ρ (.b7 u) (.b7 v):=fun h=>iV rfl (EK h)
      have hcl:∀{ρ:Nat->Option Nat} {u v:AV},aW u v->iu ρ (.b7 (.func s4 [.b7 u])) (.b7 (.func s4 [.b7 v])):=fun h=>hcr (Ug ⟨EK h,trivial⟩ rfl)
      refine aQ.frame (pre:=[(kf,⟨false,true,1,1,e1⟩),(kl,⟨false,true,1,1,e2⟩),(k0,⟨true,true,6,len,f⟩)]) (RL hT KN (args0:=Ii n c x y) (oa0:=wh 2 (jF f m).length) (ob0:=sF n c 0 1) (oc0:=nC (jF f m)) ah rfl c3 l4 k1 k2 k3 k4 (fun _=>?_) aX (fun _=>⟨?_,?_,?_⟩) (fun _ cx _=>?_)) (fun k o hk=>?_) ⟨n1,n2,n3,n4,n5,n6,n7,n8,n9,n10,n11,n12⟩
      ·exact⟨⟨NJ hx,iV (Ms hx) ((eU af).ok hx n1)⟩,⟨NJ hy,iV (Ms hy) ((eU af).ok hy n2)⟩,⟨rfl,hcr hch⟩,⟨rfl,iL r0⟩,⟨rfl,iL r1⟩,⟨rfl,hcl n4⟩,trivial⟩
      ·rw[zP]
       exact hH rfl fun i hi=>by obtain rfl:i=0:=aa;rw[l2];exact eE r2 rfl rfl
      ·exact hH rfl fun i hi=>by
        obtain rfl:i=0:=aa
        rw[c2]
        exact FW ⟨⟨rfl,hcr n5⟩,⟨rfl,iL r0⟩,⟨rfl,iL r1⟩,⟨rfl,hcl n6⟩,trivial⟩ rfl
      ·refine hH (by rw[zP];exact n7) fun i hi=>?_
       obtain⟨p1,p2⟩:=n8 i aa
       unfold cy
       rw[ahn (show i<m by omega)]
       exact iV p1 p2
      ·cases d with
       |zero=>exact absurd n11 id
       |succ d=>exact aiu (ih d rfl) c3 k2 k3 n9 n10 n11 (by rw[zP];exact n12) cx
      ·rcases sS hk with⟨e1,e2⟩|⟨e1,_,e2⟩|⟨e1,_,_,e2⟩<;>subst e1<;>subst e2
       ·exact l1
       ·exact c1
       ·exact l3
     ·simp at h
    ·simp at h
   ·simp at h
  ·simp at h
 ·simp at h
theorem Lf:∀d K args pre r,qR d K args pre=some r->aQ P nq K args pre r
 |0=>Js fun e h=>absurd h aa
 |d+1=>Js fun e h=>by obtain rfl:d=e:=aa;exact Lf d
end Go.Am.B
namespace Go.Am
def sg (f:Nat->Rat):Nat->Rat
 |0=>0
 |n+1=>sg f n+f n
theorem iq {f g:Nat->Rat}:∀{n:Nat},(∀i,i<n->f i=g i)->sg f n=sg g n
 |0,_=>rfl
 |n+1,h=>by rw[sg,sg,iq fun i hi=>h i (by omega),h n (by omega)]
theorem oF {f:Nat->Rat}:∀{n:Nat},(∀i,i<n->f i=0)->sg f n=0
 |0,_=>rfl
 |n+1,h=>by rw[sg,oF fun i hi=>h i (by omega),h n (by omega),Rat.add_zero]
theorem s8 {f g:Nat->Rat}:∀{n:Nat},sg (fun i=>f i+g i) n=sg f n+sg g n
 |0=>by simp only[sg];grind
 |n+1=>by rw[sg,sg,sg,s8];grind
theorem ng {f:Nat->Rat} {c:Rat}:∀{n:Nat},sg (fun i=>c*f i) n=c*sg f n
 |0=>by simp only[sg];grind
 |n+1=>by rw[sg,sg,ng];grind
theorem xl {f:Nat->Rat}:∀{n:Nat},sg f (n+1)=f 0+sg (fun i=>f (i+1)) n
 |0=>by simp only[sg];grind
 |n+1=>by rw[sg,xl,sg];grind
theorem Bw {f:Nat->Rat} {n:Nat}:∀{m:Nat},sg f (n+m)=sg f n+sg (fun i=>f (n+i)) m
 |0=>by simp only[sg];show sg f n=_;grind
 |m+1=>by
  show sg f (n+m)+f (n+m)=sg f n+(sg (fun i=>f (n+i)) m+f (n+m))
  rw[Bw];grind
theorem DQ {f:Nat->Rat} {n m:Nat} (h:∀i,n<=i->i<m->f i=0) (hm:n<=m):sg f m=sg f n:=by
 obtain⟨l,rfl⟩:∃l,m=n+l:=⟨m-n,by omega⟩
 rw[Bw,oF (f:=fun i=>f (n+i)) fun i hi=>h _ (by omega) (by omega),Rat.add_zero]
theorem BQ {f:Nat->Nat->Rat} {n:Nat}:∀{m:Nat},sg (fun i=>sg (fun j=>f i j) n) m=sg (fun j=>sg (fun i=>f i j) m) n
 |0=>(oF fun _ _=>rfl).symm
 |m+1=>by
  rw[sg,BQ,<-s8];rfl
theorem pow_add' (t:Rat) (m:Nat):∀n:Nat,t^(m+n)=t^m*t^n
 |0=>by rw[Nat.add_zero,Rat.pow_zero,Rat.mul_one]
 |n+1=>by rw[<-Nat.add_assoc,Rat.pow_succ,pow_add' t m n,Rat.pow_succ,Rat.mul_assoc]
def ev (n:Nat) (k:Nat->Rat) (t:Rat):Rat:=sg (fun i=>k i*t^i) n
theorem qW {n:Nat} {k l:Nat->Rat} {t:Rat} (h:∀i,i<n->k i=l i):ev n k t=ev n l t:=iq fun i hi=>by rw[h i hi]
theorem P7 {n:Nat} {k:Nat->Rat} {t:Rat}:ev (n+1) k t=ev n k t+k n*t^n:=rfl
theorem uU {n:Nat} {k:Nat->Rat} {t:Rat}:ev (n+1) k t=k 0+t*ev n (fun i=>k (i+1)) t:=by
 unfold ev
 rw[xl,<-ng,Rat.pow_zero,Rat.mul_one]
 congr 1
 exact iq fun i _=>by rw[Rat.pow_succ];grind
theorem JA {n m:Nat} {k:Nat->Rat} {t:Rat} (h:∀i,n<=i->i<m->k i=0) (hm:n<=m):ev m k t=ev n k t:=DQ (fun i h1 h2=>by rw[h i h1 h2,Rat.zero_mul]) hm
theorem uH {n:Nat} {k l:Nat->Rat} {t:Rat}:ev n (fun i=>k i+l i) t=ev n k t+ev n l t:=by
 unfold ev;rw[<-s8];exact iq fun i _=>by grind
theorem wV {n:Nat} {k:Nat->Rat} {c t:Rat}:ev n (fun i=>c*k i) t=c*ev n k t:=by
 unfold ev;rw[<-ng];exact iq fun i _=>by grind
theorem aih {n m:Nat} {k:Nat->Rat} {t:Rat}:ev (m+n) (fun i=>if m<=i then k (i-m)else 0) t=t^m*ev n k t:=by
 unfold ev
 rw[Bw,oF fun i hi=>by dsimp only;rw[if_neg (by omega),Rat.zero_mul],Rat.zero_add,<-ng]
 exact iq fun i _=>by dsimp only;rw[if_pos (by omega),pow_add',show m+i-m=i by omega];grind
theorem Ew {n:Nat} {k:Nat->Rat} {t:Rat}:∀m,m<=n->fP n k t m=ev m (fun i=>k (n-m+i)) t
 |0,_=>rfl
 |m+1,h=>by
  rw[fP,Ew m (by omega),uU]
  rw[show n-(m+1)+0=n-1-m by omega,qW (l:=fun i=>k (n-(m+1)+(i+1))) fun i _=>by rw[show n-m+i=n-(m+1)+(i+1) by omega]]
  grind
theorem sP {a:PP} {t:Rat}:cr a t=ev a.1 a.2 t:=by
 unfold cr
 rw[Ew _ (Nat.le_refl _)]
 exact qW fun i _=>by rw[Nat.sub_self,Nat.zero_add]
def jL (n:Nat) (k:Nat->Rat) (c:Rat) (i:Nat):Rat:=fP n k c (n-1-i)
theorem wo {k:Nat->Rat} {c t:Rat}:∀n,ev (n+1) k t=(t-c)*ev n (jL (n+1) k c) t+ev (n+1) k c
 |0=>by simp only[ev,sg];grind
 |n+1=>by
  -- by the lowest coefficient
  have ih:=wo (k:=fun i=>k (i+1)) (c:=c) (t:=t) n
  have e1:∀m,m<=n+1->fP (n+1+1) k c m=fP (n+1) (fun i=>k (i+1)) c m:=fun m=>by
   induction m with
   |zero=>exact fun _=>rfl
   |succ m ihm=>
    intro hm
    rw[fP,fP,ihm (by omega),show n+1+1-1-m=n+1-1-m+1 by omega]
  have e2:ev (n+1) (jL (n+1+1) k c) t=ev (n+1) (fun i=>k (i+1)) c+t*ev n (jL (n+1) (fun i=>k (i+1)) c) t:=by
   rw[uU]
   congr 1
   ·unfold jL
    rw[show n+1+1-1-0=n+1 by omega,e1 (n+1) (Nat.le_refl _)]
    have:=sP (a:=(n+1,fun i=>k (i+1))) (t:=c)
    exact this
   ·congr 1
    refine qW fun i hi=>?_
    unfold jL
    rw[show n+1+1-1-(i+1)=n+1-1-i by omega,e1 _ (by omega)]
  rw[uU (n:=n+1) (t:=t),uU (n:=n+1) (t:=c),ih,e2]
  grind
theorem JQ {a b:Nat} (h:((a:Int):Rat)=((b:Int):Rat)):a=b:=by
 have:(a:Int)=(b:Int):=by exact_mod_cast h
 omega
theorem Kz:∀(n:Nat) (k:Nat->Rat) (s:Nat),(∀j,s<=j->j<s+n->ev n k ((j:Int):Rat)=0)->∀i,i<n->k i=0
 |0,_,_,_=>fun i hi=>absurd hi (Nat.not_lt_zero i)
 |n+1,k,s,h=>by
  have h0:=h s (Nat.le_refl _) (by omega)
  have hq:∀i,i<n->jL (n+1) k ((s:Int):Rat) i=0:=Kz n _ (s+1) fun j h1 h2=>by
   have:=h j (by omega) (by omega)
   rw[wo (c:=((s:Int):Rat)),h0,Rat.add_zero]at this
   rcases Rat.mul_eq_zero.1 this with h3|h3
   ·have:((j:Int):Rat)=((s:Int):Rat):=by grind
    have:=JQ this
    omega
   ·exact h3
  have hh:∀m,m<=n->fP (n+1) k ((s:Int):Rat) m=0:=fun m hm=>by
   cases m with
   |zero=>rfl
   |succ m=>
    have:=hq (n-(m+1)) (by omega)
    unfold jL at this
    rwa [show n+1-1-(n-(m+1))=m+1 by omega]at this
  have hl:fP (n+1) k ((s:Int):Rat) (n+1)=0:=by
   have:=sP (a:=(n+1,k)) (t:=((s:Int):Rat))
   exact this.trans h0
  intro i hi
  have e:fP (n+1) k ((s:Int):Rat) (n-i+1)=fP (n+1) k ((s:Int):Rat) (n-i)*((s:Int):Rat)+k (n+1-1-(n-i)):=rfl
  rw[hh (n-i) (by omega),Rat.zero_mul,Rat.zero_add,show n+1-1-(n-i)=i by omega]at e
  rw[<-e]
  rcases Nat.eq_zero_or_pos i with h1|h1
  ·subst h1;exact hl
  ·exact hh _ (by omega)
theorem ah6 {n:Nat} {k l:Nat->Rat} (h:∀t,ev n k t=ev n l t):∀i,i<n->k i=l i:=fun i hi=>by
 have:=Kz n (fun i=>k i+-1*l i) 0 (fun j _ _=>by
  rw[uH,wV (k:=l),h];grind) i hi
 grind
def eF (a:PP) (i:Nat):Rat:=if i<a.1 then a.2 i else 0
def aK (a:PP) (t:Rat):Rat:=ev a.1 a.2 t
theorem ry {a:PP} {t:Rat} {m:Nat} (h:a.1<=m):ev m (eF a) t=aK a t:=by
 rw[JA (n:=a.1) (fun i h1 h2=>by unfold eF;rw[if_neg (by omega)]) h]
 exact qW fun i hi=>by unfold eF;rw[if_pos hi]
theorem sO {a b:PP} (h:∀t,aK a t=aK b t):∀i,eF a i=eF b i:=fun i=>by
 by_cases hi:i<max a.1 b.1
 ·exact ah6 (n:=max a.1 b.1) (fun t=>by rw[ry (Nat.le_max_left _ _),ry (Nat.le_max_right _ _),h]) i hi
 ·unfold eF
  rw[if_neg (by omega),if_neg (by omega)]
theorem x5 {a b:PP} (ha:Trim a) (h:∀i,eF a i=eF b i):a.1<=b.1:=by
 rcases ha with ha|ha
 ·omega
 ·rcases Nat.lt_or_ge b.1 a.1 with h1|h1
  ·have:=h (a.1-1)
   unfold eF at this
   rw[if_pos (by omega),if_neg (by omega)]at this
   exact absurd this ha
  ·exact h1
theorem B8 {a b:PP} (ha:Trim a) (hb:Trim b) (h:∀t,aK a t=aK b t):gv a b:=by
 have hc:=sO h
 have h1:=x5 ha hc
 have h2:=x5 hb fun i=>(hc i).symm
 refine⟨by omega,fun i hi=>?_⟩
 have:=hc i
 unfold eF at this
 rwa [if_pos hi,if_pos (by omega)]at this
theorem gv.ev {a b:PP} (h:gv a b) (t:Rat):aK a t=aK b t:=by
 unfold aK
 rw[<-h.1]
 exact qW h.2
theorem uD {n:Nat} {k:Nat->Rat} {t:Rat}:ev (bK k n) k t=ev n k t:=(JA (fun i h1 h2=>FM h1 h2) fN).symm
theorem Xq {n e k:Nat} {d r:Nat->Rat} {t:Rat} (h:k+e<n):ev n (gF e d k r) t=ev n r t-r (k+e)/d e*(t^k*ev (e+1) d t):=by
 obtain⟨l,rfl⟩:∃l,n=k+(e+1)+l:=⟨n-(k+(e+1)),by omega⟩
 have h1:ev (k+(e+1)) (gF e d k r) t=ev (k+(e+1)) r t-r (k+e)/d e*(t^k*ev (e+1) d t):=by
  rw[<-aih (k:=d),Rat.sub_eq_add_neg,<-Rat.neg_mul,<-wV,<-uH]
  refine qW fun i hi=>?_
  unfold gF
  by_cases h2:k<=i
  ·rw[if_pos ⟨h2,by omega⟩,if_pos h2];grind
  ·rw[if_neg (by omega),if_neg h2,Rat.mul_zero,Rat.add_zero]
 have h2:∀(f:Nat->Rat),ev (k+(e+1)+l) f t=ev (k+(e+1)) f t+sg (fun i=>f (k+(e+1)+i)*t^(k+(e+1)+i)) l:=fun f=>Bw
 rw[h2,h2 r,h1,iq (f:=fun i=>gF e d k r (k+(e+1)+i)*t^(k+(e+1)+i)) (g:=fun i=>r (k+(e+1)+i)*t^(k+(e+1)+i)) fun i _=>by unfold gF;rw[if_neg (by omega)]]
 grind
theorem PC {n e R:Nat} {d a:Nat->Rat} {t:Rat} (hR:R=n-e):∀j,j<=R->ev n a t=ev n (ct e d a R j) t+ev R (fun k=>if k+j<R then 0 else dM e d a R k) t*ev (e+1) d t
 |0,_=>by
  rw[show ev R (fun k=>if k+0<R then 0 else dM e d a R k) t=0 from oF fun i hi=>by dsimp only;rw[if_pos (by omega),Rat.zero_mul],Rat.zero_mul,Rat.add_zero];rfl
 |j+1,hj=>by
  have ih:=PC (t:=t) hR j (by omega) (d:=d) (a:=a)
  have e1:ev n (ct e d a R (j+1)) t=_:=Xq (k:=R-1-j) (r:=ct e d a R j) (by omega)
  have e2:ct e d a R j (R-1-j+e)/d e=dM e d a R (R-1-j):=by unfold dM;rw[show R-1-(R-1-j)=j by omega]
  rw[e2]at e1
  have e3:ev R (fun k=>if k+(j+1)<R then 0 else dM e d a R k) t=ev R (fun k=>if k+j<R then 0 else dM e d a R k) t+dM e d a R (R-1-j)*t^(R-1-j):=by
   have:∀i,(if i+(j+1)<R then 0 else dM e d a R i)=(if i+j<R then 0 else dM e d a R i)+(if i=R-1-j then dM e d a R (R-1-j)else 0):=fun i=>by
    by_cases h1:i+(j+1)<R
    ·rw[if_pos h1,if_pos (by omega),if_neg (by omega),Rat.add_zero]
    ·rw[if_neg h1]
     by_cases h2:i=R-1-j
     ·rw[if_pos (by omega),if_pos h2,Rat.zero_add,h2]
     ·rw[if_neg (by omega),if_neg h2,Rat.add_zero]
   rw[show(fun k=>if k+(j+1)<R then 0 else dM e d a R k)=fun i=>(if i+j<R then 0 else dM e d a R i)+(if i=R-1-j then dM e d a R (R-1-j)else 0)from funext this,uH]
   congr 1
   -- a single power
   unfold ev
   rw[DQ (n:=R-1-j+1) (fun i h1 h2=>by dsimp only;rw[if_neg (by omega),Rat.zero_mul]) (by omega),sg,oF fun i hi=>by dsimp only;rw[if_neg (by omega),Rat.zero_mul],Rat.zero_add]
   dsimp only
   rw[if_pos rfl]
  rw[e1,e3,ih]
  grind
theorem vY {a d:PP} (hd:0<d.1) (t:Rat):aK a t=aK (fF a d) t*aK d t+aK (dx a d) t:=by
 have:=PC (n:=a.1) (e:=d.1-1) (d:=d.2) (a:=a.2) (t:=t) rfl _ (Nat.le_refl _)
 rw[show d.1-1+1=d.1 by omega]at this
 have e1:aK (fF a d) t=ev _ _ t:=uD
 have e2:aK (dx a d) t=ev _ _ t:=uD
 show ev a.1 a.2 t=aK (fF a d) t*ev d.1 d.2 t+aK (dx a d) t
 rw[e1,e2,this]
 rw[qW (k:=fun k=>if k+(a.1-(d.1-1))<a.1-(d.1-1)then 0 else dM (d.1-1) d.2 a.2 (a.1-(d.1-1)) k) (l:=dM (d.1-1) d.2 a.2 (a.1-(d.1-1))) fun i hi=>if_neg (by omega)]
 grind
def cs:Nat->(Nat->Rat)->Rat->Rat
 |0,p,_=>p 0
 |m+1,p,t=>(1-t)*cs m p t+t*cs m (fun i=>p (i+1)) t
abbrev bq (n k:Nat):Rat:=((bn n k:Int):Rat)
theorem MK (n k:Nat):bq (n+1) (k+1)=bq n k+bq n (k+1):=by
 show((bn (n+1) (k+1):Int):Rat)=_
 rw[qh,Int.natCast_add,Rat.intCast_add]
theorem wL (n:Nat):bq n 0=1:=by show((bn n 0:Int):Rat)=1;rw[qx];rfl
theorem It {n k:Nat} (h:n<k):bq n k=0:=by show((bn n k:Int):Rat)=0;rw[og h];rfl
theorem Ng {n k:Nat} (h:k<=n):bq n k≠0:=by
 intro h0
 have h1:((bn n k:Int):Rat).num=(0:Rat).num:=congrArg Rat.num h0
 rw[Rat.num_intCast,show(0:Rat).num=0 from rfl]at h1
 have:=DF h
 omega
theorem EZ {p:Nat->Rat}:∀k i,fT p k (i+1)=fT (fun i=>p (i+1)) k i
 |0,_=>rfl
 |k+1,i=>by rw[fT,fT,EZ (p:=p) k (i+1),EZ (p:=p) k i]
theorem En:∀(m:Nat) (p:Nat->Rat) (t:Rat),ev (m+1) (fun k=>bq m k*fT p k 0) t=cs m p t
 |0,p,t=>by
  show 0+bq 0 0*p 0*t^0=p 0
  rw[wL,Rat.pow_zero];grind
 |m+1,p,t=>by
  have h1:=En m p t
  have h2:=En m (fun i=>p (i+1)) t
  rw[cs,<-h1,<-h2,uU (n:=m+1)]
  have e1:∀k,bq (m+1) (k+1)*fT p (k+1) 0=bq m (k+1)*fT p (k+1) 0+(bq m k*fT (fun i=>p (i+1)) k 0+-1*(bq m k*fT p k 0)):=fun k=>by
   rw[MK,<-EZ]
   have:fT p (k+1) 0=fT p k 1-fT p k 0:=rfl
   rw[this];grind
  rw[show(fun i=>bq (m+1) (i+1)*fT p (i+1) 0)=fun k=>bq m (k+1)*fT p (k+1) 0+(bq m k*fT (fun i=>p (i+1)) k 0+-1*(bq m k*fT p k 0))from funext e1,uH,uH,wV]
  rw[P7 (k:=fun k=>bq m (k+1)*fT p (k+1) 0),It (Nat.lt_succ_self m),Rat.zero_mul,Rat.zero_mul,Rat.add_zero]
  rw[uU (k:=fun k=>bq m k*fT p k 0),wL,wL]
  have:fT p 0 0=p 0:=rfl
  rw[this]
  generalize ev m (fun i=>bq m (i+1)*fT p (i+1) 0) t=A
  generalize ev (m+1) (fun k=>bq m k*fT (fun i=>p (i+1)) k 0) t=B
  grind
theorem Vo {m:Nat} {p:Nat->Rat} {t:Rat}:ev (m+1) (fG (m+1) p) t=cs m p t:=En m p t
def hv (m:Nat) (u:Nat->Rat) (x y:Rat):Rat:=sg (fun i=>u i*(x^i*y^(m-i))) (m+1)
theorem yN:∀(m:Nat) (p:Nat->Rat) (t:Rat),hv m (fun i=>bq m i*p i) t (1-t)=cs m p t
 |0,p,t=>by
  show 0+bq 0 0*p 0*(t^0*(1-t)^0)=p 0
  rw[wL,Rat.pow_zero,Rat.pow_zero];grind
 |m+1,p,t=>by
  have h1:=yN m p t
  have h2:=yN m (fun i=>p (i+1)) t
  rw[cs,<-h1,<-h2]
  unfold hv
  rw[xl (n:=m+1)]
  dsimp only
  rw[wL]
  have e1:∀i,i<m+1->bq (m+1) (i+1)*p (i+1)*(t^(i+1)*(1-t)^(m+1-(i+1)))=t*(bq m i*p (i+1)*(t^i*(1-t)^(m-i)))+bq m (i+1)*p (i+1)*(t^(i+1)*(1-t)^(m-i)):=fun i hi=>by
   rw[MK,show m+1-(i+1)=m-i by omega,Rat.pow_succ];grind
  rw[iq e1,s8,ng]
  have e2:sg (fun i=>bq m (i+1)*p (i+1)*(t^(i+1)*(1-t)^(m-i))) (m+1)=sg (fun i=>(1-t)*(bq m (i+1)*p (i+1)*(t^(i+1)*(1-t)^(m-(i+1))))) m:=by
   rw[sg,It (Nat.lt_succ_self m),Rat.zero_mul,Rat.zero_mul,Rat.add_zero]
   exact iq fun i hi=>by rw[show m-i=m-(i+1)+1 by omega,Rat.pow_succ (1-t)];grind
  rw[e2,ng,xl (f:=fun i=>bq m i*p i*(t^i*(1-t)^(m-i))),wL,Rat.pow_zero,Nat.sub_zero,Nat.sub_zero,Rat.pow_succ]
  generalize sg (fun i=>bq m (i+1)*p (i+1)*(t^(i+1)*(1-t)^(m-(i+1)))) m=A
  generalize sg (fun i=>bq m i*p (i+1)*(t^i*(1-t)^(m-i))) (m+1)=B
  grind
def kB (m n:Nat) (u v:Nat->Rat) (k:Nat):Rat:=sg (fun i=>sg (fun j=>if i+j=k then u i*v j else 0) (n+1)) (m+1)
theorem GI {f:Nat->Rat} {i n:Nat} (hi:i<n) (h:∀j,j<n->j≠i->f j=0):sg f n=f i:=by
 rw[DQ (n:=i+1) (fun j h1 h2=>h j h2 (by omega)) (by omega),sg,oF fun j hj=>h j (by omega) (by omega),Rat.zero_add]
theorem HU {m n:Nat} {u v X:Nat->Rat}:sg (fun k=>kB m n u v k*X k) (m+n+1)=sg (fun i=>sg (fun j=>u i*v j*X (i+j)) (n+1)) (m+1):=by
 unfold kB
 have e1:∀k,sg (fun i=>sg (fun j=>if i+j=k then u i*v j else 0) (n+1)) (m+1)*X k=sg (fun i=>sg (fun j=>if i+j=k then u i*v j*X k else 0) (n+1)) (m+1):=fun k=>by
  rw[Rat.mul_comm,<-ng]
  refine iq fun i _=>?_
  rw[<-ng]
  refine iq fun j _=>?_
  by_cases h:i+j=k
  ·rw[if_pos h,if_pos h];grind
  ·rw[if_neg h,if_neg h,Rat.mul_zero]
 rw[iq fun k _=>e1 k,BQ]
 refine iq fun i hi=>?_
 rw[BQ]
 refine iq fun j hj=>?_
 rw[GI (i:=i+j) (by omega) fun k _ h=>if_neg fun h'=>h h'.symm,if_pos rfl]
theorem ajt {m n:Nat} {u v:Nat->Rat} {x y:Rat}:hv (m+n) (kB m n u v) x y=hv m u x y*hv n v x y:=by
 unfold hv
 rw[HU (X:=fun k=>x^k*y^(m+n-k)),<-ng (f:=fun i=>v i*(x^i*y^(n-i)))]
 rw[show(fun i=>sg (fun i=>u i*(x^i*y^(m-i))) (m+1)*(v i*(x^i*y^(n-i))))=fun j=>sg (fun i=>v j*(x^j*y^(n-j))*(u i*(x^i*y^(m-i)))) (m+1)from funext fun j=>by rw[ng];grind]
 rw[<-BQ]
 refine iq fun i hi=>iq fun j hj=>?_
 rw[show m+n-(j+i)=(m-j)+(n-i) by omega,pow_add',pow_add'];grind
def j7 (m n:Nat) (p q:Nat->Rat) (k:Nat):Rat:=kB m n (fun i=>bq m i*p i) (fun j=>bq n j*q j) k/bq (m+n) k
theorem age {m n:Nat} {p q:Nat->Rat} {t:Rat}:cs (m+n) (j7 m n p q) t=cs m p t*cs n q t:=by
 rw[<-yN,<-yN,<-yN,<-ajt]
 unfold hv
 refine iq fun i hi=>?_
 show bq (m+n) i*j7 m n p q i*_=kB _ _ _ _ i*_
 rw[show bq (m+n) i*j7 m n p q i=kB m n (fun i=>bq m i*p i) (fun j=>bq n j*q j) i from by unfold j7;rw[Rat.mul_comm,Rat.div_mul_cancel (Ng (by omega))]]
def jE (a b:PP):PP:=(max a.1 b.1,fun i=>eF a i+eF b i)
def iA (r:Rat) (a:PP):PP:=(a.1,fun i=>r*a.2 i)
def cB (a b:PP):PP:=(a.1+b.1+1,kB a.1 b.1 (eF a) (eF b))
theorem kz {a b:PP} {t:Rat}:aK (jE a b) t=aK a t+aK b t:=by
 show ev (max a.1 b.1) (fun i=>eF a i+eF b i) t=_
 rw[uH,ry (Nat.le_max_left _ _),ry (Nat.le_max_right _ _)]
theorem gT {r:Rat} {a:PP} {t:Rat}:aK (iA r a) t=r*aK a t:=wV
theorem EY {m n:Nat} {f g:Nat->Rat}:sg (fun i=>sg (fun j=>f i*g j) n) m=sg f m*sg g n:=by
 rw[Rat.mul_comm,<-ng]
 exact iq fun i _=>by rw[ng,Rat.mul_comm]
theorem cS {a b:PP} {t:Rat}:aK (cB a b) t=aK a t*aK b t:=by
 rw[<-ry (a:=a) (Nat.le_succ a.1),<-ry (a:=b) (Nat.le_succ b.1)]
 show sg (fun k=>kB a.1 b.1 (eF a) (eF b) k*t^k) (a.1+b.1+1)=_
 rw[HU (X:=fun k=>t^k)]
 unfold ev
 rw[<-EY]
 exact iq fun i _=>iq fun j _=>by rw[pow_add'];grind
def dX (t:Rat) (i:Nat):Rat:=((i:Int):Rat)*t^(i-1)
theorem abU {t:Rat} {i j:Nat}:dX t (i+j)=dX t i*t^j+t^i*dX t j:=by
 unfold dX
 cases i with
 |zero=>
  rw[Nat.zero_add,Rat.pow_zero,show((0:Nat):Int)=0 from rfl,show((0:Int):Rat)=0 from rfl];grind
 |succ i=>
  cases j with
  |zero=>rw[Nat.add_zero,Rat.pow_zero,show((0:Nat):Int)=0 from rfl,show((0:Int):Rat)=0 from rfl];grind
  |succ j=>
   rw[show i+1+(j+1)-1=i+(j+1) by omega,show i+1-1=i by omega,show j+1-1=j by omega,show((i+1+(j+1):Nat):Int)=((i+1:Nat):Int)+((j+1:Nat):Int) by omega,Rat.intCast_add,pow_add',Rat.pow_succ,Rat.pow_succ];grind
def eM (a:PP) (t:Rat):Rat:=sg (fun i=>a.2 i*dX t i) a.1
theorem uB {a:PP} {t:Rat} {m:Nat} (h:a.1<=m):sg (fun i=>eF a i*dX t i) m=eM a t:=by
 rw[DQ (n:=a.1) (fun i h1 h2=>by unfold eF;rw[if_neg (by omega),Rat.zero_mul]) h]
 exact iq fun i hi=>by unfold eF;rw[if_pos hi]
theorem jS {a:PP} {t:Rat}:aK (bC a) t=eM a t:=by
 have e1:aK (bC a) t=ev (a.1-1) (cR a.2) t:=uD
 rw[e1]
 unfold eM
 rcases Nat.eq_zero_or_pos a.1 with h|h
 ·rw[h];rfl
 ·obtain⟨n,hn⟩:∃n,a.1=n+1:=⟨a.1-1,by omega⟩
  rw[hn,xl,show n+1-1=n by omega]
  have:dX t 0=0:=by unfold dX;rw[show((0:Nat):Int)=0 from rfl,show((0:Int):Rat)=0 from rfl,Rat.zero_mul]
  rw[this,Rat.mul_zero,Rat.zero_add]
  refine iq fun i _=>?_
  unfold cR dX
  rw[show i+1-1=i by omega];grind
theorem O7 {a b:PP} (h:∀t,aK a t=aK b t) (t:Rat):eM a t=eM b t:=by
 rw[<-uB (Nat.le_max_left a.1 b.1),<-uB (Nat.le_max_right a.1 b.1)]
 exact iq fun i _=>by rw[sO h i]
theorem nu {a b c:PP} (h:∀t,aK c t=aK a t*aK b t) (t:Rat):eM c t=eM a t*aK b t+aK a t*eM b t:=by
 rw[O7 (b:=cB a b) (fun t=>by rw[h,cS]) t]
 show sg (fun k=>kB a.1 b.1 (eF a) (eF b) k*dX t k) (a.1+b.1+1)=_
 rw[HU (X:=dX t),<-uB (a:=a) (Nat.le_succ a.1),<-uB (a:=b) (Nat.le_succ b.1),<-ry (a:=a) (Nat.le_succ a.1),<-ry (a:=b) (Nat.le_succ b.1)]
 unfold ev
 rw[<-EY,<-EY,<-s8]
 refine iq fun i _=>?_
 rw[<-s8]
 exact iq fun j _=>by rw[abU];grind
def Dv (h a:PP):Prop:=∃w:PP,∀t,aK a t=aK h t*aK w t
def ic:PP:=(1,fun _=>1)
theorem jn {t:Rat}:aK ic t=1:=by show 0+1*t^0=1;rw[Rat.pow_zero];grind
theorem Dv.refl (a:PP):Dv a a:=⟨ic,fun t=>by rw[jn,Rat.mul_one]⟩
theorem Dv.of_eq {h a b:PP} (hd:Dv h a) (e:∀t,aK a t=aK b t):Dv h b:=hd.imp fun w hw t=>by rw[<-e,hw]
theorem Dv.trans {a b c:PP} (h1:Dv a b) (h2:Dv b c):Dv a c:=by
 obtain⟨v,hv⟩:=h1
 obtain⟨w,hw⟩:=h2
 exact⟨cB v w,fun t=>by rw[hw,hv,cS,Rat.mul_assoc]⟩
theorem Dv.comb {h a b c u v:PP} (ha:Dv h a) (hb:Dv h b) (e:∀t,aK c t=aK u t*aK a t+aK v t*aK b t):Dv h c:=by
 obtain⟨x,hx⟩:=ha
 obtain⟨y,hy⟩:=hb
 exact⟨jE (cB u x) (cB v y),fun t=>by rw[e,hx,hy,kz,cS,cS];grind⟩
theorem Dv.sC {h a:PP} (ha:Dv h a) (r:Rat) {b:PP} (e:∀t,aK b t=r*aK a t):Dv h b:=by
 obtain⟨x,hx⟩:=ha
 exact⟨iA r x,fun t=>by rw[e,hx,gT];grind⟩
theorem Dv.rem {h a d:PP} (hd:0<d.1) (h1:Dv h a) (h2:Dv h d):Dv h (dx a d):=
 Dv.comb (u:=ic) (v:=iA (-1) (fF a d)) h1 h2 fun t=>by rw[vY (a:=a) hd t,jn,gT];grind
theorem yQ {a:PP} {t:Rat}:aK (dI a) t=(a.2 (a.1-1))⁻¹*aK a t:=by
 show ev a.1 (cL a.1 a.2) t=_
 rw[show aK a t=ev a.1 a.2 t from rfl,<-wV]
 exact qW fun i _=>by unfold cL;rw[Rat.div_def,Rat.mul_comm]
theorem DT {a:PP} (ha:Trim a) {t:Rat}:aK a t=a.2 (a.1-1)*aK (dI a) t:=by
 rw[yQ,<-Rat.mul_assoc]
 rcases ha with h|h
 ·have:aK a t=0:=by show ev a.1 a.2 t=0;rw[h];rfl
  rw[this,Rat.mul_zero]
 ·rw[Rat.mul_inv_cancel _ h,Rat.one_mul]
theorem Dv.cL {h a:PP} (h1:Dv h a):Dv h (dI a):=h1.sC _ fun _=>yQ
theorem Dv.PM {h a:PP} (ha:Trim a) (h1:Dv h (dI a)):Dv h a:=h1.sC _ fun _=>DT ha
theorem NG {h:PP} {s:PP×PP} (h1:Dv h s.1) (h2:Dv h s.2):∀j,Dv h (bT s j).1/\Dv h (bT s j).2
 |0=>⟨h1,h2⟩
 |j+1=>by
  obtain⟨i1,i2⟩:=NG h1 h2 j
  show Dv h (fL _).1/\Dv h (fL _).2
  unfold fL
  by_cases h0:(bT s j).2.1=0
  ·rw[if_pos h0];exact⟨i1,i2⟩
  ·rw[if_neg h0];exact⟨i2,(i1.rem (by omega) i2).cL⟩
theorem Hh {h a b:PP} (h1:Dv h a) (h2:Dv h b):Dv h (bW a b):=(NG (s:=(a,b)) h1 h2 _).1.cL
theorem F7 {h:PP} {s:PP×PP} (t1:Trim s.1) (t2:Trim s.2):∀j,Dv h (bT s j).1->Dv h (bT s j).2->Dv h s.1/\Dv h s.2
 |0,h1,h2=>⟨h1,h2⟩
 |j+1,h1,h2=>by
  have h1:Dv h (fL (bT s j)).1:=h1
  have h2:Dv h (fL (bT s j)).2:=h2
  unfold fL at h1 h2
  by_cases h0:(bT s j).2.1=0
  ·rw[if_pos h0]at h1 h2;exact F7 t1 t2 j h1 h2
  ·rw[if_neg h0]at h1 h2
   refine F7 t1 t2 j (Dv.comb (u:=fF (bT s j).1 (bT s j).2) (v:=ic) h1 (h2.PM qq) fun t=>?_) h1
   rw[jn,Rat.one_mul]
   exact vY (a:=(bT s j).1) (d:=(bT s j).2) (by omega) t
theorem jU {a:PP} (h:a.1=0) (t:Rat):aK a t=0:=by show ev a.1 a.2 t=0;rw[h];rfl
theorem An {a b:PP} (t1:Trim a) (t2:Trim b):Dv (bW a b) a/\Dv (bW a b) b:=by
 have h0:(bT (a,b) b.1).2.1=0:=by have:=ze (s:=(a,b)) t1 t2 b.1;dsimp only at this;omega
 have ht:=mI (s:=(a,b)) t1 t2 b.1
 refine F7 (s:=(a,b)) t1 t2 b.1 (Dv.PM ht.1 (Dv.refl _)) ⟨(0,fun _=>0),fun t=>?_⟩
 rw[jU h0,jU (a:=(0,fun _=>(0:Rat))) rfl,Rat.mul_zero]
theorem G3 {a:PP} (h:0<a.1) (ht:Trim a):eF a (a.1-1)≠0:=by
 unfold eF
 rw[if_pos (by omega)]
 rcases ht with h'|h'
 ·omega
 ·exact h'
theorem M0 {a b:PP} (ha:0<a.1) (hb:0<b.1) (ta:Trim a) (tb:Trim b):eF (cB a b) (a.1-1+(b.1-1))≠0:=by
 have e:eF (cB a b) (a.1-1+(b.1-1))=kB a.1 b.1 (eF a) (eF b) (a.1-1+(b.1-1)):=by
  show(if _<a.1+b.1+1 then _ else _)=_
  rw[if_pos (by omega)];rfl
 rw[e]
 unfold kB
 have z:∀{c:PP} {i:Nat},c.1<=i->eF c i=0:=fun h=>by unfold eF;rw[if_neg (by omega)]
 rw[GI (i:=a.1-1) (by omega) fun i hi hne=>oF fun j hj=>by
  by_cases h:i+j=a.1-1+(b.1-1)
  ·rw[if_pos h]
   by_cases h2:a.1<=i
   ·rw[z h2,Rat.zero_mul]
   ·rw[z (c:=b) (i:=j) (by omega),Rat.mul_zero]
  ·rw[if_neg h],GI (i:=b.1-1) (by omega) fun j hj hne=>if_neg (by omega),if_pos rfl]
 exact fun h0=>(Rat.mul_eq_zero.1 h0).elim (G3 ha ta) (G3 hb tb)
def cA (a:PP):PP:=(bK a.2 a.1,a.2)
theorem fj {a:PP} (t:Rat):aK (cA a) t=aK a t:=uD
theorem gk {a:PP}:Trim (cA a):=mU
theorem qZ {a b c:PP} (h:∀t,aK c t=aK a t*aK b t) (hc:0<c.1) (tc:Trim c) (ta:Trim a) (tb:Trim b):0<a.1/\0<b.1/\c.1=a.1-1+(b.1-1)+1:=by
 have h0:¬∀t,aK c t=aK (0,fun _=>0) t:=fun h1=>by
  have:=x5 tc fun i=>sO h1 i
  dsimp only at this;omega
 have ha:0<a.1:=by
  rcases Nat.eq_zero_or_pos a.1 with h1|h1
  ·exact absurd (fun t=>by rw[h,jU h1,jU (a:=(0,fun _=>(0:Rat))) rfl,Rat.zero_mul]) h0
  ·exact h1
 have hb:0<b.1:=by
  rcases Nat.eq_zero_or_pos b.1 with h1|h1
  ·exact absurd (fun t=>by rw[h,jU h1,jU (a:=(0,fun _=>(0:Rat))) rfl,Rat.mul_zero]) h0
  ·exact h1
 have hcf:∀i,eF c i=eF (cB a b) i:=sO fun t=>by rw[h,cS]
 refine⟨ha,hb,?_⟩
 have h1:a.1-1+(b.1-1)<c.1:=by
  rcases Nat.lt_or_ge (a.1-1+(b.1-1)) c.1 with h2|h2
  ·exact h2
  ·exact absurd (by rw[<-hcf];unfold eF;rw[if_neg (by omega)]) (M0 ha hb ta tb)
 have h2:¬a.1-1+(b.1-1)+1<c.1:=fun h3=>by
  have:=G3 hc tc
  rw[hcf]at this
  refine this ?_
  show(if _<a.1+b.1+1 then kB a.1 b.1 (eF a) (eF b) (c.1-1)else 0)=0
  split
  ·unfold kB
   refine oF fun i hi=>oF fun j hj=>?_
   have z:∀{c:PP} {i:Nat},c.1<=i->eF c i=0:=fun h=>by unfold eF;rw[if_neg (by omega)]
   by_cases h4:i+j=c.1-1
   ·rw[if_pos h4]
    by_cases h5:a.1<=i
    ·rw[z h5,Rat.zero_mul]
    ·rw[z (c:=b) (i:=j) (by omega),Rat.mul_zero]
   ·rw[if_neg h4]
  ·rfl
 omega
theorem Dv.len {h g:PP} (hd:Dv h g) (hg:0<g.1) (tg:Trim g) (th:Trim h):h.1<=g.1:=by
 obtain⟨w,hw⟩:=hd
 have:=qZ (b:=cA w) (fun t=>by rw[hw,fj]) hg tg th gk
 omega
structure jA (c h f:PP):Prop where
 eq:∀t,aK c t=aK h t*aK f t
 dv:Dv h (bC c)
theorem jA.one:jA ic ic ic:=⟨fun t=>by rw[jn,Rat.mul_one],⟨bC ic,fun t=>by rw[jn,Rat.one_mul]⟩⟩
theorem jA.F2 {c h f q c':PP} (s:jA c h f) (e:∀t,aK c' t=aK c t*aK q t):jA c' h (cB f q):=
 ⟨fun t=>by rw[e,s.eq,cS,Rat.mul_assoc],Dv.comb (u:=q) (v:=bC q) s.dv ⟨f,s.eq⟩ fun t=>by rw[jS,nu e,jS,jS];grind⟩
theorem jA.KC {c h f q c':PP} (s:jA c h f) (e:∀t,aK c' t=aK c t*aK q t*aK q t):jA c' (cB h q) (cB f q):=by
 refine⟨fun t=>by rw[e,s.eq,cS,cS];grind,?_⟩
 obtain⟨w,hw⟩:=s.dv
 refine⟨jE (cB w q) (iA 2 (cB f (bC q))),fun t=>?_⟩
 have e1:∀t,aK (cB c q) t=aK c t*aK q t:=fun t=>cS
 have e2:∀t,aK c' t=aK (cB c q) t*aK q t:=fun t=>by rw[e,e1]
 have hw':eM c t=aK h t*aK w t:=by rw[<-jS];exact hw t
 rw[jS,nu e2,nu e1,e1,hw',kz,gT,cS,cS,cS,jS,s.eq]
 grind
theorem XX {c h f:PP} (s:jA c h f) (hc:0<c.1) (tc:Trim c):(bQ c).1<=(cA f).1:=by
 obtain⟨h1,h2,h3⟩:=qZ (a:=cA h) (b:=cA f) (fun t=>by rw[s.eq,fj,fj]) hc tc gk gk
 have hd:Dv h c:=⟨f,s.eq⟩
 have hg:Dv (cA h) (bW c (bC c)):=by
  have:=Hh hd s.dv
  exact this.imp fun w hw t=>by rw[hw,fj]
 have hl:=hg.len (nF hc) (kH tc dZ) gk
 unfold bQ
 rw[if_neg (by omega)]
 show bK _ _<=_
 refine Nat.le_trans fN ?_
 omega
end Go.Am
namespace Go.Am.B
open Go Go.Am.N AV ag aq IntKind Proofs.Tryz
def oN (d:Nat):bk:=nG::(57,uu)::(59,CE)::(s4,GY)::(nq,qR d)::(70,CM)::(72,A5)::(73,rR)::(74,Gf)::gL
abbrev Im:Code:=aH f18
abbrev zE:Code:=part Im [1,1,1,1,1,1,1,1,1]
abbrev vu:Code:=part zE [1,1,1,1,1]
abbrev yc:Code:=part vu [0,1,0,0]
abbrev yp:Code:=part yc [1,0,0]
abbrev G0:List Nat:=[2,3,4,6,7,8,9,10]
abbrev Lt (a:PP):List AV:=[.nil,.int .i64 0,aA a,.ptr 0 0 1 0 [],.ptr 3 0 1 0 [],.ptr 1 0 1 0 [],.ptr 4 0 3 0 [],.ptr 5 0 3 0 []]
abbrev QI (n:Nat) (c:Nat->PP) (l:List (Rat×Rat)):aE:=[(0,wh 2 l.length),(1,sF n c 0 1),(2,nC l),(3,⟨false,false,1,1,fun _=>BA n c⟩),(4,tR 0 af),(5,tR 1 af)]
abbrev Aq:List Nat:=[4,11,50,51,52]
abbrev Ln (l:List (Rat×Rat)) (g:Nat->Nat) (m:Nat):au:=⟨true,true,7,m,fun j=>.agg [cy l j,.int .i64 (g j)]⟩
abbrev DN (a:PP) (m i:Nat):List AV:=[aA a,.own 1 7 0 i,.own 0 6 0 m,.int .i64 m,.int .i64 i]
abbrev BW (l:List (Rat×Rat)) (g:Nat->Nat) (i:Nat):aE:=[(0,nC l),(1,Ln l g i)]
abbrev sE:List Nat:=[4,11]
abbrev Bn (a:PP) (m:Nat):List AV:=[aA a,.own 0 7 0 m]
abbrev s9 (l:List (Rat×Rat)) (g:Nat->Nat) (m:Nat):aE:=[(0,Ln l g m)]
abbrev zh:List Nat:=[4,11,14,75,76,77]
abbrev G4 (a:PP) (n:Nat) (c:Nat->PP) (m i:Nat):List AV:=[aA a,.own 0 7 0 m,eO n c,.own 0 7 0 m,.int .i64 m,.int .i64 i]
abbrev vN (v w:AV):au:=⟨false,true,1,1,fun j=>if(j==0)=true then v else w⟩
abbrev vM (v w:AV):au:=⟨false,true,3,1,fun j=>if(j==0)=true then v else w⟩
def fX (a:PP):Nat->PP
 |0=>bW a (bC a)
 |j+1=>bW (fX a j) (bC (fX a j))
def pY (a:PP):Nat->Nat->Nat
 |0,j=>j
 |f+1,j=>if 1<(fX a j).1 then pY a f (j+1)else j
def lQ (a:PP) (l:List (Rat×Rat)):Nat->Nat->Nat
 |0,_=>1
 |j+1,i=>if qn (bA (fX a j)) (bh (fX a j)) (cj l i).1 (cj l i).2=true then lQ a l j i+1 else lQ a l j i
def lG (d n:Nat) (c:Nat->PP):List (Rat×Rat):=(if cr (c 0) 0=0 then [(0,0)]else [])++bG n c d 0 1++(if cr (c 0) 1=0 then [(1,1)]else [])
def iG (d:Nat) (p:PP):List (Rat×Rat):=if(aF p).1=0 then []else lG d (bA (aF p)) (bh (aF p))
def qL (d:Nat) (p:PP) (i:Nat):Nat:=lQ (aF p) (iG d p) (pY (aF p) (aF p).1 0) i
abbrev nM (l:List (Rat×Rat)) (g:Nat->Nat) (j:Nat):AV:=.agg [cy l j,.int .i64 (g j)]
abbrev EH (d:Nat) (p:PP):AV:=.tuple [.ak 7 (iG d p).length (nM (iG d p) (qL d p)),.int .i64 (if(aF p).1=0 then 3 else 0)]
def Ht (x:PP):Prop:=cN (x.1-1) (cR x.2)/\pK (x,bC x)
def CA (d:Nat) (p:PP):Prop:=kD p/\((aF p).1≠0->nO (aF p)/\bA (aF p)<2^40/\cq (bA (aF p)) (bh (aF p)) 0/\cq (bA (aF p)) (bh (aF p)) 1/\jO (bA (aF p)) (bh (aF p)) d 0 1/\(iG d p).length<2^30/\Ht (aF p)/\
 ∀j,1<(fX (aF p) j).1->Ht (fX (aF p) j)/\nO (fX (aF p) j)/\bA (fX (aF p) j)<2^40/\∀i,i<(iG d p).length->cq (bA (fX (aF p) j)) (bh (fX (aF p) j)) (cj (iG d p) i).1/\cq (bA (fX (aF p) j)) (bh (fX (aF p) j)) (cj (iG d p) i).2)
theorem KZ:bf 18 f18:=bg func18
theorem afT {d:Nat} {p:PP}:aI T (oN d) [20] 60 G0 (before Im [1,1,1,1,1,1,1,1,1]) ⟨aU 0 [aA p],[],0⟩=
  some (aj [aR p,kD p] (fork (((aF p).1:Int)==0) (leaf ret ([.nil,.int .i64 3,aA (aF p),.tuple [],.tuple [],.tuple [],.tuple [],.tuple []],[]))
   (aj [aR (aF p),nO (aF p),(0:Nat)<1] (aj [(0:Nat)<1] (aj [(0:Nat)<1] (aj [-2^63<=(0:Int),(0:Int)<2^63,-2^63<=(1:Int),(1:Int)<2^63,(0:Nat)<1,(0:Nat)<1]
    (leaf normal ([.nil,.int .i64 0,aA (aF p),.ptr 49152 0 1 0 [],.ptr 57344 0 1 0 [],.ptr 65536 0 1 0 [],.ptr 86016 0 3 0 [],.ptr 90112 0 3 0 []],
     [(65536,vN (OU (bA (aF p)) (bh (aF p)) 49152 65536) .void),(49152,⟨false,true,1,1,fun _=>.nil⟩),(90112,vM (.rat ((1:Int):Rat) (max 1 (bV (Int.natAbs 1)))) (.rat 0 1)),(86016,vM (.rat ((0:Int):Rat) (max 1 (bV (Int.natAbs 0)))) (.rat 0 1)),(57344,⟨false,false,1,1,fun j=>if(j==0)=true then BA (bA (aF p)) (bh (aF p))else .void⟩)])))))))):=ah
theorem Sy {d n:Nat} {c:Nat->PP} {a:PP} {l:List (Rat×Rat)}:aI T (oN d) [29,41] 60 Aq (before zE [1,1,1,1,0,1]) ⟨aC G0 (Lt a),QI n c l,6⟩=
  let c36:AV:=rat 0 1;let c35:Prop:=n<2^40;let c30:Prop:=0<n;let c29:Nat:=l.length;let c28:Nat:=2^47;let c27:Nat:=112+1;let c26:PP:=bu (aA (c 0));let c25:AV:=rat 1 af;let c24:AV:=own 73734 7 0 0;let c23:Prop:=af<=af;let c22:Prop:=jO n (fun i=>bu (aA (c i))) d 0 1;let c21:Int:=(↑(120:Nat):Int);let c20:Prop:=(0:Int)<=0;let c17:List AV:=[int i64 0];let c16:Prop:=az [∀(i:Nat),i<n->aW (aA (c i)) (aA (bu (aA (c i))))];let c14:Prop:=1*6<=2^24;let c10:Int:=(2:Int)^47;let c8:List (Rat×Rat):=bG n (fun i=>bu (aA (c i))) d 0 1;let c6:AV:=ak 3 a.fst fun i=>rat (a.snd i) af;let c5:Prop:=aW (eO n c) (eO n fun i=>bu (aA (c i)));let c3:Prop:=0<1;let c15:Nat:=c29+1;let c11:Rat:=cr c26 1;let c9:List Prop:=[c3,c3,c23,∀(i:Nat),i<n->aW (aA (c i)) (aA (bu (aA (c i)))),c30,cq n (fun i=>bu (aA (c i))) 1];let c7:AV:=agg [c36,c36];let c2:List (Rat×Rat):=jF (cy l) c29++c8;let c19:Nat:=c2.length;let c4:au:=au.mk true true 7 0 fun x=>agg (c7::c17);let c1:List (Rat×Rat):=jF (fun i=>if i<c29 then cy l i else nth [agg [rat 0 af,rat 0 af]] c7 (i-c29+0)) c15++c8;let c33:Int:=(↑c19:Int);let c18:Nat:=c1.length;let c13:Nat:=c19+1;let c34:Int:=(↑c13:Int);let c31:Int:=(↑c18:Int);let c12:Nat:=c18+1;let c32:Int:=(↑c12:Int);some (aj [c3,c3,c23,∀(i:Nat),i<n->aW (aA (c i)) (aA (bu (aA (c i)))),c30,cq n (fun i=>bu (aA (c i))) 0] (fork (decide (cr c26 0=0)) (aj [c3,c3,c23,c14,c15*c27*2<=c28,c3] (aj [c3,c3,c3,az [c23],az [c23],c16,c5,c5,c5,c15=c15,∀(i:Nat),i<c15->(if i<c29 then cy l i else nth [agg [rat 0 af,rat 0 af]] c7 (i-c29+0)).keys=[]/\aW (if i<c29 then cy l i else nth [agg [rat 0 af,rat 0 af]] c7 (i-c29+0)) (dA (mF (if i<c29 then cy l i else nth [agg [rat 0 af,rat 0 af]] c7 (i-c29+0))).fst (mF (if i<c29 then cy l i else nth [agg [rat 0 af,rat 0 af]] c7 (i-c29+0))).snd af),c30,c35,c22,c15+c8.length<2^30] (aj c9 (fork (decide (c11=0)) (aj [c3,c3,c23,c14,c12*c27*2<=c28,c3] (aj [c3,c20/\(0:Int)<=c32/\c32<=c10/\c32*c21<=c10] (aj [c3] (leaf normal (c6::own 98310 7 0 0::own 81926 6 0 c12::int i64 c32::c17,[(81926,au.mk true true 6 c12 fun i=>if i<c18 then cy c1 i else nth [agg [c25,c25]] c7 (i-c18+0)),((98310:Nat),c4)]))))) (aj [c3,c20/\(0:Int)<=c31/\c31<=c10/\c31*c21<=c10] (aj [c3] (leaf normal (c6::c24::own 49158 6 0 c18::int i64 c31::c17,[(49158,au.mk true true 6 c18 fun i=>agg [rat (cj c1 i).fst af,rat (cj c1 i).snd af]),((73734:Nat),c4)])))))))) (aj [c3,c3,c3,az [c23],az [c23],c16,c5,c5,c5,c29=c29,∀(i:Nat),i<c29->(cy l i).keys=[]/\aW (cy l i) (dA (aM (rat (cj l i).fst af)) (aM (rat (cj l i).snd af)) af),c30,c35,c22,c29+c8.length<2^30] (aj c9 (fork (decide (c11=0)) (aj [c3,c3,c23,c14,c13*c27*2<=c28,c3] (aj [c3,c20/\(0:Int)<=c34/\c34<=c10/\c34*c21<=c10] (aj [c3] (leaf normal (c6::c24::own 57350 6 0 c13::int i64 c34::c17,[(57350,au.mk true true 6 c13 fun i=>if i<c19 then cy c2 i else nth [agg [c25,c25]] c7 (i-c19+0)),((73734:Nat),c4)]))))) (aj [c3,c20/\(0:Int)<=c33/\c33<=c10/\c33*c21<=c10] (aj [c3] (leaf normal (c6::own 49158 7 0 0::own 24582 6 0 c19::int i64 c33::c17,[(24582,au.mk true true 6 c19 fun i=>agg [rat (cj c2 i).fst af,rat (cj c2 i).snd af]),((49158:Nat),c4)]))))))))):=ah
theorem Y8 {d m i:Nat} {a:PP} {l:List (Rat×Rat)} {g:Nat->Nat}:aI T (oN d) [53] 60 Aq [part zE [1,1,1,1,0,1,0,0]] ⟨aC Aq (DN a m i),BW l g i,2⟩=
  let c8:AV:=rat 0 1;let c7:Int:=(↑m:Int);let c5:AV:=own 0 6 0 m;let c3:AV:=ak 3 a.fst fun i=>rat (a.snd i) af;let c2:Int:=(↑i:Int);let c1:Nat×au:=(0,au.mk true true 6 l.length fun i=>agg [rat (cj l i).fst af,rat (cj l i).snd af]);let c6:Int:=c2+1;let c4:Nat:=c2.toNat+0;some (fork (decide (c2<c7)) (aj [(0:Int)<=c2/\c2.toNat<m,c4<l.length,(0:Nat)<1] (aj [(0:Nat)<1,(1:Nat)*7<=2^24,(i+1)*((120:Nat)+1)*2<=2^47] (aj [-(2:Int)^63<=c6/\c6<2^63] (leaf normal ([c3,own 36866 7 0 (i+1),c5,int i64 c7,int i64 c6],[c1,(36866,au.mk true true 7 (i+1) fun i_1=>if i_1<i then agg [cy l i_1,int i64 (↑(g i_1):Int)]else nth [agg [agg [rat (cj l c4).fst af,rat (cj l c4).snd af],int i64 1]] (agg [agg [c8,c8],int i64 0]) (i_1-i+0))]))))) (leaf (exit 0) ([c3,own 1 7 0 i,c5,int i64 c7,int i64 c2],[c1,(1,au.mk true true 7 i fun j=>agg [agg [rat (cj l j).fst af,rat (cj l j).snd af],int i64 (↑(g j):Int)])]))):=ah
theorem acp {d m i:Nat} {a:PP} {l:List (Rat×Rat)} {g:Nat->Nat}:aI T (oN d) [] 60 sE (before vu [0,1]) ⟨aC Aq (DN a m i),BW l g i,2⟩=
  let c6:Nat×(Nat->Rat):=(a.fst,fun i=>aM (rat (a.snd i) af));let c4:Prop:=cP (fun i=>rat (a.snd i) af) a.fst af;let c1:Nat:=bK (cR fun i=>aM (rat (a.snd i) af)) (a.fst-1);let c3:Nat×(Nat->Rat):=(c1,fun i=>aM (rat (cR (fun i=>aM (rat (a.snd i) af)) i) af));let c2:PP×PP:=(c6,c3);let c5:PP:=(bT c2 c1).fst;some (aj [c4,a.fst<2^40,cN (a.fst-1) (cR fun i=>aM (rat (a.snd i) af)),c4,cP (fun i=>rat (cR (fun i=>aM (rat (a.snd i) af)) i) af) c1 af,a.fst<2^30,c1<2^30,Trim c6,Trim c3,pK c2] (leaf normal ([ak 3 c5.fst fun i=>rat (cL c5.fst c5.snd i) af,own 1 7 0 i],[(1,au.mk true true 7 i fun j=>agg [agg [rat (cj l j).fst af,rat (cj l j).snd af],int i64 (↑(g j):Int)])]))):=ah
theorem UC {d m:Nat} {a:PP} {l:List (Rat×Rat)} {g:Nat->Nat}:aI T (oN d) [68] 60 sE (before yc [1,0]) ⟨aC sE (Bn a m),s9 l g m,1⟩=
  let c1:List AV×aE:=([ak 3 a.fst fun i=>rat (a.snd i) af,own 0 7 0 m],[(0,au.mk true true 7 m fun j=>agg [agg [rat (cj l j).fst af,rat (cj l j).snd af],int i64 (↑(g j):Int)])]);some (fork (decide ((↑a.fst:Int)>1)) (leaf normal c1) (leaf (exit 2) c1)):=ah
theorem Sr {d m:Nat} {a:PP} {l:List (Rat×Rat)} {g:Nat->Nat}:aI T (oN d) [] 60 zh (before yp [1,1]) ⟨aC sE (Bn a m),s9 l g m,1⟩=
  let c2:AV:=own 0 7 0 m;let c1:Nat×(Nat->Rat):=(a.fst,fun i=>aM (rat (a.snd i) af));some (aj [cP (fun i=>rat (a.snd i) af) a.fst af,nO c1] (leaf normal ([ak 3 a.fst fun i=>rat (a.snd i) af,c2,ak 1 (bA c1) fun i=>ak 3 (bh c1 i).fst fun i_1=>rat ((bh c1 i).snd i_1) af,c2,int i64 (↑m:Int),int i64 0],[(0,au.mk true true 7 m fun j=>agg [agg [rat (cj l j).fst af,rat (cj l j).snd af],int i64 (↑(g j):Int)])]))):=ah
theorem abw {d m n i:Nat} {a:PP} {c:Nat->PP} {l:List (Rat×Rat)} {g:Nat->Nat}:aI T (oN d) [78,86] 60 zh [part yp [1,1,0,0]] ⟨aC zh (G4 a n c m i),s9 l g m,1⟩=
  let c14:Int:=(↑m:Int);let c8:AV:=ak 3 a.fst fun i=>rat (a.snd i) af;let c7:AV:=ak 1 n fun i=>ak 3 (c i).fst fun i_1=>rat ((c i).snd i_1) af;let c6:Int:=(2:Int)^63;let c5:AV:=own 0 7 0 m;let c4:Int:=(↑i:Int);let c3:Nat×au:=(0,au.mk true true 7 m fun j=>agg [agg [rat (cj l j).fst af,rat (cj l j).snd af],int i64 (↑(g j):Int)]);let c13:Int:=c4+1;let c11:Prop:=(0:Int)<=c4/\c4.toNat<m;let c1:Nat:=c4.toNat+0;let c12:Int:=(↑(g c1):Int)+1;let c10:AV:=rat (cj l c1).fst af;let c9:AV:=rat (cj l c1).snd af;let c2:List AV:=[c8,c5,c7,c5,int i64 c14,int i64 c13];some (fork (decide (c4<c14)) (aj [c11,c1<m,∀(i:Nat),i<n->aW (aA (c i)) (aA (bu (aA (c i)))),aW c10 (rat (aM c10) af),aW c9 (rat (aM c9) af),(0:Nat)<n,n<2^40,cq n (fun i=>bu (aA (c i))) (aM c10),cq n (fun i=>bu (aA (c i))) (aM c9)] (fork (qn n (fun i=>bu (aA (c i))) (aM c10) (aM c9)) (aj [c11,c1<m,-c6<=c12/\c12<c6,c11,c1<m] (aj [-c6<=c13/\c13<c6] (leaf normal (c2,[(0,au.mk true true 7 m fun j=>agg [agg [rat (bif j==c1 then(cj l c1).fst else(cj l j).fst) (bif j==c1 then af else af),rat (bif j==c1 then(cj l c1).snd else(cj l j).snd) (bif j==c1 then af else af)],oA (j==c1) (int i64 c12) (int i64 (↑(g j):Int))])])))) (aj [-c6<=c13/\c13<c6] (leaf normal (c2,[c3]))))) (leaf (exit 4) ([c8,c5,c7,c5,int i64 c14,int i64 c4],[c3]))):=ah
theorem WS {d m n i:Nat} {a:PP} {c:Nat->PP} {l:List (Rat×Rat)} {g:Nat->Nat}:aI T (oN d) [] 60 sE (behind yp [1,1]++[part yc [1,1]]) ⟨aC zh (G4 a n c m i),s9 l g m,1⟩=
  let c6:Nat×(Nat->Rat):=(a.fst,fun i=>aM (rat (a.snd i) af));let c4:Prop:=cP (fun i=>rat (a.snd i) af) a.fst af;let c1:Nat:=bK (cR fun i=>aM (rat (a.snd i) af)) (a.fst-1);let c3:Nat×(Nat->Rat):=(c1,fun i=>aM (rat (cR (fun i=>aM (rat (a.snd i) af)) i) af));let c2:PP×PP:=(c6,c3);let c5:PP:=(bT c2 c1).fst;some (aj [c4,a.fst<2^40,cN (a.fst-1) (cR fun i=>aM (rat (a.snd i) af)),c4,cP (fun i=>rat (cR (fun i=>aM (rat (a.snd i) af)) i) af) c1 af,a.fst<2^30,c1<2^30,Trim c6,Trim c3,pK c2] (leaf normal ([ak 3 c5.fst fun i=>rat (cL c5.fst c5.snd i) af,own 0 7 0 m],[(0,au.mk true true 7 m fun j=>agg [agg [rat (cj l j).fst af,rat (cj l j).snd af],int i64 (↑(g j):Int)])]))):=ah
theorem Uq {d m:Nat} {a:PP} {l:List (Rat×Rat)} {g:Nat->Nat}:cQ T (oN d) [] 60 f18 [part vu [1]] ⟨aC sE (Bn a m),s9 l g m,1⟩=
  some (leaf ret [ak 7 m fun i=>agg [agg [rat (cj l (i+0)).fst af,rat (cj l (i+0)).snd af],int i64 (↑(g (i+0)):Int)],int i64 0]):=ah
theorem Di {d:Nat}:bR P (oN d):=gi (aJ HF (aJ Hy (aJ Py (aJ (Lf d) (aJ IG (aJ HH (aJ Iw (aJ OJ gQ))))))))
theorem Qa {a:PP} (ta:Trim a) (h:1<a.1):(bW a (bC a)).1<a.1:=by
 have h1:(bC a).1=a.1-1:=pS (.inr (by
  unfold cR
  rw[show a.1-1-1+1=a.1-1 by omega]
  intro h0
  rcases Rat.mul_eq_zero.1 h0 with h0|h0
  ·have h0:((a.1-1:Nat):Int)=0:=Rat.intCast_inj.1 h0
   omega
  ·rcases ta with h2|h2
   ·omega
   ·exact h2 h0))
 have h2:=(An ta (dZ (a:=a))).2.len aa dZ (kH ta dZ)
 omega
theorem vk {a:PP} (ta:Trim a):∀j,Trim (fX a j)
 |0=>kH ta dZ
 |j+1=>kH (vk ta j) dZ
theorem CH {a:PP} (ta:Trim a):(bW a (bC a)).1<=a.1:=wB (s:=(a,bC a)) aT (Nat.le_trans fN (Nat.sub_le _ _)) ta dZ _
theorem Gz {a:PP} (ta:Trim a):∀j,(fX a j).1<=a.1
 |0=>CH ta
 |j+1=>Nat.le_trans (CH (vk ta j)) (Gz ta j)
theorem Lq {a:PP} (ta:Trim a):∀f j,(fX a j).1<=f->(fX a (pY a f j)).1<=1/\(∀i,j<=i->i<pY a f j->1<(fX a i).1)/\j<=pY a f j
 |0,j,h=>⟨by show(fX a j).1<=1;omega,fun i h1 h2=>by have:i<j:=h2;omega,aT⟩
 |f+1,j,h=>by
  unfold pY
  split
  ·rename_i h1
   have:=Qa (vk ta j) h1
   obtain⟨g1,g2,g3⟩:=Lq ta f (j+1) (by show(bW _ _).1<=f;omega)
   refine⟨g1,fun i h2 h3=>?_,aa⟩
   rcases Nat.eq_or_lt_of_le h2 with h4|h4
   ·rw[<-h4];exact h1
   ·exact g2 i h4 h3
  ·exact⟨aa,fun i h1 h2=>aa,aT⟩
theorem J7 {a:PP}:∀f j,pY a f j<=j+f
 |0,j=>aT
 |f+1,j=>by
  unfold pY
  split
  ·have:=J7 (a:=a) f (j+1);omega
  ·omega
theorem LR {a:PP} {l:List (Rat×Rat)} {i:Nat}:∀j,lQ a l j i<=j+1
 |0=>aT
 |j+1=>by
  have:=LR (a:=a) (l:=l) (i:=i) j
  unfold lQ;split<;>omega
theorem acC {k es:Nat} (h:0<es):aW .nil (.own k es 0 0):=by
 refine⟨rfl,fun M w cs hc=>?_⟩
 cases hc with
 |vnil h1=>cases h1;exact .own0 h .nil
def iS (a:PP) (l:List (Rat×Rat)) (k i x:Nat):Nat:=if x<i then lQ a l (k+1) x else lQ a l k x
abbrev uM (a:PP) (l:List (Rat×Rat)) (k i:Nat):Bool:=qn (bA (fX a k)) (bh (fX a k)) (cj l i).1 (cj l i).2
theorem LY {a:PP} {l:List (Rat×Rat)} {k i:Nat}:lQ a l (k+1) i=if uM a l k i=true then lQ a l k i+1 else lQ a l k i:=rfl
theorem Hf {a:PP} {l:List (Rat×Rat)} {k i:Nat}:iS a l k i i=lQ a l k i:=if_neg aa
theorem Nf {a:PP} {l:List (Rat×Rat)} {k i x:Nat} (h:x≠i):iS a l k (i+1) x=iS a l k i x:=by
 unfold iS
 by_cases h1:x<i
 ·rw[if_pos h1,if_pos aa]
 ·rw[if_neg h1,if_neg aa]
theorem ais {a:PP} {l:List (Rat×Rat)} {k i:Nat} (h:uM a l k i=true):iS a l k (i+1) i=iS a l k i i+1:=by
 rw[Hf];unfold iS
 rw[if_pos aa,LY,if_pos h]
theorem TX {a:PP} {l:List (Rat×Rat)} {k i:Nat} (h:uM a l k i=false):iS a l k (i+1)=iS a l k i:=by
 funext x
 by_cases hx:x=i
 ·subst hx
  rw[Hf];unfold iS
  rw[if_pos aa,LY,if_neg (by rw[h];decide)]
 ·exact Nf hx
theorem QN {a:PP} {l:List (Rat×Rat)} {k i c j:Nat} (hc:c=i) (h:uM a l k i=true):
  AV.agg [.agg [.rat (bif j==c then(cj l c).1 else(cj l j).1) (bif j==c then af else af),.rat (bif j==c then(cj l c).2 else(cj l j).2) (bif j==c then af else af)],oA (j==c) (.int .i64 ((iS a l k i c:Nat)+1)) (.int .i64 (iS a l k i j:Nat))]=nM l (iS a l k (i+1)) j:=by
 subst hc
 by_cases hj:j=c
 ·subst hj
  rw[beq_self_eq_true]
  show AV.agg [cy l j,.int .i64 ((iS a l k j j:Nat)+1)]=AV.agg [cy l j,.int .i64 (iS a l k (j+1) j:Nat)]
  rw[ais h];rfl
 ·rw[show(j==c)=false by simp[hj]]
  show AV.agg [cy l j,.int .i64 (iS a l k c j:Nat)]=AV.agg [cy l j,.int .i64 (iS a l k (c+1) j:Nat)]
  rw[Nf hj]
theorem ZN {l:List (Rat×Rat)} {p:Rat×Rat} {z:AV} {i:Nat} (hi:i<l.length+1):keys (if i<l.length then cy l i else nth [dA p.1 p.2 af] z (i-l.length+0))=[]/\
  aW (if i<l.length then cy l i else nth [dA p.1 p.2 af] z (i-l.length+0)) (dA (mF (if i<l.length then cy l i else nth [dA p.1 p.2 af] z (i-l.length+0))).1 (mF (if i<l.length then cy l i else nth [dA p.1 p.2 af] z (i-l.length+0))).2 af):=by
 rw[vh hi];exact⟨rfl,.refl _⟩
theorem DI {a:PP} {l:List (Rat×Rat)} {g:Nat->Nat} {k0 k1 M:Nat} {row:au} {z:Nat->AV} (hM:l.length=M) (hrow:row=⟨true,true,6,M,row.f⟩) (hf:∀i,i<l.length->row.f i=cy l i) (hne:k0≠k1):
  dS [] ([aA a,.own k1 7 0 0,.own k0 6 0 M,.int .i64 M,.int .i64 0],[(k0,row),(k1,⟨true,true,7,0,z⟩)]) (DN a l.length 0) (BW l g 0) 2:=by
 subst hM
 have e1:look k1 [(k0,row),(k1,(⟨true,true,7,0,z⟩:au))]=some ⟨true,true,7,0,z⟩:=by simp[look,hne]
 have e0:look k0 [(k0,row),(k1,(⟨true,true,7,0,z⟩:au))]=some ⟨true,true,6,l.length,row.f⟩:=by rw[<-hrow];simp[look]
 exact⟨[(0,k0),(1,k1)],by simp[jb,hne,Ne.symm hne],rfl,rfl,br rfl e0 rfl (fun i hi=>bN (by rw[hf i hi];rfl) (hf i hi)) (br rfl e1 rfl (fun i hi=>absurd hi (Nat.not_lt_zero _)) trivial)⟩
theorem ac2 {d:Nat} {p:PP} (hz:CA d p) (K:Nat):aQ P 18 K [aA p] [] (aL (EH d p) []):=by
 have hW:=cF
 obtain⟨z1,z2⟩:=hz
 refine iw (r:=aL (EH d p) []) hT KZ rfl aX rfl (fun _ cx h0=>?_) K []
 have hk:=lX h0
 refine ax.Gt hT Di hm (x:=Im) [1,1,1,1,1,1,1,1,1] ah ah KZ.dst hk (f1:=[20]) 60 G0 6 (fun _:Unit=>Lt (aF p)) (fun _=>QI (bA (aF p)) (bh (aF p)) []) (fun _=>(aF p).1≠0) ⟨_,afT (d:=d),?_⟩ (fun _ hne=>?_)
 ·simp only[ag.all,az,beq_iff_eq,beq_eq_false_iff_ne,ne_eq]
  refine⟨⟨ek aT,z1⟩,fun h s' hv=>?_,fun h=>?_⟩
  ·have h:(aF p).1=0:=aa
   have e1:iG d p=[]:=if_pos h
   refine tT.fin ⟨[.nil,.int .i64 3],rfl,?_⟩ hv
   show ir [.nil,.int .i64 3] [.ak 7 (iG d p).length (nM (iG d p) (qL d p)),.int .i64 (if(aF p).1=0 then 3 else 0)]
   rw[e1,if_pos h]
   exact⟨lZ aa,.refl _,trivial⟩
  ·have h:(aF p).1≠0:=aa
   obtain⟨y1,y2,y3,y4,y5,y6,y7,y8⟩:=z2 h
   refine⟨⟨ek aT,y1,aa⟩,aa,aa,⟨aa,aa,aa,aa,aa,aa⟩,(),h,[(0,49152),(1,65536),(3,57344),(4,86016),(5,90112)],rfl,rfl,rfl,?_⟩
   refine kg rfl rfl (.inr ⟨rfl,acC aa⟩) (kg rfl rfl (.inl (.inr (FW ⟨⟨rfl,iV rfl (.refl _)⟩,⟨rfl,iL rfl⟩,⟨rfl,iL rfl⟩,⟨rfl,iV rfl (.refl _)⟩,trivial⟩ rfl))) (kZ rfl aa aa (cG (kg rfl rfl (.inr ⟨rfl,dy rfl (by rw[hW];decide)⟩) (kg rfl rfl (.inr ⟨rfl,dy rfl (by rw[hW];decide)⟩) trivial)))))
 ·obtain⟨y1,y2,y3,y4,y5,y6,y7,y8⟩:=z2 hne
  have hsm:0<bA (aF p):=Nat.succ_pos _
  have hl:iG d p=lG d (bA (aF p)) (bh (aF p)):=if_neg hne
  obtain⟨l,hll⟩:∃l,l=iG d p:=⟨_,rfl⟩
  rw[<-hll]at y6 y8
  have hl2:l=(if cr (bh (aF p) 0) 0=0 then [(0,0)]else [])++bG (bA (aF p)) (bh (aF p)) d 0 1++(if cr (bh (aF p) 0) 1=0 then [(1,1)]else []):=by rw[hll,hl];rfl
  refine ax.oD hT Di hm (x:=zE) [1,1,1,1,0,1] (i:=0) (y:=part zE [1,1,1,1,0,1,0,0]) (z:=vu) ah ah ah ah hk (f1:=[29,41]) (f2:=[53]) 60 Aq 2 (fun i:Nat=>DN (aF p) l.length i) (fun i=>BW l (fun _=>1) i) (fun i=>i<=l.length) (fun i=>i=l.length) (fun i=>l.length-i) (fun _=>False)
   ⟨_,Sy (d:=d),?_⟩ (fun i hi=>⟨_,Y8 (d:=d),?_⟩) (fun i hi=>?_) fun _ _ h=>h.elim
  ·have hC:(fun i=>bu (aA (bh (aF p) i)))=bh (aF p):=rfl
   have hC0:bu (aA (bh (aF p) 0))=bh (aF p) 0:=rfl
   have h00:([]:List (Rat×Rat)).length=0:=rfl
   have e0:jF (fun i=>if i<([]:List (Rat×Rat)).length then cy [] i else nth [.agg [.rat 0 af,.rat 0 af]] (.agg [.rat 0 1,.rat 0 1]) (i-([]:List (Rat×Rat)).length+0)) (([]:List (Rat×Rat)).length+1)=[(0,0)]:=Jr (l:=[]) (p:=(0,0))
   simp only[ag.all,az,hC,hC0,Pm,e0,bB,bD]
   have hm:(bG (bA (aF p)) (bh (aF p)) d 0 1).length<=l.length:=by rw[hl2];simp only[List.length_append];omega
   refine⟨⟨aa,aa,aT,fun i _=>.refl _,hsm,y3⟩,fun r0=>⟨⟨aa,aa,aT,aa,aa,aa⟩,⟨aa,aa,aa,aT,aT,fun i _=>.refl _,.refl _,.refl _,.refl _,trivial,?_,hsm,y2,y5,?_⟩,⟨aa,aa,aT,fun i _=>.refl _,hsm,y4⟩,?_⟩,fun r0=>⟨⟨aa,aa,aa,aT,aT,fun i _=>.refl _,.refl _,.refl _,.refl _,trivial,fun i hi=>absurd hi (Nat.not_lt_zero _),hsm,y2,y5,?_⟩,⟨aa,aa,aT,fun i _=>.refl _,hsm,y4⟩,?_⟩⟩
   ·exact fun i hi=>ZN (l:=[]) (p:=(0,0)) hi
   ·show 0+1+(bG (bA (aF p)) (bh (aF p)) d 0 1).length<2^30
    rw[hl2,if_pos r0]at y6;simp only[List.length_append,List.length_cons,List.length_nil]at y6;omega
   ·refine⟨fun r1=>?_,fun r1=>?_⟩
    ·rw[if_pos r0,if_pos r1]at hl2
     have hle:l.length=([(0,0)]++bG (bA (aF p)) (bh (aF p)) d 0 1).length+1:=by rw[hl2,List.length_append];rfl
     refine⟨⟨aa,aa,aT,aa,aa,aa⟩,⟨aa,aa,aa,aa,aa⟩,aa,0,Nat.zero_le _,DI hle rfl (fun i hi=>?_) (by decide)⟩
     rw[hle]at hi;rw[hl2];exact vh (p:=(1,1)) hi
    ·rw[if_pos r0,if_neg r1,List.append_nil]at hl2
     have hl3:([(0,0)]++bG (bA (aF p)) (bh (aF p)) d 0 1).length=l.length:=by rw[<-hl2]
     refine⟨⟨aa,aa,aa,aa,aa⟩,aa,0,Nat.zero_le _,DI hl3.symm rfl (fun i hi=>by rw[hl2]) (by decide)⟩
   ·show 0+(bG (bA (aF p)) (bh (aF p)) d 0 1).length<2^30
    omega
   ·refine⟨fun r1=>?_,fun r1=>?_⟩
    ·rw[if_neg r0,if_pos r1]at hl2
     have hle:l.length=([]++bG (bA (aF p)) (bh (aF p)) d 0 1).length+1:=by rw[hl2,List.length_append];rfl
     refine⟨⟨aa,aa,aT,aa,aa,aa⟩,⟨aa,aa,aa,aa,aa⟩,aa,0,Nat.zero_le _,DI hle rfl (fun i hi=>?_) (by decide)⟩
     rw[hle]at hi;rw[hl2];exact vh (p:=(1,1)) hi
    ·rw[if_neg r0,if_neg r1,List.append_nil]at hl2
     have hl3:([]++bG (bA (aF p)) (bh (aF p)) d 0 1).length=l.length:=by rw[<-hl2]
     refine⟨⟨aa,aa,aa,aa,aa⟩,aa,0,Nat.zero_le _,DI hl3.symm rfl (fun i hi=>by rw[hl2]) (by decide)⟩
  ·have hiA:((i:Int)).toNat+0=i:=aa
   simp only[ag.all,az,bB,bD]
   refine⟨fun h=>⟨⟨aa,aa,aa⟩,⟨aa,aa,aa⟩,aa,i+1,aa,by dsimp only;omega,[(0,0),(1,36866)],rfl,by rw[show(i:Int)+1=((i+1:Nat):Int) by omega];rfl,rfl,nJ (br rfl rfl rfl (fun x hx=>?_) trivial)⟩,
    fun h=>⟨rfl,i,aa,[(0,0),(1,1)],rfl,rfl,rfl,nJ (br rfl rfl rfl (fun x hx=>bN rfl rfl) trivial)⟩⟩
   rw[hiA]
   by_cases hx2:x<i
   ·rw[if_pos hx2];exact bN rfl rfl
   ·rw[if_neg hx2,NM aa,show x=i by omega];exact bN rfl rfl
  ·subst hi
   have ta:Trim (aF p):=mU
   obtain⟨J,hJ⟩:∃J,J=pY (aF p) (aF p).1 0:=⟨_,rfl⟩
   have hl0:(fX (aF p) 0).1<=(aF p).1:=Gz ta 0
   obtain⟨j1,j2,_⟩:=Lq ta (aF p).1 0 hl0
   rw[<-hJ]at j1 j2
   have hp41:(aF p).1<=41:=Nat.le_trans fN z1.2.1
   have hd:∀{x:PP},x.1<=41->(bC x).1<2^30:=fun h=>Nat.lt_of_le_of_lt fN aa
   refine ax.qH hT Di hm (x:=vu) [0,1] (i:=2) (y:=yc) (z:=part vu [1]) ah ah ah ah [1,0] (j:=3) (x1:=yp) (zb:=part yc [1,1]) ah ah ah [1,1] (i2:=4) (y2:=part yp [1,1,0,0]) ah ah rfl hk
    (f1:=[]) (f2:=[68]) (f3:=[]) (f4:=[78,86]) (f5:=[]) 60 sE zh 1 1 (fun k:Nat=>Bn (fX (aF p) k) l.length) (fun k=>s9 l (lQ (aF p) l k) l.length) (fun k=>k<=J) (fun k=>k=J) (fun k=>J-k) (fun k=>k<J) (fun _=>False) (fun _=>False)
    (fun k (i:Nat)=>G4 (fX (aF p) k) (bA (fX (aF p) k)) (bh (fX (aF p) k)) l.length i) (fun k i=>s9 l (iS (aF p) l k i) l.length) (fun _ i=>i<=l.length) (fun _ i=>i=l.length) (fun _ i=>l.length-i)
    ⟨_,acp (d:=d),?_⟩ (fun k hk=>⟨_,UC (d:=d),?_⟩) (fun k hk hG=>⟨_,Sr (d:=d),?_⟩) (fun k hk hG i hi=>⟨_,abw (d:=d),?_⟩) (fun k hk hG i hi=>⟨_,WS (d:=d),?_⟩) (fun k hk=>?_) (fun _ _ h=>h.elim) (fun _ _ h=>h.elim)
   ·simp only[ag.all,az]
    refine⟨⟨ek aT,by show(aF p).1<_;omega,y7.1,ek aT,ek aT,by show(aF p).1<_;omega,hd hp41,ta,dZ,y7.2⟩,0,Nat.zero_le _,[(0,1)],rfl,rfl,rfl,nJ trivial⟩
   ·simp only[ag.all,az,bB,bD]
    refine⟨fun h=>⟨?_,[(0,0)],rfl,rfl,rfl,nJ trivial⟩,fun h=>⟨rfl,k,?_,[(0,0)],rfl,rfl,rfl,nJ trivial⟩⟩
    ·rcases Nat.lt_or_ge k J with h2|h2
     ·exact h2
     ·have:k=J:=aa
      subst this;omega
    ·rcases Nat.lt_or_ge k J with h2|h2
     ·have:=j2 k (Nat.zero_le _) h2
      omega
     ·omega
   ·obtain⟨x1,x2,x3,x4⟩:=y8 k (j2 k (Nat.zero_le _) hG)
    simp only[ag.all,az]
    exact⟨⟨ek aT,x2⟩,0,Nat.zero_le _,[(0,0)],rfl,rfl,rfl,nJ trivial⟩
   ·obtain⟨x1,x2,x3,x4⟩:=y8 k (j2 k (Nat.zero_le _) hG)
    have hJ2:J<=(aF p).1:=by rw[hJ];have:=J7 (a:=aF p) (aF p).1 0;omega
    have hsk:0<bA (fX (aF p) k):=Nat.succ_pos _
    have hb:iS (aF p) l k i i<=42:=by rw[Hf];have:=LR (a:=aF p) (l:=l) (i:=i) k;omega
    simp only[ag.all,az,bB,bD,bJ,Nat.add_zero]
    refine⟨fun h=>⟨⟨aa,aa,fun i _=>.refl _,.refl _,.refl _,hsk,x3,(x4 i aa).1,(x4 i aa).2⟩,fun h2=>⟨⟨aa,aa,aa,aa,aa⟩,aa,i+1,aa,by dsimp only;omega,[(0,0)],rfl,by rw[show(i:Int)+1=((i+1:Nat):Int) by omega];rfl,rfl,br rfl rfl rfl (fun x hx=>?_) trivial⟩,
      fun h2=>⟨aa,i+1,aa,by dsimp only;omega,[(0,0)],rfl,by rw[show(i:Int)+1=((i+1:Nat):Int) by omega];rfl,rfl,br rfl rfl rfl (fun x hx=>?_) trivial⟩⟩,
     fun h=>⟨rfl,i,aa,[(0,0)],rfl,rfl,rfl,nJ trivial⟩⟩
    ·have h2:uM (aF p) l k i=true:=h2
     exact bN (by rw[QN rfl h2];rfl) (QN rfl h2)
    ·have h2:uM (aF p) l k i=false:=h2
     exact bN rfl (by show nM l (iS (aF p) l k i) x=_;rw[TX h2])
   ·obtain⟨x1,x2,x3,x4⟩:=y8 k (j2 k (Nat.zero_le _) hG)
    have hg41:(fX (aF p) k).1<=41:=Nat.le_trans (Gz ta k) hp41
    simp only[ag.all,az]
    refine⟨⟨ek aT,by show(fX (aF p) k).1<_;omega,x1.1,ek aT,ek aT,by show(fX (aF p) k).1<_;omega,hd hg41,vk ta k,dZ,x1.2⟩,k+1,hG,by dsimp only;omega,[(0,0)],rfl,rfl,rfl,br rfl rfl rfl (fun x hx=>bN rfl ?_) trivial⟩
    show AV.agg [cy l x,.int .i64 (iS (aF p) l k i x:Nat)]=.agg [cy l x,.int .i64 (lQ (aF p) l (k+1) x:Nat)]
    unfold iS
    rw[if_pos (show x<i by omega)]
   ·subst hk
    refine ax.lH ((aG.fin hT Di hm 60 (Uq (d:=d)) ah ?_).mono fun _ _ h=>.inl h)
    show ir [.ak 7 l.length _,.int .i64 0] [.ak 7 (iG d p).length (nM (iG d p) (qL d p)),.int .i64 (if(aF p).1=0 then 3 else 0)]
    refine⟨wg (by rw[hll]) fun i hi=>?_,cw (if_neg hne).symm,trivial⟩
    have ht:qL d p i=lQ (aF p) l k i:=by unfold qL;rw[<-hll,<-hJ]
    show _=AV.agg [cy (iG d p) i,.int .i64 (qL d p i:Nat)]
    rw[ht,<-hll];rfl
def Lk (d:Nat):Spec:=dD (kC (kL af) kN) (fun a=>EH d a.1) fun a=>[CA d a.1]
theorem Ym (d:Nat):aY P (Lk d) 18:=cO fun⟨a,_⟩ K hn=>ac2 hn K
def fC (k:Nat->Rat) (j:Nat):Nat->Int
 |0=>-1
 |l+1=>if k (j+l)=k (j+l+1)then fC k j l else(j+l:Nat)
theorem Ra {k:Nat->Rat} {j:Nat}:∀{l:Nat},k j≠k (j+l)->∃P:Nat,fC k j l=(P:Int)/\j<=P/\P<j+l/\k P≠k (P+1)
 |0,h=>absurd rfl h
 |l+1,h=>by
  unfold fC
  by_cases he:k (j+l)=k (j+l+1)
  ·rw[if_pos he]
   obtain⟨P,h1,h2,h3,h4⟩:=Ra (k:=k) (j:=j) (l:=l) (by rw[he];exact h)
   exact⟨P,h1,h2,by omega,h4⟩
  ·rw[if_neg he]
   exact⟨j+l,rfl,by omega,by omega,he⟩
theorem Kn.piece {n p:Nat} {k:Nat->Rat} (h:Kn n p k) {j:Nat} (hj:j+p+1<n):∃P:Nat,fC k j (p+1)=(P:Int)/\j<=P/\P<=j+p/\k P<k (P+1)/\p<=P/\P+p+1<n:=by
 have hp:=h.p1
 have hne:k j≠k (j+(p+1)):=by
  have hlt:k j<k (j+(p+1)):=by
   by_cases h0:j=0
   ·subst h0
    have hl:=h.len
    have a1:=h.mult 1 (by omega) (by omega)
    rw[h.first 1 (by omega),show 1+p=0+(p+1) by omega]at a1
    exact a1
   ·have a1:=h.mult j (by omega) (by omega)
    have a2:=h.mono (show j+p<=j+(p+1) by omega) (by omega)
    grind
  grind
 obtain⟨P,h1,h2,h3,h4⟩:=Ra hne
 have hs:=h.sorted P (by omega)
 refine⟨P,h1,h2,by omega,by grind,?_,?_⟩
 ·rcases Nat.lt_or_ge P p with hh|hh
  ·exact absurd (by rw[h.first P (by omega),h.first (P+1) (by omega)]) h4
  ·exact hh
 ·rcases Nat.lt_or_ge (P+p+1) n with hh|hh
  ·exact hh
  ·exact absurd (by rw[h.last P (by omega) (by omega),h.last (P+1) (by omega) (by omega)]) h4
open Go
theorem Mj {x:Int} {n:Nat} (h:x.natAbs<2^n) (hn:1<=n):Sz (x:Rat) n:=
 ⟨by rw[Rat.num_intCast];exact h,by rw[Rat.den_intCast];exact Nat.lt_of_lt_of_le (show 1<2^1 by decide) (Nat.pow_le_pow_right (by decide) hn)⟩
end Go.Am.B
namespace Go.Am
open Go
def bZ (D:Int) (s:Nat) (x:Rat):Prop:=∃z:Int,(z:Rat)=x*(D:Rat)/\z.natAbs<=2^s
theorem qw {D:Int} (h:D≠0):(D:Rat)≠0:=fun h0=>by
 have h0:(D:Rat)=((0:Int):Rat):=h0
 exact h (Rat.intCast_inj.1 h0)
theorem bZ.more {D:Int} {s t:Nat} {x:Rat} (h:bZ D s x) (ht:s<=t):bZ D t x:=h.imp fun z hz=>⟨hz.1,Nat.le_trans hz.2 (Nat.pow_le_pow_right (by decide) ht)⟩
theorem bZ.sz {D:Int} {s e:Nat} {x:Rat} (hD:D≠0) (hd:D.natAbs<=2^e) (h:bZ D s x):Sz x (s+e+2):=by
 obtain⟨z,hz,b⟩:=h
 have hx:x=(z:Rat)/(D:Rat):=by rw[hz,Rat.div_def,Rat.mul_assoc,Rat.mul_inv_cancel _ (qw hD),Rat.mul_one]
 rw[hx]
 have s1:Sz (z:Rat) (s+1):=B.Mj (Nat.lt_of_le_of_lt b (Nat.pow_lt_pow_right (by decide) aa)) aa
 have s2:Sz (D:Rat) (e+1):=B.Mj (Nat.lt_of_le_of_lt hd (Nat.pow_lt_pow_right (by decide) aa)) aa
 exact(s1.div s2).more aa
theorem bZ.zero {D:Int} {s:Nat}:bZ D s 0:=⟨0,by rw[Rat.zero_mul];rfl,Nat.zero_le _⟩
theorem bZ.int {z:Int} {s:Nat} (h:z.natAbs<=2^s):bZ 1 s (z:Rat):=⟨z,by rw[show((1:Int):Rat)=1 from rfl,Rat.mul_one],h⟩
theorem bZ.mul {D E:Int} {s t:Nat} {x y:Rat} (h:bZ D s x) (h':bZ E t y):bZ (D*E) (s+t) (x*y):=by
 obtain⟨z,hz,b⟩:=h
 obtain⟨w,hw,c⟩:=h'
 refine⟨z*w,by rw[Rat.intCast_mul,hz,hw,Rat.intCast_mul];grind,?_⟩
 rw[Int.natAbs_mul,Nat.pow_add];exact Nat.mul_le_mul b c
theorem bZ.add {D:Int} {s:Nat} {x y:Rat} (h:bZ D s x) (h':bZ D s y):bZ D (s+1) (x+y):=by
 obtain⟨z,hz,b⟩:=h
 obtain⟨w,hw,c⟩:=h'
 refine⟨z+w,by rw[Rat.intCast_add,hz,hw];grind,?_⟩
 have:=Int.natAbs_add_le z w
 rw[Nat.pow_succ];omega
theorem bZ.up {D E:Int} {s e:Nat} {x:Rat} (h:bZ D s x) (hE:E.natAbs<=2^e):bZ (D*E) (s+e) x:=by
 obtain⟨z,hz,b⟩:=h
 refine⟨z*E,by rw[Rat.intCast_mul,hz,Rat.intCast_mul];grind,?_⟩
 rw[Int.natAbs_mul,Nat.pow_add];exact Nat.mul_le_mul b hE
theorem bZ.xy {D:Int} {s e:Nat} {x:Rat} (h:bZ D s x) {n:Int} (hn:n.natAbs<=2^e):bZ D (e+s) ((n:Rat)*x):=by
 obtain⟨z,hz,b⟩:=h
 refine⟨n*z,by rw[Rat.intCast_mul,hz];grind,?_⟩
 rw[Int.natAbs_mul,Nat.pow_add];exact Nat.mul_le_mul hn b
theorem zH {w:Int} {t:Nat} (h:w.natAbs<=2^t) (j:Nat):(w^j).natAbs<=2^(j*t):=by
 rw[Int.natAbs_pow,Nat.mul_comm,Nat.pow_mul];exact Nat.pow_le_pow_left h j
theorem mW {v w:Int} {s t:Nat} (h:v.natAbs<=2^s) (h':w.natAbs<=2^t):(v*w).natAbs<=2^(s+t):=by
 rw[Int.natAbs_mul,Nat.pow_add];exact Nat.mul_le_mul h h'
def dr (n:Nat) (k:Nat->Rat) (s:Nat):Prop:=∃D:Int,D≠0/\D.natAbs<=2^s/\∀i,i<n->bZ D s (k i)
def Bd (a:PP) (s:Nat):Prop:=dr a.1 a.2 s
theorem dr.sz {n s:Nat} {k:Nat->Rat} (h:dr n k s) {i:Nat} (hi:i<n):Sz (k i) (2*s+2):=by
 obtain⟨D,h1,h2,h3⟩:=h
 exact((h3 i hi).sz h1 h2).more aa
theorem dr.more {n s t:Nat} {k:Nat->Rat} (h:dr n k s) (ht:s<=t):dr n k t:=by
 obtain⟨D,h1,h2,h3⟩:=h
 exact⟨D,h1,Nat.le_trans h2 (Nat.pow_le_pow_right (by decide) ht),fun i hi=>(h3 i hi).more ht⟩
theorem dr.short {n m s:Nat} {k:Nat->Rat} (h:dr n k s) (hm:m<=n):dr m k s:=by
 obtain⟨D,h1,h2,h3⟩:=h
 exact⟨D,h1,h2,fun i hi=>h3 i aa⟩
theorem dr.congr {n s:Nat} {k l:Nat->Rat} (h:dr n k s) (e:∀i,i<n->k i=l i):dr n l s:=by
 obtain⟨D,h1,h2,h3⟩:=h
 exact⟨D,h1,h2,fun i hi=>by rw[<-e i hi];exact h3 i hi⟩
theorem Bd.Dk {a b:PP} {s:Nat} (h:Bd a s) (e:gv a b):Bd b s:=by
 show dr b.1 b.2 s
 rw[<-e.1];exact dr.congr h e.2
theorem ag1 {n e s t:Nat} {d a:Nat->Rat} (ha:dr n a s) (hd:dr (e+1) d t) (h0:d e≠0):
  ∃D w:Int,D≠0/\w≠0/\D.natAbs<=2^s/\w.natAbs<=2^t/\(∀j,j<=n-e->∀i,i<n->bZ (D*w^j) (s+j*(t+1)) (ct e d a (n-e) j i))/\∀k,k<n-e->bZ (D*w^(n-e)) (s+(n-e)*(t+1)) (dM e d a (n-e) k):=by
 obtain⟨D,d1,d2,d3⟩:=ha
 obtain⟨E,e1,e2,e3⟩:=hd
 obtain⟨w,w1,w2⟩:=e3 e aa
 have hw:w≠0:=fun h=>by
  rw[h]at w1
  have w1:(0:Rat)=d e*(E:Rat):=w1
  exact(Rat.mul_eq_zero.1 w1.symm).elim h0 (qw e1)
 have key:∀j,j<=n-e->∀i,i<n->bZ (D*w^j) (s+j*(t+1)) (ct e d a (n-e) j i):=by
  intro j
  induction j with
  |zero=>exact fun _ i hi=>by rw[Int.pow_zero,Int.mul_one,Nat.zero_mul];exact d3 i hi
  |succ j ih=>
   intro hj i hi
   have ih:=ih aa
   show bZ _ _ (gF e d (n-e-1-j) (ct e d a (n-e) j) i)
   have hs:s+(j+1)*(t+1)=s+j*(t+1)+t+1:=by rw[Nat.add_mul];omega
   have hD:D*w^(j+1)=D*w^j*w:=by rw[Int.pow_succ,Int.mul_assoc]
   rw[hs,hD]
   unfold gF
   by_cases h:n-e-1-j<=i/\i<n-e-1-j+e+1
   ·rw[if_pos h]
    obtain⟨z,z1,z2⟩:=ih i hi
    obtain⟨y,y1,y2⟩:=ih (n-e-1-j+e) aa
    obtain⟨m,m1,m2⟩:=e3 (i-(n-e-1-j)) aa
    refine⟨z*w-y*m,?_,?_⟩
    ·rw[Rat.intCast_sub,Rat.intCast_mul,Rat.intCast_mul,Rat.intCast_mul,z1,m1]
     generalize ((D*w^j:Int):Rat)=Q at*
     rw[y1,w1,Rat.div_def]
     have:d e*(d e)⁻¹=1:=Rat.mul_inv_cancel _ h0
     generalize (d e)⁻¹=v at*
     generalize d (i-(n-e-1-j))=u
     generalize ct e d a (n-e) j i=x
     generalize ct e d a (n-e) j (n-e-1-j+e)=r
     generalize d e=g at*
     have h3:r*v*u*(Q*(g*(E:Rat)))=r*u*Q*(E:Rat)*(g*v):=by grind
     rw[Rat.sub_eq_add_neg,Rat.sub_eq_add_neg,Rat.add_mul,Rat.neg_mul,h3,this];grind
    ·have b1:=mW z2 w2
     have b2:=mW y2 m2
     have:=Int.natAbs_sub_le (z*w) (y*m)
     rw[Nat.pow_succ];omega
   ·rw[if_neg h]
    exact((ih i hi).up w2).more aa
 refine⟨D,w,d1,hw,d2,w2,key,fun k hk=>?_⟩
 -- the quotient
 obtain⟨z,z1,z2⟩:=key (n-e-1-k) aa (k+e) aa
 have h1:bZ (D*w^(n-e-1-k)*w) (s+(n-e-1-k)*(t+1)+t) (dM e d a (n-e) k):=by
  refine⟨z*E,?_,mW z2 e2⟩
  unfold dM
  rw[Rat.intCast_mul,Rat.intCast_mul (D*w^(n-e-1-k)),z1,w1,Rat.div_def]
  have:d e*(d e)⁻¹=1:=Rat.mul_inv_cancel _ h0
  generalize (d e)⁻¹=v at*
  generalize ct e d a (n-e) (n-e-1-k) (k+e)=r
  generalize d e=g at*
  generalize ((D*w^(n-e-1-k):Int):Rat)=Q
  have h3:r*v*(Q*(g*(E:Rat)))=r*Q*(E:Rat)*(g*v):=by grind
  rw[h3,this,Rat.mul_one]
 have h2:=h1.up (zH w2 k)
 rw[show D*w^(n-e-1-k)*w*w^k=D*w^(n-e) by rw[Int.mul_assoc,Int.mul_assoc,<-Int.pow_succ',<-Int.pow_add,show n-e-1-k+(k+1)=n-e by omega]]at h2
 refine h2.more ?_
 have:(n-e)*(t+1)=(n-e-1-k)*(t+1)+(k+1)*(t+1):=by rw[<-Nat.add_mul,show n-e-1-k+(k+1)=n-e by omega]
 rw[this,Nat.add_mul k 1,Nat.mul_add k t 1];omega
theorem Bd.rem {a d:PP} {s t:Nat} (ha:Bd a s) (hd:Bd d t) (h0:0<d.1) (td:Trim d):Bd (dx a d) (s+(a.1-(d.1-1))*(t+1))/\Bd (fF a d) (s+(a.1-(d.1-1))*(t+1))/\(∀j,j<=a.1-(d.1-1)->∀i,i<a.1->Sz (ct (d.1-1) d.2 a.2 (a.1-(d.1-1)) j i) (2*(s+(a.1-(d.1-1))*(t+1))+2))/\∀k,k<a.1-(d.1-1)->Sz (dM (d.1-1) d.2 a.2 (a.1-(d.1-1)) k) (2*(s+(a.1-(d.1-1))*(t+1))+2):=by
 have hd':dr (d.1-1+1) d.2 t:=by rw[show d.1-1+1=d.1 by omega];exact hd
 obtain⟨D,w,d1,w1,d2,w2,h1,h2⟩:=ag1 ha hd' (td.resolve_left aa)
 obtain⟨R,hR⟩:∃R,R=a.1-(d.1-1):=⟨_,rfl⟩
 unfold dx fF
 rw[<-hR]at h1 h2 ⊢
 have hne:∀j,D*w^j≠0:=fun j=>Int.mul_ne_zero d1 (Int.pow_ne_zero w1)
 have hjR:∀{j},j<=R->j*(t+1)<=R*(t+1):=fun h=>Nat.mul_le_mul_right _ h
 have hab:∀j,j<=R->(D*w^j).natAbs<=2^(s+R*(t+1)):=fun j hj=>Nat.le_trans (mW d2 (zH w2 j)) (Nat.pow_le_pow_right (by decide) (by have:=hjR hj;have:=Nat.mul_le_mul_left j (show t<=t+1 by omega);omega))
 refine⟨⟨D*w^R,hne R,hab R aT,fun i hi=>h1 R aT i (Nat.lt_of_lt_of_le hi fN)⟩,⟨D*w^R,hne R,hab R aT,fun k hk=>h2 k (Nat.lt_of_lt_of_le hk fN)⟩,fun j hj i hi=>?_,fun k hk=>?_⟩
 ·exact((h1 j hj i hi).sz (hne j) (hab j hj)).more (by have:=hjR hj;omega)
 ·exact((h2 k hk).sz (hne R) (hab R aT)).more aa
theorem Bd.cL {a:PP} {s:Nat} (h:Bd a s) (ta:Trim a):Bd (dI a) s:=by
 obtain⟨D,h1,h2,h3⟩:=h
 rcases Nat.eq_zero_or_pos a.1 with h0|h0
 ·exact⟨1,by decide,Nat.one_le_two_pow,fun i hi=>absurd hi (by show¬i<a.1;omega)⟩
 have ht:a.2 (a.1-1)≠0:=ta.resolve_left aa
 obtain⟨w,w1,w2⟩:=h3 (a.1-1) aa
 have hw:w≠0:=fun h=>by
  rw[h]at w1
  have w1:(0:Rat)=a.2 (a.1-1)*(D:Rat):=w1
  exact(Rat.mul_eq_zero.1 w1.symm).elim ht (qw h1)
 refine⟨w,hw,w2,fun i hi=>?_⟩
 obtain⟨z,z1,z2⟩:=h3 i hi
 refine⟨z,?_,z2⟩
 show _=Go.Am.cL a.1 a.2 i*_
 unfold Go.Am.cL
 rw[z1,w1,Rat.div_def]
 have:a.2 (a.1-1)*(a.2 (a.1-1))⁻¹=1:=Rat.mul_inv_cancel _ ht
 generalize (a.2 (a.1-1))⁻¹=v at*
 generalize a.2 (a.1-1)=g at*
 have h4:a.2 i*v*(g*(D:Rat))=a.2 i*(D:Rat)*(g*v):=by grind
 rw[h4,this,Rat.mul_one]
theorem AO {n s:Nat} {k:Nat->Rat} (h:dr n k s) (hn:n<=41):dr (n-1) (cR k) (s+6):=by
 obtain⟨D,h1,h2,h3⟩:=h
 refine⟨D,h1,Nat.le_trans h2 (Nat.pow_le_pow_right (by decide) aa),fun i hi=>?_⟩
 unfold cR
 exact((h3 (i+1) aa).xy (e:=6) aa).more aa
theorem Bd.cR {a:PP} {s:Nat} (h:Bd a s) (ha:a.1<=41):Bd (bC a) (s+6):=(AO h ha).short fN
theorem Bd.neg {a:PP} {s:Nat} (h:Bd a s):Bd (a.1,fun i=>((-1:Int):Rat)*a.2 i) s:=by
 obtain⟨D,h1,h2,h3⟩:=h
 exact⟨D,h1,h2,fun i hi=>((h3 i hi).xy (e:=0) (n:=-1) (by decide)).more aa⟩
theorem HD {n s τ:Nat} {k:Nat->Rat} {D T:Int} {t:Rat} (h:∀i,i<n->bZ D s (k i)) (ht:bZ T τ t) (hT:T.natAbs<=2^τ):∀m,m<=n->bZ (D*T^m) (s+m*(τ+1)) (fP n k t m)
 |0,_=>bZ.zero
 |m+1,hm=>by
  have ih:=HD h ht hT m aa
  have e1:=ih.mul ht
  have e2:=(h (n-1-m) aa).up (zH hT (m+1))
  have hD:D*T^m*T=D*T^(m+1):=by rw[Int.pow_succ,Int.mul_assoc]
  rw[hD]at e1
  have hs:s+(m+1)*(τ+1)=s+m*(τ+1)+τ+1:=by rw[Nat.add_mul];omega
  rw[hs]
  refine(e1.more aT).add (e2.more ?_)
  rw[Nat.add_mul,Nat.one_mul]
  have:=Nat.mul_le_mul_left m (show τ<=τ+1 by omega)
  omega
end Go.Am
