/- ref06.value, changes, between; ref05.Variations. -/
import Derived.Test.YtolopdkjjlfgjaaGreatY38
import Derived.Test.YtolopdkjjlfgjaaGreatY37
import Derived.Test.YtolopdkjjlfgjaaGreatZ2
set_option linter.unusedVariables false
noncomputable section
namespace Go.Am.B
open Go Go.Am.N AV af aq IntKind Proofs.Tryz
abbrev vT:Code:=aG f76
abbrev uY:List Nat:=[0,3,4,5,6]
abbrev B3 (a:PP) (i:Nat):List AV:=[aK a,.ptr 0 0 3 0 [],.ptr 1 0 3 0 [],.ptr 2 0 3 0 [],.int .i64 ((a.1:Int)-1-(i:Int))]
abbrev wA:Code:=aG f161
abbrev sx:List Nat:=[0,3,4,5]
abbrev vm (a:PP) (m:Nat) (l:Int) (i:Nat):List AV:=[aK a,.int .i64 m,.int .i64 l,.int .i64 i]
def fN (a:PP) (i:Nat):Int:=dm (a.2 i)
def Li:Spec:=dU (kC (kL ag) kN) (fun a=>.int .i64 ((bW (fN a.1) a.1.1).2:Nat)) fun a=>[a.1.1<2^40]
def yS:bp:=zG::(76,oV)::(161,Li)::ic
abbrev wU:Code:=aG f124
abbrev wF:List Nat:=[0,3,5,6]
abbrev AL (n:Nat) (c:Nat->PP) (i:Nat):List AV:=[fC n c,.ptr 0 0 3 0 [],.own 1 3 0 i,.int .i64 i]
def K1:Spec:=dU (kC o5 (kC (fq ag) kN)) (fun a=>.int .i64 ((bW (cC a.1.2 a.2.1) a.1.1).2:Nat)) fun a=>[a.1.1<2^30,dc a.1.1 a.1.2 a.2.1]
def HG:bp:=nG::(124,K1)::(76,oV)::ic
theorem YY:aZ 76 f76:=bf func76
theorem YF:aZ 161 f161:=bf func161
theorem aav:aZ 124 f124:=bf func124
theorem W7:aZ 62 f62:=bf func62
theorem Pd {a:PP} {t:Rat}:aF T j5 [] 60 uY (before vT [1,1,0,1]) ⟨aQ 0 [aK a,.rat t ag],[],0⟩=
  let c2:Int:=(↑a.fst:Int)-1;let c1:ax:=fM fun x=>rat 0 1;some (aj [-(2:Int)^63<=c2/\c2<2^63] (leaf normal ([ak 3 a.fst fun i=>rat (a.snd i) ag,ptr 0 0 (dL (rat t ag)).size 0 [],ptr 4096 0 3 0 [],ptr 8192 0 3 0 [],int i64 c2],[((8192:Nat),c1),((4096:Nat),c1),(0,ax.mk false true (dL (rat t ag)).size 1 fun x=>rat t ag)]))):=ah
theorem OC {a:PP} {t x:Rat} {i:Nat}:aF T j5 [11] 60 uY [part vT [1,1,0,1,0,0]] ⟨aC uY (B3 a i),oW t x,3⟩=
  let c8:Prop:=0<1;let c7:AV:=ptr 2 0 3 0 [];let c6:AV:=ptr 1 0 3 0 [];let c5:AV:=ptr 0 0 3 0 [];let c4:Nat:=2^41;let c3:AV:=ak 3 a.fst fun i=>rat (a.snd i) ag;let c2:List (Nat×ax):=[((1:Nat),fM fun x=>rat 0 1),((0:Nat),fM fun x=>rat t ag)];let c1:Int:=(↑a.fst:Int)-1-(↑i:Int);let c9:Int:=c1-1;some (fork (decide (c1>=0)) (aj [c8,c8,ag<c4,ag<c4,(0:Int)<=c1/\c1.toNat<a.fst,ag+ag<c4,ag<c4,c8] (aj [-(2:Int)^63<=c9/\c9<2^63] (leaf normal ([c3,c5,c6,c7,int i64 c9],((2:Nat),fM fun j=>if(j==0)=true then dL (uv (x*t,ag+ag) (a.snd c1.toNat,ag))else rat x ag)::c2)))) (leaf (exit 0) ([c3,c5,c6,c7,int i64 c1],((2:Nat),fM fun x_1=>rat x ag)::c2))):=ah
theorem Vq {a:PP} {t x:Rat} {i:Nat}:cG T j5 [] 60 f76 [part vT [1,1,1]] ⟨aC uY (B3 a i),oW t x,3⟩=
  let c1:Prop:=0<1;some (aj [c1,c1] (aj [c1] (leaf ret [rat x ag]))):=ah
theorem MJ {a:PP}:aF T j5 [] 60 sx (before wA [1,1,0,1]) ⟨aQ 0 [aK a],[],0⟩=
  let c1:AV:=int i64 0;some (leaf normal ([ak 3 a.fst fun i=>rat (a.snd i) ag,c1,c1,c1],[])):=ah
theorem Nv {a:PP} {m i:Nat} {l:Int}:aF T j5 [10,19,22,26] 60 sx [part wA [1,1,0,1,0,0]] ⟨aC sx (vm a m l i),[],0⟩=
  let c11:Bool:=l !=(0:Int);let c8:Int:=(↑m:Int)+1;let c7:AV:=int i64 (↑m:Int);let c6:Int:=(2:Int)^63;let c5:Int:=(↑i:Int);let c3:AV:=ak 3 a.fst fun i=>rat (a.snd i) ag;let c10:Int:=c5+1;let c9:Int:=dm (a.snd c5.toNat);let c4:List AV:=[int i64 c9,int i64 c10];let c2:List Prop:=[-c6<=c10/\c10<c6];let c1:af (List AV×aD):=aj [-c6<=c8/\c8<c6] (aj c2 (leaf normal (c3::int i64 c8::c4,[])));some (fork (decide (c5<(↑a.fst:Int))) (aj [(0:Int)<=c5/\c5.toNat<a.fst,ag<2^41] (fork (c9==0) (aj c2 (leaf normal ([c3,c7,int i64 l,int i64 c10],[]))) (fork c11 (aj [c11=true] (fork (bif true then c9 !=l else false) c1 (aj c2 (leaf normal (c3::c7::c4,[]))))) (aj [c11=false] (fork false c1 (aj c2 (leaf normal (c3::c7::c4,[])))))))) (leaf (exit 0) ([c3,c7,int i64 l,int i64 c5],[]))):=ah
theorem Mk {a:PP} {m i:Nat} {l:Int}:cG T j5 [] 60 f161 [part wA [1,1,1]] ⟨aC sx (vm a m l i),[],0⟩=
  some (leaf ret [int i64 (↑m:Int)]):=ah
theorem aaY {n:Nat} {c:Nat->PP} {t:Rat}:aF T yS [] 60 wF (before wU [1,1,0,1]) ⟨aQ 0 [fC n c,.rat t ag],[],0⟩=
  some (leaf normal ([ak 1 n fun i=>ak 3 (c i).fst fun i_1=>rat ((c i).snd i_1) ag,ptr 0 0 (dL (rat t ag)).size 0 [],nil,int i64 0],[(0,ax.mk false true (dL (rat t ag)).size 1 fun x=>rat t ag)])):=ah
theorem NJ {n i:Nat} {c:Nat->PP} {t:Rat} {x:Nat->Rat}:aF T yS [10] 60 wF [part wU [1,1,0,1,0,0]] ⟨aC wF (AL n c i),[(0,tR t ag),(1,bS i x ag)],2⟩=
  let c5:AV:=ptr 0 0 3 0 [];let c3:Nat×ax:=((0:Nat),fM fun x=>rat t ag);let c2:AV:=ak 1 n fun i=>ak 3 (c i).fst fun i_1=>rat ((c i).snd i_1) ag;let c1:Int:=(↑i:Int);let c7:Int:=c1+1;let c6:PP:=c c1.toNat;let c4:Nat×(Nat->Rat):=(c6.fst,fun i=>aT (rat (c6.snd i) ag));some (fork (decide (c1<(↑n:Int))) (aj [(0:Int)<=c1/\c1.toNat<n,(0:Nat)<1,cV (fun i=>rat (c6.snd i) ag) c6.fst ag,ag<=ag,c6.fst<2^40,jC c4 t,(1:Nat)*3<=2^24,(i+1)*((56:Nat)+1)*2<=2^47] (aj [-(2:Int)^63<=c7/\c7<2^63] (leaf normal ([c2,c5,own 49154 3 0 (i+1),int i64 c7],[(49154,ax.mk true true 3 (i+1) fun i_1=>if i_1<i then rat (x i_1) ag else nth [rat (eA c4 t) ag] (rat 0 1) (i_1-i+0)),c3])))) (leaf (exit 0) ([c2,c5,own 1 3 0 i,int i64 c1],[(1,ax.mk true true 3 i fun i=>rat (x i) ag),c3]))):=ah
theorem XR {n i:Nat} {c:Nat->PP} {t:Rat} {x:Nat->Rat}:cG T yS [] 60 f124 [part wU [1,1,1]] ⟨aC wF (AL n c i),[(0,tR t ag),(1,bS i x ag)],2⟩=
  some (aj [cV (fun i=>rat (x (i+0)) ag) i ag,i<2^40] (leaf ret [int i64 (↑(bW (fN (i,fun i=>aT (rat (x (i+0)) ag))) i).snd:Int)])):=ah
theorem YB {n:Nat} {c:Nat->PP} {x y:Rat}:bT T HG [21] 60 f62 (aG f62) ⟨aQ 0 [fC n c,.rat x ag,.rat y ag],[],0⟩=
  let c7:Prop:=n<2^30;let c4:Prop:=0<1;let c3:Int:=(2:Int)^63;let c2:PP:=c (Int.toNat (0:Int));let c1:Int:=(↑(bW (cC (fun i=>cO (aK (c i))) x) n).snd:Int)-(↑(bW (cC (fun i=>cO (aK (c i))) y) n).snd:Int);let c6:Int:=c1-1;let c5:Nat×(Nat->Rat):=(c2.fst,fun i=>aT (rat (c2.snd i) ag));some (aj [c4,∀(i:Nat),i<n->bA (aK (c i)) (aK (cO (aK (c i)))),ag<=ag,c7,dc n (fun i=>cO (aK (c i))) x,c4,∀(i:Nat),i<n->bA (aK (c i)) (aK (cO (aK (c i)))),ag<=ag,c7,dc n (fun i=>cO (aK (c i))) y,-c3<=c1/\c1<c3] (aj [(0:Int)<=0/\Int.toNat (0:Int)<n,c4,cV (fun i=>rat (c2.snd i) ag) c2.fst ag,ag<=ag,c2.fst<2^40,jC c5 y,ag<2^41] (fork (dm (eA c5 y)==0) (aj [-c3<=c6/\c6<c3] (leaf ret [int i64 c6])) (leaf ret [int i64 c1])))):=ah
theorem UR {a:PP} {t:Rat} (hn:a.1<2^40) (hz:jC a t) (K:Nat):aO P 76 K [aK a,.rat t ag] [] (aJ (.rat (eA a t) ag) []):=by
 have hW:=dw
 refine iZ (r:=aJ (.rat (eA a t) ag) []) hT tO hm YY rfl aX rfl [1,1,0,1] (i:=0) (y:=part vT [1,1,0,1,0,0]) (z:=part vT [1,1,1]) ah ah ah (f1:=[]) (f2:=[11]) (f3:=[]) 60 uY 3
  (fun i:Nat=>B3 a i) (fun i=>oW t (eL a.1 a.2 t i)) (fun i=>i<=a.1) (fun i=>i=a.1) (fun i=>a.1-i) (fun _=>⟨⟨_,Pd,?_⟩,fun i hi=>⟨_,OC,?_⟩,fun i hi=>⟨_,Vq,?_⟩⟩) K []
 ·simp only[af.all,az]
  exact⟨aa,0,Nat.zero_le _,[(0,0),(1,4096),(2,8192)],rfl,by rw[show(a.1:Int)-1=(a.1:Int)-1-((0:Nat):Int) by omega];rfl,rfl,jt rfl rfl (.inr ⟨rfl,dj rfl aa⟩) (cZ (cZ trivial))⟩
 ·simp only[af.all,az,bz,bB]
  refine⟨fun h=>?_,fun h=>⟨rfl,i,aa,[(0,0),(1,1),(2,2)],rfl,rfl,rfl,cZ (cZ (cZ trivial))⟩⟩
  rw[show((a.1:Int)-1-(i:Int)).toNat=a.1-1-i by omega]
  exact⟨aa,aa,i+1,aa,by dsimp only;omega,[(0,0),(1,1),(2,2)],rfl,by rw[show(a.1:Int)-1-(i:Int)-1=(a.1:Int)-1-((i+1:Nat):Int) by omega];rfl,rfl,jt rfl rfl (.inr ⟨rfl,dF rfl (hz (i+1) aa)⟩) (cZ (cZ trivial))⟩
 ·subst hi
  simp only[af.all,az]
  exact⟨⟨aa,aa⟩,aa,.refl _⟩
theorem It:aY P oV 76:=dD fun⟨a,t,_⟩ K hn=>UR hn.1 hn.2 K
theorem ED {a:PP} (i:Nat):-1<=fN a i/\fN a i<=1:=Gd _
theorem N8 {a:PP} (hn:a.1<2^40) (K:Nat):aO P 161 K [aK a] [] (aJ (.int .i64 ((bW (fN a) a.1).2:Nat)) []):=by
 have hW:=dw
 refine iZ (r:=aJ (.int .i64 ((bW (fN a) a.1).2:Nat)) []) hT tO hm YF rfl aX rfl [1,1,0,1] (i:=0) (y:=part wA [1,1,0,1,0,0]) (z:=part wA [1,1,1]) ah ah ah (f1:=[]) (f2:=[10,19,22,26]) (f3:=[]) 60 sx 0
  (fun i:Nat=>vm a (bW (fN a) i).2 (bW (fN a) i).1 i) (fun _=>[]) (fun i=>i<=a.1) (fun i=>i=a.1) (fun i=>a.1-i) (fun _=>⟨⟨_,MJ,?_⟩,fun i hi=>⟨_,Nv,?_⟩,fun i hi=>⟨_,Mk,?_⟩⟩) K []
 ·simp only[af.all]
  exact⟨0,Nat.zero_le _,dr.vals rfl⟩
 ·obtain⟨h1,h2⟩:=qS (s:=fN a) ED i
  have h3:=ED (a:=a) i
  have e2:(bW (fN a) (i+1)).1=if fN a i=0 then(bW (fN a) i).1 else fN a i:=rfl
  have e3:(bW (fN a) (i+1)).2=if fN a i*(bW (fN a) i).1<0 then(bW (fN a) i).2+1 else(bW (fN a) i).2:=rfl
  have re:∀{l:Int} {m:Int},l=(bW (fN a) (i+1)).1->m=((bW (fN a) (i+1)).2:Nat)->dr [] ([aK a,.int .i64 m,.int .i64 l,.int .i64 ((i:Int)+1)],[]) (vm a (bW (fN a) (i+1)).2 (bW (fN a) (i+1)).1 (i+1)) [] 0:=fun {l m} hl hm=>by
   subst hl hm
   rw[show(i:Int)+1=((i+1:Nat):Int) by omega]
   exact dr.vals rfl
  have e4:dm (a.2 i)=fN a i:=rfl
  have hneg:∀{x y:Int},(-1<=x/\x<=1)->(-1<=y/\y<=1)->x≠0->(x*y<0↔y≠0/\x≠y):=fun {x y} hx hy h0=>by
   rcases(show x=-1\/x=1 by omega)with rfl|rfl<;>omega
  simp only[af.all,az,bz,bB,bw,bne_iff_ne,ne_eq,bne_eq_false_iff_eq,beq_iff_eq,beq_eq_false_iff_ne,cond_true,cond_false,e4]
  have nx:∀{l:Int} {m:Int},(i:Int)<a.1->l=(bW (fN a) (i+1)).1->m=((bW (fN a) (i+1)).2:Nat)->Round [] (fun i:Nat=>vm a (bW (fN a) i).2 (bW (fN a) i).1 i) (fun _=>[]) 0 (fun i=>i<=a.1) (fun i=>i=a.1) (fun i=>a.1-i) 0 (qH f161 sx (.int .i64 ((bW (fN a) a.1).2:Nat))) i .normal ([aK a,.int .i64 m,.int .i64 l,.int .i64 ((i:Int)+1)],[]):=fun {l m} h hl hm=>⟨i+1,aa,by dsimp only;omega,re hl hm⟩
  refine⟨fun h=>⟨⟨aa,aa⟩,fun h0=>⟨aa,nx h (by rw[e2,if_pos h0]) (by rw[e3,if_neg (by rw[h0,Int.zero_mul];omega)])⟩,fun h0=>⟨fun h5=>⟨h5,fun h6=>⟨aa,aa,nx h (by rw[e2,if_neg h0]) (by rw[e3,if_pos ((hneg h3 h1 h0).2 ⟨h5,h6⟩)];omega)⟩,fun h6=>⟨aa,nx h (by rw[e2,if_neg h0]) (by rw[e3,if_neg fun h7=>((hneg h3 h1 h0).1 h7).2 h6])⟩⟩,fun h5=>⟨h5,fun hf=>absurd hf (by decide),fun _=>⟨aa,nx h (by rw[e2,if_neg h0]) (by rw[e3,if_neg fun h7=>((hneg h3 h1 h0).1 h7).1 h5])⟩⟩⟩⟩,fun h=>⟨rfl,i,aa,dr.vals rfl⟩⟩
 ·subst hi;exact .refl _
theorem Ti:aY P Li 161:=dD fun⟨a,_⟩ K hn=>N8 hn K
theorem VQ:bI P yS:=fu (aI It (aI Ti iE))
theorem ZB {n:Nat} {c:Nat->PP} {t:Rat} (hn:n<2^30) (hz:dc n c t) (K:Nat):aO P 124 K [fC n c,.rat t ag] [] (aJ (.int .i64 ((bW (cC c t) n).2:Nat)) []):=by
 have hW:=dw
 refine iZ (r:=aJ (.int .i64 ((bW (cC c t) n).2:Nat)) []) hT VQ hm aav rfl aX rfl [1,1,0,1] (i:=0) (y:=part wU [1,1,0,1,0,0]) (z:=part wU [1,1,1]) ah ah ah (f1:=[]) (f2:=[10]) (f3:=[]) 60 wF 2
  (fun i:Nat=>AL n c i) (fun i=>[(0,tR t ag),(1,bS i (fun j=>eA (c j) t) ag)]) (fun i=>i<=n) (fun i=>i=n) (fun i=>n-i) (fun _=>⟨⟨_,aaY,?_⟩,fun i hi=>⟨_,NJ,?_⟩,fun i hi=>⟨_,XR,?_⟩⟩) K []
 ·simp only[af.all]
  exact⟨0,Nat.zero_le _,[(0,0)],rfl,rfl,rfl,cZ (kP rfl aa aa trivial)⟩
 ·simp only[af.all,az,bz,bB,bw]
  refine⟨fun h=>⟨⟨aa,aa,dg aP,aP,(hz i aa).1,(hz i aa).2,aa,aa⟩,aa,i+1,aa,by dsimp only;omega,[(0,0),(1,49154)],rfl,by rw[show(i:Int)+1=((i+1:Nat):Int) by omega];rfl,rfl,cZ (bg rfl rfl rfl (fun j hj=>?_) trivial)⟩,fun h=>⟨rfl,i,aa,[(0,0),(1,1)],rfl,rfl,rfl,cZ (bg rfl rfl rfl (fun j hj=>bH rfl rfl) trivial)⟩⟩
  by_cases h2:j<i
  ·rw[if_pos h2];exact bH rfl rfl
  ·rw[if_neg h2,show j-i+0=0 by omega,show j=i by omega];exact bH rfl rfl
 ·subst hi
  simp only[af.all,az]
  exact⟨⟨dg aP,aa⟩,.refl _⟩
theorem ac8:aY P K1 124:=dD fun⟨⟨n,c⟩,t,_⟩ K hn=>ZB hn.1 hn.2 K
theorem Yl:bI P HG:=jr (aI ac8 (aI It iE))
theorem Xl {n:Nat} {c:Nat->PP} {x y:Rat} (h0:0<n) (hn:n<2^30) (hxy:x<y) (hx:dc n c x) (hy:dc n c y) (K:Nat):aO P 62 K [fC n c,.rat x ag,.rat y ag] [] (aJ (.int .i64 (gG n c x y)) []):=by
 have hW:=dw
 refine cj hT Yl hm W7 rfl aX rfl 60 YB (fun _=>?_) K []
 have hbx:=(qS (s:=cC c x) sY n).2
 have hby:=(qS (s:=cC c y) sY n).2
 have h:¬x>=y:=Rat.not_le.2 hxy
 simp only[af.all,az,bz,bB,nc]
 show(_/\(∀i,i<n->bA (aK (c i)) (aK (c i)))/\_/\_/\dc n c x/\_/\_/\_/\_/\dc n c y/\(-2^63<=((bW (cC c x) n).2:Int)-((bW (cC c y) n).2:Int)/\((bW (cC c x) n).2:Int)-((bW (cC c y) n).2:Int)<2^63))/\(_/\_/\_/\_/\_/\jC (c 0) y/\_)/\(eA (c 0) y=0->_)/\(¬eA (c 0) y=0->_)
 refine⟨⟨aa,fun i _=>.refl _,aP,hn,hx,aa,fun i _=>.refl _,aP,hn,hy,aa⟩,⟨aa,aa,dg aP,aP,(hy 0 h0).1,(hy 0 h0).2,aa⟩,fun h2=>⟨?_,?_⟩,fun h2=>?_⟩
 ·show-2^63<=((bW (cC c x) n).2:Int)-((bW (cC c y) n).2:Int)-1/\((bW (cC c x) n).2:Int)-((bW (cC c y) n).2:Int)-1<2^63
  omega
 ·exact bN (by unfold gG;rw[if_neg h,if_pos h2];rfl)
 ·exact bN (by unfold gG;rw[if_neg h,if_neg h2,Int.sub_zero];rfl)
def Ho:Spec:=dU (kC o5 (kC (fq ag) (kC (fq ag) kN))) (fun a=>.int .i64 (gG a.1.1 a.1.2 a.2.1 a.2.2.1)) fun a=>[0<a.1.1,a.1.1<2^30,a.2.1<a.2.2.1,dc a.1.1 a.1.2 a.2.1,dc a.1.1 a.1.2 a.2.2.1]
theorem Rq:aY P Ho 62:=dD fun⟨⟨n,c⟩,x,y,_⟩ K hn=>Xl hn.1 hn.2.1 hn.2.2.1 hn.2.2.2.1 hn.2.2.2.2 K
def Lw:Spec:=dU (kC (kL ag) kN) (fun a=>fC (cP a.1) (cR a.1)) fun a=>[uQ a.1]
def HI:bp:=zG::(61,tG)::(97,rK)::(98,Gh)::(99,Cy)::(100,En)::(63,Lw)::(62,Ho)::ic
theorem To:aZ 17 f17:=bf func17
theorem MV {p:PP} {a b:Rat}:bT T HI [13,17,19] 60 f17 (aG f17) ⟨aQ 0 [aK p,.rat a ag,.rat b ag],[],0⟩=
  some (aj [aR p,mK p] (fork (((aS p).1:Int)==0) (leaf ret [int i64 0,int i64 3]) (aj [(0:Nat)<1,(0:Nat)<1,ag<2^41,ag<2^41] (fork (gj a b==1) (leaf ret [int i64 0,int i64 7]) (fork (gj a b==0) (leaf ret [int i64 0,int i64 0]) (aj [aR (aS p),uQ (aS p),(0:Nat)<1,(0:Nat)<1,∀i,i<cP (aS p)->bA (aK (cR (aS p) i)) (aK (cR (aS p) i)),ag<=ag,ag<=ag,0<cP (aS p),cP (aS p)<2^30,a<b,dc (cP (aS p)) (cR (aS p)) a,dc (cP (aS p)) (cR (aS p)) b] (leaf ret [int i64 (gG (cP (aS p)) (cR (aS p)) a b),int i64 0]))))))):=ah
theorem aaU:aY P Lw 63:=dD fun⟨a,_⟩ K hn=>acJ hn K
theorem Zr:bI P HI:=fu (aI YT (aI Cz (aI Wo (aI Ht (aI HJ (aI aaU (aI Rq iE)))))))
def x6 (p:PP) (a b:Rat):Prop:=mK p/\((aS p).1≠0->uQ (aS p)/\cP (aS p)<2^30/\dc (cP (aS p)) (cR (aS p)) a/\dc (cP (aS p)) (cR (aS p)) b)
theorem Q8 {a b:Rat}:gj a b=1↔a>b:=by unfold gj;grind
theorem VV {a b:Rat}:gj a b=0↔a=b:=by unfold gj;grind
theorem VG {p:PP} {a b:Rat} (hz:x6 p a b) (K:Nat):aO P 17 K [aK p,.rat a ag,.rat b ag] [] (aJ (.tuple [.int .i64 (jY p a b),.int .i64 (ir p a b)]) []):=by
 obtain⟨hp,hz⟩:=hz
 have hW:=dw
 refine cj hT Zr hm To rfl aX rfl 60 MV (fun _=>?_) K []
 simp only[af.all,az,beq_iff_eq,beq_eq_false_iff_ne,ne_eq,Q8,VV]
 refine⟨⟨gN,hp⟩,fun h=>?_,fun h=>⟨aa,fun h2=>?_,fun h2=>⟨fun h3=>?_,fun h3=>?_⟩⟩⟩
 ·have h0:(aS p).1=0:=aa
  have e1:ir p a b=3:=if_pos h0
  exact⟨bN (by unfold jY;rw[e1];rfl),bN e1.symm,trivial⟩
 ·have h0:¬(aS p).1=0:=aa
  have e1:ir p a b=7:=by unfold ir;rw[if_neg h0,if_pos h2]
  exact⟨bN (by unfold jY;rw[e1];rfl),bN e1.symm,trivial⟩
 ·have h0:¬(aS p).1=0:=aa
  have e1:ir p a b=0:=by unfold ir;rw[if_neg h0,if_neg h2]
  exact⟨bN (by unfold jY gG;rw[if_pos e1,if_pos (by rw[h3];exact Rat.le_refl)]),bN e1.symm,trivial⟩
 ·have h0:¬(aS p).1=0:=aa
  have e1:ir p a b=0:=by unfold ir;rw[if_neg h0,if_neg h2]
  have hab:a<b:=by grind
  obtain⟨z1,z2,z3,z4⟩:=hz h0
  exact⟨⟨gN,z1,aa,aa,fun i _=>.refl _,aP,aP,Nat.succ_pos _,z2,hab,z3,z4⟩,bN (by unfold jY;rw[if_pos e1]),bN e1.symm,trivial⟩
theorem Da {u v:AV} (h:bA u v):bA (.bM u) (.bM v):=by
 refine⟨rfl,fun M w cs hc=>?_⟩
 cases hc with
 |bM h1 h2 h3=>cases h3;exact .bM (h.2 _ _ _ h1) h2 .nil
theorem S3 {f:FuncId} {us vs:List AV} (h:fV us vs) (hv:(vs.all fun v=>!v.isAgg&&!v.isTuple)=true):bA (.func f us) (.func f vs):=by
 refine⟨rfl,fun M w cs hc=>?_⟩
 cases hc with
 |func h1 h2 h3=>cases h3;exact .func (Cx h h1) hv .nil
def RZ {α:Type} (k:Kind α):Kind α:=⟨fun v=>match v with
 |.bM v=>k.read v
 |_=>none,fun a=>.bM (k.make a),fun {v a q} h hq=>by
  split at h
  ·exact Da (k.ok h hq)
  ·simp at h⟩
abbrev fX (a b:Rat) (n:Nat):AV:=.agg [.rat a n,.rat b n]
def VX (s:Nat):Kind (Rat×Rat):=⟨fun v=>match v with
 |.agg [x,y]=>some ((aT x,aT y),[bA x (.rat (aT x) s),bA y (.rat (aT y) s)])
 |_=>none,fun a=>fX a.1 a.2 s,fun {v a q} h hq=>by
  split at h
  ·simp only[ay,Prod.mk.injEq]at h
   obtain⟨rfl,rfl⟩:=h
   exact oU ⟨hq.1,hq.2,trivial⟩
  ·simp at h⟩
def T1:Kind Unit:=⟨fun v=>match v with
 |.agg [.bool false,.ak 1 1 f,.ak 1 1 g]=>some ((),[f 0=.int .u32 1,g 0=.int .u32 2])
 |_=>none,fun _=>.rat (1/2) 3,fun {v a q} h hq=>by
  split at h
  ·simp only[ay,Prod.mk.injEq]at h
   obtain⟨_,rfl⟩:=h
   refine bA.trans (oU (vs:=[.bool false,.mag 1,.mag 2]) ⟨.refl _,jM (N:=1) (by decide) (fun i hi=>by obtain rfl:i=0:=aa;exact hq.1),jM (N:=2) (by decide) (fun i hi=>by obtain rfl:i=0:=aa;exact hq.2),trivial⟩) (pZ (b:=false) (x:=1) (y:=2) (q:=1/2) ⟨by decide+kernel,by decide+kernel⟩ (by decide+kernel) (by decide+kernel) (by decide+kernel))
  ·simp at h⟩
def KZ:Spec:=dU (kC kR (kC T1 kN)) (fun a=>.rat (a.1.1*(1/2)) (a.1.2+3)) fun a=>[a.1.2<2^42]
def Jy:Spec:=dU (kC (fq ag) (kC (fq ag) kN)) (fun a=>.rat (iU a.1 a.2.1) ag) fun _=>[]
def Kh:Spec:=dU (kC (fq ag) (kC (fq ag) kN)) (fun a=>.rat (iV a.1 a.2.1) ag) fun _=>[]
def KD:bp:=nG::(130,Jy)::(131,Kh)::gn
def KX:bp:=nG::(129,KZ)::(132,Cd T [sG] [] 20 f132)::gn
def dG (a b:Rat):Rat:=(a+b)*(1/2)
def D5:Spec:=dU (kC (fq ag) (kC (fq ag) kN)) (fun a=>fX (iU a.1 a.2.1) (iV a.1 a.2.1) ag) fun _=>[]
def Kw:bp:=nG::(68,D5)::gn
def Kk:bp:=zG::(66,oV)::gn
def Gb:bp:=nG::(66,oV)::(60,zm)::gn
theorem M3:aZ 69 f69:=bf func69
theorem Rk:aZ 132 f132:=bf func132
theorem O6:aZ 68 f68:=bf func68
theorem U9:aZ 70 f70:=bf func70
theorem aaR:aZ 74 f74:=bf func74
theorem ON:aZ 64 f64:=bf func64
theorem U5 {x y:Rat}:bT T KD [] 60 f68 (aG f68) ⟨aQ 0 [.rat x ag,.rat y ag],[],0⟩=
  let c1:Prop:=0<1;some (aj [c1,c1,ag<=ag,ag<=ag,c1,c1,ag<=ag,ag<=ag,c1] (aj [c1] (leaf ret [agg [rat (iU x y) ag,rat (iV x y) ag]]))):=ah
theorem Wr {x y:Rat}:bT T KX [] 60 f69 (aG f69) ⟨aQ 0 [.rat x ag,.rat y ag],[],0⟩=
  let c2:Nat:=2^42;let c1:Prop:=0<1;some (aj [c1,c1,ag<c2,ag<c2,(1:Nat)*1<=2^24,nth [int u32 (1:Int)] (int u32 (0:Int)) ((0:Nat)+0)=int u32 (1:Int),nth [int u32 (2:Int)] (int u32 (0:Int)) ((0:Nat)+0)=int u32 (2:Int),ag+ag+1<c2,c1] (aj [c1] (leaf ret [rat ((x+y)*(1/2:Rat)) (ag+ag+1+3)]))):=ah
theorem Ul {x:Rat}:bT T Kw [] 60 f70 (aG f70) ⟨aQ 0 [.rat x ag],[],0⟩=
  let c1:Prop:=0<1;some (aj [c1,c1,ag<=ag,ag<=ag,c1] (aj [c1] (leaf ret [agg [rat (iU x x) ag,rat (iV x x) ag]]))):=ah
theorem TC {n:Nat} {c:Nat->PP} {x:Rat}:bT T Kk [] 60 f64 (aG f64) ⟨aQ 0 [.rat x ag,.bM (fC n c)],[],0⟩=
  let c1:PP:=c (Int.toNat (0:Int));let c2:Nat×(Nat->Rat):=(c1.fst,fun i=>aT (rat (c1.snd i) ag));some (aj [(0:Int)<=0/\Int.toNat (0:Int)<n,(0:Nat)<1,cV (fun i=>rat (c1.snd i) ag) c1.fst ag,ag<=ag,c1.fst<2^40,jC c2 x,ag<2^42] (leaf ret [AV.bool (dm (eA c2 x)==0)])):=ah
theorem aa8 {n:Nat} {c:Nat->PP} {x y:Rat}:bT T Gb [9] 60 f74 (aG f74) ⟨aQ 0 [fC n c,fX x y ag],[],0⟩=
  let c4:Int:=gG n (fun i=>cO (aK (c i))) x y;let c3:Prop:=ag<2^42;let c2:Prop:=0<1;let c1:PP:=c (Int.toNat (0:Int));let c5:Nat×(Nat->Rat):=(c1.fst,fun i=>aT (rat (c1.snd i) ag));some (aj [c2,c2,c3,c3] (fork (decide (x=y)) (aj [(0:Int)<=0/\Int.toNat (0:Int)<n,c2,cV (fun i=>rat (c1.snd i) ag) c1.fst ag,ag<=ag,c1.fst<2^40,jC c5 x,c3] (leaf ret [AV.bool (dm (eA c5 x)==0)])) (aj [c2,c2,∀(i:Nat),i<n->bA (aK (c i)) (aK (cO (aK (c i)))),ag<=ag,ag<=ag,(0:Nat)<n,n<2^40,dc n (fun i=>cO (aK (c i))) x,dc n (fun i=>cO (aK (c i))) y] (leaf ret [AV.bool (decide (c4>0))])))):=ah
theorem Xp:aY P Jy 130:=dD fun⟨x,y,_⟩ K _=>by
 have hW:=dw
 have:=Z7 (q:=x) (r:=y) (n:=ag) (m:=ag) aa aa K
 rw[Nat.max_self]at this;exact this
theorem acK:aY P Kh 131:=dD fun⟨x,y,_⟩ K _=>by
 have hW:=dw
 have:=adk (q:=x) (r:=y) (n:=ag) (m:=ag) aa aa K
 rw[Nat.max_self]at this;exact this
theorem Oo:aY P KZ 129:=dD fun⟨x,_,_⟩ K hn=>Kc hn aa K
theorem aa2:bI P KD:=jr (aI Xp (aI acK gD))
theorem Oa:bI P KX:=jr (aI Oo (aI (HS hT (ze bY) hm Rk _ _) gD))
theorem YV {x y:Rat} (K:Nat):aO P 68 K [.rat x ag,.rat y ag] [] (aJ (fX (iU x y) (iV x y) ag) []):=by
 refine cj hT aa2 hm O6 rfl aX rfl 60 U5 (fun _=>?_) K []
 simp only[af.all,az]
 exact⟨⟨aa,aa,aa,aa,aa,aa,aa,aa,aa⟩,aa,.refl _⟩
theorem Jk:aY P D5 68:=dD fun⟨x,y,_⟩ K _=>YV K
theorem aah:bI P Kw:=jr (aI Jk gD)
def CG:Spec:=dU (kC (fq ag) kN) (fun a=>fX a.1 a.1 ag) fun _=>[]
theorem Zw (x:Rat):iU x x=x:=by unfold iU;split<;>rfl
theorem YU (x:Rat):iV x x=x:=by unfold iV;split<;>rfl
theorem Kp:aY P CG 70:=dD fun⟨x,_⟩ K _=>by
 refine cj hT aah hm U9 rfl aX rfl 60 Ul (fun _=>?_) K []
 simp only[af.all,az,Zw,YU]
 exact⟨⟨aa,aa,aa,aa,aa⟩,aa,.refl _⟩
def EZ:Spec:=dU (kC (fq ag) (kC (fq ag) kN)) (fun a=>.rat (dG a.1 a.2.1) ag) fun a=>[Sz (dG a.1 a.2.1) ag]
theorem YS:aY P EZ 69:=dD fun⟨x,y,_⟩ K hn=>by
 have hW:=dw
 refine cj hT Oa hm M3 rfl aX rfl 60 Wr (fun _=>?_) K []
 simp only[af.all,az]
 exact⟨⟨aa,aa,aa,aa,aa,rfl,rfl,aa,aa⟩,aa,dF rfl hn⟩
def BR:Spec:=dU (kC (fq ag) (kC (RZ o5) kN)) (fun a=>.bool (decide (eA (a.2.1.2 0) a.1=0))) fun a=>[0<a.2.1.1,dc a.2.1.1 a.2.1.2 a.1]
theorem Zv:bI P Kk:=fu (aI zo gD)
theorem LM:aY P BR 64:=dD fun⟨x,⟨n,c⟩,_⟩ K hn=>by
 have hW:=dw
 refine cj hT Zv hm ON rfl aX rfl 60 TC (fun _=>?_) K []
 obtain⟨h1,h2⟩:=hn.2 0 hn.1
 simp only[af.all,az]
 exact⟨⟨⟨aa,hn.1⟩,aa,dg aP,aP,h1,h2,aa⟩,dZ (by simp only[nc];rfl)⟩
theorem Xa:bI P Gb:=jr (aI zo (aI CB gD))
def sP (n:Nat) (c:Nat->PP) (x y:Rat):Bool:=if x=y then decide (eA (c 0) x=0)else decide (0<gG n c x y)
def ID:Spec:=dU (kC o5 (kC (VX ag) kN)) (fun a=>.bool (sP a.1.1 a.1.2 a.2.1.1 a.2.1.2)) fun a=>[0<a.1.1,a.1.1<2^40,dc a.1.1 a.1.2 a.2.1.1,dc a.1.1 a.1.2 a.2.1.2]
theorem XE:aY P ID 74:=dD fun⟨⟨n,c⟩,⟨x,y⟩,_⟩ K hn=>by
 have hW:=dw
 refine cj hT Xa hm aaR rfl aX rfl 60 aa8 (fun _=>?_) K []
 obtain⟨g1,g2,g3,g4⟩:=hn
 obtain⟨h1,h2⟩:=g3 0 g1
 simp only[af.all,az,bz,bB]
 refine⟨⟨aa,aa,aa,aa⟩,fun h=>⟨⟨⟨aa,g1⟩,aa,dg aP,aP,h1,h2,aa⟩,?_⟩,fun h=>⟨⟨aa,aa,fun i _=>.refl _,aP,aP,g1,g2,g3,g4⟩,?_⟩⟩
 ·exact dZ (by unfold sP;rw[if_pos h];simp only[nc];rfl)
 ·exact dZ (by unfold sP;rw[if_neg h];rfl)
def ek (n:Nat) (c:Nat->PP):Nat->Rat->Rat->List (Rat×Rat)
 |0,_,_=>[]
 |d+1,x,y=>if gG n c x y=0 then []else if gG n c x y=1 then [(iU x y,iV x y)]else
  ek n c d x (dG x y)++(if eA (c 0) (dG x y)=0 then(dG x y,dG x y)::ek n c d (dG x y) y else ek n c d (dG x y) y)
def mF (n:Nat) (c:Nat->PP):Nat->Rat->Rat->Prop
 |0,_,_=>False
 |d+1,x,y=>dc n c x/\dc n c y/\(gG n c x y≠0->gG n c x y≠1->Sz (dG x y) ag/\mF n c d x (dG x y)/\mF n c d (dG x y) y)
def jW:AV->Rat×Rat
 |.agg [x,y]=>(aT x,aT y)
 |_=>(0,0)
def iA (f:Nat->AV) (m:Nat):List (Rat×Rat):=(List.range m).map fun i=>jW (f i)
def cy (l:List (Rat×Rat)) (i:Nat):Rat×Rat:=l.getD i (0,0)
abbrev cT (l:List (Rat×Rat)) (i:Nat):AV:=fX (cy l i).1 (cy l i).2 ag
abbrev qq (l:List (Rat×Rat)):ax:=⟨true,true,6,l.length,cT l⟩
abbrev qD:FuncId:=64
abbrev kO:FuncId:=67
abbrev Ad (n:Nat) (c:Nat->PP):AV:=.func qD [.bM (fC n c)]
abbrev Ga (n:Nat) (c:Nat->PP) (kf kl:Nat):AV:=.func kO [.bM (fC n c),.ptr kf 0 1 0 [],.ptr kl 0 1 0 [],.bM (Ad n c)]
abbrev tA (k m:Nat):ax:=⟨false,true,1,1,fun _=>.own k 6 0 m⟩
abbrev qp (n:Nat) (c:Nat->PP) (kf kl:Nat):ax:=⟨false,true,1,1,fun _=>Ga n c kf kl⟩
abbrev gone:ax:=⟨true,false,0,0,fun _=>.nil⟩
def isVar (o:ax):Bool:=!o.row&&o.wr&&o.es==1&&o.len==1
def AR (st:aD) (k:Nat):Option (Nat×Nat×(Nat->AV)×Nat):=match look k st with
 |some o=>if isVar o then match o.f 0 with
  |.own k0 6 0 m=>match look k0 st with
   |some r=>if r.row&&r.wr&&r.es==6&&k0 !=k then some (k0,m,r.f,r.len)else none
   |none=>none
  |_=>none else none
 |none=>none
def BM (st:aD) (kf kl:Nat):Option (AV×AV):=match look kl st with
 |some o=>if isVar o then match o.f 0 with
  |.func g [.bM ch,.ptr kf' 0 1 0 [],.ptr kl' 0 1 0 [],.bM is]=>if g==kO&&kf'==kf&&kl'==kl&&kl !=kf then some (ch,is)else none
  |_=>none else none
 |none=>none
def xg:AV->Option AV
 |.func g [.bM ch]=>if g==qD then some ch else none
 |_=>none
def nO (d:Nat):Spec:=fun K args st=>match args with
 |[x,y,.bM ch,.ptr kf 0 1 0 [],.ptr kl 0 1 0 [],.bM is]=>match(fq ag).read x,(fq ag).read y,o5.read ch,xg is with
  |some (x,q1),some (y,q2),some ((n,c),q3),some ch1=>match AR st kf,BM st kf kl with
   |some (k0,m,f,len),some (ch2,is2)=>match xg is2 with
    |some ch3=>if k0 !=kl&&Nat.blt kf K&&Nat.blt kl K&&Nat.blt k0 K then
      some ⟨.tuple [],[(kf,tA K (iA f m++ek n c d x y).length),(kl,qp n c kf kl),(K,qq (iA f m++ek n c d x y)),(k0,gone)],
       [az q1,az q2,az q3,bA ch1 (fC n c),bA ch2 (fC n c),bA ch3 (fC n c),m=len,∀i,i<m->keys (f i)=[]/\bA (f i) (fX (jW (f i)).1 (jW (f i)).2 ag),0<n,n<2^40,mF n c d x y,m+(ek n c d x y).length<2^30]⟩else none
    |none=>none
   |_,_=>none
  |_,_,_,_=>none
 |_=>none
def LU (d:Nat):bp:=nG::(60,zm)::(68,D5)::(70,CG)::(69,EZ)::(qD,BR)::(kO,nO d)::gn
abbrev Lk:Code:=aG f67
abbrev BY (n:Nat) (c:Nat->PP) (x y:Rat):List AV:=[.rat x ag,.rat y ag,.bM (fC n c),.ptr 0 0 1 0 [],.ptr 1 0 1 0 [],.bM (Ad n c)]
abbrev Lp (n:Nat) (c:Nat->PP) (l:List (Rat×Rat)):aD:=[(0,tA 2 l.length),(1,qp n c 0 1),(2,qq l)]
theorem Lb:aZ kO f67:=bf func67
theorem Zg {d n:Nat} {c:Nat->PP} {x y:Rat} {l:List (Rat×Rat)}:aF T (LU d) [32,34,22] 60 [3,4] [Lk] ⟨aQ 0 (BY n c x y),Lp n c l,3⟩=
  let c31:AV:=fC n fun i=>cO (aK (c i));let c29:Int:=gG n (fun i=>cO (aK (c i))) x y;let c26:Nat:=2^30;let c25:Prop:=0<n;let c24:Prop:=1*6<=2^24;let c21:Rat:=dG x y;let c19:Nat:=l.length;let c18:AV:=rat 0 1;let c17:Prop:=n<2^40;let c16:Prop:=ag<=ag;let c14:AV:=ptr 0 0 1 0 [];let c13:AV:=ptr 1 0 1 0 [];let c11:Prop:=az [∀(i:Nat),i<n->bA (aK (cO (aK (c i)))) (aK (cO (aK (cO (aK (c i))))))];let c10:AV:=(ak 1 n fun i=>ak 3 (c i).fst fun i_1=>rat ((c i).snd i_1) ag).bM;let c9:AV:=(ak 1 n fun i=>ak 3 (c i).fst fun i_1=>rat (aT (rat (aT (rat ((c i).snd i_1) ag)) ag)) ag).bM;let c6:Prop:=0<1;let c33:List (Rat×Rat):=ek n (fun i=>cO (aK (c i))) d x c21;let c32:Nat:=c19+1;let c30:Rat:=eA (cO (aK (c 0))) c21;let c28:Prop:=az [c16];let c27:AV:=own 2 6 0 c19;let c20:Prop:=mF n (fun i=>cO (aK (cO (aK (c i))))) d c21 y;let c12:Prop:=bA (fC n c) c31;let c8:List AV:=[c14,c13];let c7:List (Rat×Rat):=ek n (fun i=>cO (aK (cO (aK (c i))))) d c21 y;let c5:Prop:=bA c31 (fC n fun i=>cO (aK (cO (aK (c i)))));let c4:Nat×ax:=(1,ax.mk false true 1 1 fun x=>func 67 [c10,c14,c13,(func 64 [c10]).bM]);let c3:Nat×ax:=(1,ax.mk false true 1 1 fun x=>func 67 [c9,c14,c13,(func 64 [c9]).bM]);let c1:List (Rat×Rat):=iA (cT l) c19++c33;let c15:Nat:=c1.length;let c23:List (Rat×Rat):=iA (cT c1) c15++c7;let c22:Nat:=c15+1;let c2:List (Rat×Rat):=iA (fun i=>if i<c15 then cT c1 i else nth [agg [rat c21 ag,rat c21 ag]] (agg [c18,c18]) (i-c15+0)) c22++c7;some (aj [c6,c6,∀(i:Nat),i<n->bA (aK (c i)) (aK (cO (aK (c i)))),c16,c16,c25,c17,dc n (fun i=>cO (aK (c i))) x,dc n (fun i=>cO (aK (c i))) y] (fork (c29==0) (leaf normal (c8,[c4,(0,ax.mk false true 1 1 fun x=>c27),(2,ax.mk true true 6 c19 fun i=>agg [rat (cy l i).fst ag,rat (cy l i).snd ag])])) (fork (c29==1) (aj [c6,c6,c6,c16,c16,c24,c32*((112:Nat)+1)*2<=2^47,c6] (leaf normal (c8,[c4,(0,ax.mk false true 1 1 fun j=>if(j==0)=true then dL (own (nat_lit 61442+1) 6 0 c32)else c27),(61443,ax.mk true true 6 c32 fun i=>if i<c19 then cT l i else nth [agg [rat (iU x y) ag,rat (iV x y) ag]] (agg [c18,c18]) (i-c19+0))]))) (aj [c6,c6,c16,c16,Sz c21 ag,c6] (aj [c6,c6,c6,c28,c28,az [∀(i:Nat),i<n->bA (aK (c i)) (aK (cO (aK (c i))))],c12,c12,c12,c19=c19,∀(i:Nat),i<c19->(cT l i).keys=[]/\bA (cT l i) (fX (aT (rat (cy l i).fst ag)) (aT (rat (cy l i).snd ag)) ag),c25,c17,mF n (fun i=>cO (aK (c i))) d x c21,c19+c33.length<c26] (aj [c6,c16,∀(i:Nat),i<n->bA (aK (c i)) (aK (cO (aK (c i)))),c25,dc n (fun i=>cO (aK (c i))) c21] (fork (decide (c30=0)) (aj [c6,c6,c16,c24,c22*((112:Nat)+1)*2<=2^47,c6] (aj [c6,c6,c6,c28,c28,c11,c5,c5,c5,c22=c22,∀(i:Nat),i<c22->(if i<c15 then cT c1 i else nth [agg [rat c21 ag,rat c21 ag]] (agg [c18,c18]) (i-c15+0)).keys=[]/\bA (if i<c15 then cT c1 i else nth [agg [rat c21 ag,rat c21 ag]] (agg [c18,c18]) (i-c15+0)) (fX (jW (if i<c15 then cT c1 i else nth [agg [rat c21 ag,rat c21 ag]] (agg [c18,c18]) (i-c15+0))).fst (jW (if i<c15 then cT c1 i else nth [agg [rat c21 ag,rat c21 ag]] (agg [c18,c18]) (i-c15+0))).snd ag),c25,c17,c20,c22+c7.length<c26] (leaf normal (c8,[c3,(0,ax.mk false true 1 1 fun x=>own 126979 6 0 c2.length),(126979,ax.mk true true 6 c2.length fun i=>agg [rat (cy c2 i).fst ag,rat (cy c2 i).snd ag])])))) (aj [c6,c6,c6,c28,c28,c11,c5,c5,c5,c15=c15,∀(i:Nat),i<c15->(cT c1 i).keys=[]/\bA (cT c1 i) (fX (aT (rat (cy c1 i).fst ag)) (aT (rat (cy c1 i).snd ag)) ag),c25,c17,c20,c15+c7.length<c26] (leaf normal (c8,[c3,(0,ax.mk false true 1 1 fun x=>own 102403 6 0 c23.length),(102403,ax.mk true true 6 c23.length fun i=>agg [rat (cy c23 i).fst ag,rat (cy c23 i).snd ag])])))))))))):=ah
theorem E0 {s:Nat} {v:AV} {x:Rat} {q:List Prop} (h:(fq s).read v=some (x,q)):v.isTuple=false:=by
 unfold fq at h
 dsimp only at h
 split at h
 ·rename_i h1
  unfold mW at h1
  split at h1
  ·rfl
  ·rfl
  ·simp at h1
 ·simp at h
theorem KC {s:Nat} {v:AV} {x:Rat} {q:List Prop} (h:(fq s).read v=some (x,q)):keys v=[]:=by
 unfold fq at h
 dsimp only at h
 split at h
 ·rename_i h1
  unfold mW at h1
  split at h1
  ·rfl
  ·rfl
  ·simp at h1
 ·simp at h
theorem L8 {o:ax} (h:isVar o=true):o=⟨false,true,1,1,o.f⟩:=by
 obtain⟨r,w,es,len,f⟩:=o
 unfold isVar at h
 simp only[Bool.and_eq_true,Bool.not_eq_true',beq_iff_eq]at h
 obtain⟨⟨⟨h1,h2⟩,h3⟩,h4⟩:=h
 subst h1 h2 h3 h4;rfl
theorem Z1 {st:aD} {k k0 m len:Nat} {f:Nat->AV} (h:AR st k=some (k0,m,f,len)):∃g,look k st=some ⟨false,true,1,1,g⟩/\g 0=.own k0 6 0 m/\look k0 st=some ⟨true,true,6,len,f⟩/\k0≠k:=by
 unfold AR at h
 split at h
 ·rename_i o ho
  split at h
  ·rename_i hv
   have hv:=L8 hv
   split at h
   ·rename_i k0' m' hf
    split at h
    ·rename_i r hr
     split at h
     ·rename_i hc
      simp only[Bool.and_eq_true,beq_iff_eq,bne_iff_ne,ne_eq]at hc
      obtain⟨⟨⟨c1,c2⟩,c3⟩,c4⟩:=hc
      simp only[ay,Prod.mk.injEq]at h
      obtain⟨rfl,rfl,rfl,rfl⟩:=h
      refine⟨o.f,by rw[ho,<-hv],hf,?_,c4⟩
      rw[hr]
      obtain⟨r1,r2,r3,r4,r5⟩:=r
      subst c1 c2 c3;rfl
     ·simp at h
    ·simp at h
   ·simp at h
  ·simp at h
 ·simp at h
theorem Sy {st:aD} {kf kl:Nat} {ch is:AV} (h:BM st kf kl=some (ch,is)):∃g,look kl st=some ⟨false,true,1,1,g⟩/\g 0=.func kO [.bM ch,.ptr kf 0 1 0 [],.ptr kl 0 1 0 [],.bM is]/\kl≠kf:=by
 unfold BM at h
 split at h
 ·rename_i o ho
  split at h
  ·rename_i hv
   have hv:=L8 hv
   split at h
   ·rename_i g' ch' kf' kl' is' hf
    split at h
    ·rename_i hc
     simp only[Bool.and_eq_true,beq_iff_eq,bne_iff_ne,ne_eq]at hc
     obtain⟨⟨⟨c1,c2⟩,c3⟩,c4⟩:=hc
     simp only[ay,Prod.mk.injEq]at h
     obtain⟨rfl,rfl⟩:=h
     subst c1 c2 c3
     exact⟨o.f,by rw[ho,<-hv],hf,c4⟩
    ·simp at h
   ·simp at h
  ·simp at h
 ·simp at h
theorem JM {v ch:AV} (h:xg v=some ch):v=.func qD [.bM ch]:=by
 unfold xg at h
 split at h
 ·split at h
  ·rename_i hc
   have:=eq_of_beq hc
   simp only[ay]at h
   subst h this;rfl
  ·simp at h
 ·simp at h
theorem vZ {f:Nat->AV} {m:Nat}:(iA f m).length=m:=by simp[iA]
theorem Y8 {f:Nat->AV} {m i:Nat} (h:i<m):cy (iA f m) i=jW (f i):=by
 unfold cy iA
 simp[List.getD,h]
theorem Hw {f:Nat->AV} {m:Nat} {l:List (Rat×Rat)} (hl:l.length=m) (h:∀i,i<m->jW (f i)=cy l i):iA f m=l:=by
 apply List.ext_getElem
 ·rw[vZ,hl]
 ·intro i h1 h2
  have:=h i (by rwa [vZ]at h1)
  simp only[iA,List.getElem_map,List.getElem_range,this,cy]
  simp[List.getD,h2]
theorem KV {l:List (Rat×Rat)}:iA (cT l) l.length=l:=Hw rfl fun i _=>rfl
theorem X0 {l l':List (Rat×Rat)} {i:Nat}:cy (l++l') i=if i<l.length then cy l i else cy l' (i-l.length):=by
 unfold cy
 simp only[List.getD,List.getElem?_append]
 split<;>rfl
theorem xU {s':aH} {e:aq} {n:Nat} {c:Nat->PP} {kf kl K kx:Nat} {vs:List AV} {vf vl row:ax} {L:List (Rat×Rat)} (he:e=.normal) (h1:kl≠kf) (g1:kf<K) (g2:kl<K) (hv:bh [3,4] s'=some (vs,[(1,vl),(0,vf),(kx,row)])) (hkx:2<=kx) (hl:vl=qp n c 0 1)
  (hf:vf=⟨false,true,1,1,vf.f⟩) (hf0:vf.f 0=.own kx 6 0 L.length) (hr:row=⟨true,true,6,L.length,row.f⟩) (hr0:∀i,i<L.length->row.f i=cT L i):
  (e=.normal\/e=.ret)/\∃ls vs os kx o1 o2 o3,bh ls s'=some (vs,os)/\2<=kx/\
   look 0 os=some o1/\de (aW [(kf,0),(kl,1),(K,kx)]) o1 (tA K L.length)/\look 1 os=some o2/\de (aW [(kf,0),(kl,1),(K,kx)]) o2 (qp n c kf kl)/\look kx os=some o3/\de (aW [(kf,0),(kl,1),(K,kx)]) o3 (qq L):=by
 have n1:¬kf=K:=aa
 have n2:¬kl=K:=aa
 have n3:¬0=kx:=aa
 have n4:¬1=kx:=aa
 have r1:aW [(kf,0),(kl,1),(K,kx)] kf=some 0:=by simp[aW,look]
 have r2:aW [(kf,0),(kl,1),(K,kx)] kl=some 1:=by simp[aW,look,h1.symm]
 have r3:aW [(kf,0),(kl,1),(K,kx)] K=some kx:=by simp[aW,look,n1,n2]
 refine⟨.inl he,[3,4],vs,_,kx,vf,vl,row,hv,hkx,by simp[look],?_,by simp[look],?_,by simp[look,n3,n4],?_⟩
 ·rw[hf]
  exact fZ rfl fun i hi=>by obtain rfl:i=0:=aa;rw[hf0];exact dB r3 rfl rfl
 ·rw[hl]
  exact fZ rfl fun i hi=>C1 ⟨⟨rfl,gT rfl (.refl _)⟩,⟨rfl,gq r1⟩,⟨rfl,gq r2⟩,⟨rfl,gT rfl (.refl _)⟩,trivial⟩ rfl
 ·rw[hr]
  exact fZ rfl fun i hi=>by rw[hr0 i hi];exact gT rfl (.refl _)
theorem Vy {d:Nat} (h:∀K args pre r,nO d K args pre=some r->aO P kO K args pre r):bI P (LU d):=jr (aI CB (aI Jk (aI Kp (aI YS (aI LM (aI h gD))))))
theorem mF.right {n d:Nat} {c:Nat->PP} {x y:Rat} (h:mF n c d x y):dc n c y:=by
 cases d with
 |zero=>exact h.elim
 |succ d=>exact h.2.1
theorem Kt {v z:AV} {i:Nat} (h:i=0):nth [v] z i=v:=by subst h;rfl
theorem sD {l:List (Rat×Rat)} {p:Rat×Rat} {z:AV} {i:Nat} (hi:i<l.length+1):(if i<l.length then cT l i else nth [fX p.1 p.2 ag] z (i-l.length+0))=cT (l++[p]) i:=by
 unfold cT
 rw[X0]
 split
 ·rfl
 ·rw[Kt aa,show i-l.length=0 by omega];rfl
theorem Fb {l:List (Rat×Rat)} {p:Rat×Rat} {z:AV}:iA (fun i=>if i<l.length then cT l i else nth [fX p.1 p.2 ag] z (i-l.length+0)) (l.length+1)=l++[p]:=
 Hw (by simp) fun i hi=>by
  have:=sD (p:=p) (z:=z) hi
  rw[this];rfl
theorem acP {d:Nat} (hd:∀K args pre r,nO d K args pre=some r->aO P kO K args pre r) {n:Nat} {c:Nat->PP} {x y:Rat} {l:List (Rat×Rat)} {kf kl K:Nat} (h1:kl≠kf) (g1:kf<K) (g2:kl<K) (hn0:0<n) (hn:n<2^40) (hz:mF n c (d+1) x y) (hb:l.length+(ek n c (d+1) x y).length<2^30) (cx:Ctx):
  au P cx f67.ntmps Lk ⟨aQ 0 (BY n c x y),Lp n c l,3⟩ fun e s'=>(e=.normal\/e=.ret)/\∃ls vs os kx o1 o2 o3,bh ls s'=some (vs,os)/\2<=kx/\
   look 0 os=some o1/\de (aW [(kf,0),(kl,1),(K,kx)]) o1 (tA K (l++ek n c (d+1) x y).length)/\look 1 os=some o2/\de (aW [(kf,0),(kl,1),(K,kx)]) o2 (qp n c kf kl)/\look kx os=some o3/\de (aW [(kf,0),(kl,1),(K,kx)]) o3 (qq (l++ek n c (d+1) x y)):=by
 have hW:=dw
 obtain⟨z1,z2,z3⟩:=hz
 have hC:(fun i=>cO (aK (c i)))=c:=rfl
 have hL:ek n c (d+1) x y=if gG n c x y=0 then []else if gG n c x y=1 then [(iU x y,iV x y)]else
  ek n c d x (dG x y)++(if eA (c 0) (dG x y)=0 then(dG x y,dG x y)::ek n c d (dG x y) y else ek n c d (dG x y) y):=rfl
 have hk:∀{l:List (Rat×Rat)} {i:Nat},i<l.length->keys (cT l i)=[]/\bA (cT l i) (fX (aT (.rat (cy l i).1 ag)) (aT (.rat (cy l i).2 ag)) ag):=fun _=>⟨rfl,.refl _⟩
 have hq:∀{l:List (Rat×Rat)} {p:Rat×Rat} {z:AV} {i:Nat},i<l.length+1->keys (if i<l.length then cT l i else nth [fX p.1 p.2 ag] z (i-l.length+0))=[]/\
   bA (if i<l.length then cT l i else nth [fX p.1 p.2 ag] z (i-l.length+0)) (fX (jW (if i<l.length then cT l i else nth [fX p.1 p.2 ag] z (i-l.length+0))).1 (jW (if i<l.length then cT l i else nth [fX p.1 p.2 ag] z (i-l.length+0))).2 ag):=fun hi=>by
  rw[sD hi];exact⟨rfl,.refl _⟩
 refine au.bD hT (Vy hd) hm 60 [3,4] Zg Lb.dst ?_
 simp only[af.all,az,hC,beq_iff_eq,beq_eq_false_iff_ne,ne_eq,bz,bB,KV]
 refine⟨⟨aa,aa,fun i _=>.refl _,aP,aP,hn0,hn,z1,z2⟩,fun b0 s' hv=>?_,fun b0=>⟨fun b1=>⟨⟨aa,aa,aa,aP,aP,aa,?_,aa⟩,fun s' hv=>?_⟩,fun b1=>?_⟩⟩
 ·rw[hL,if_pos b0,List.append_nil]
  exact⟨.inl trivial,(xU (L:=l) rfl h1 g1 g2 hv aa rfl rfl rfl rfl fun i _=>rfl).2⟩
 ·rw[hL,if_neg b0,if_pos b1]at hb
  simp only[List.length_cons,List.length_nil]at hb
  omega
 ·rw[hL,if_neg b0,if_pos b1]
  refine⟨.inl trivial,(xU (L:=l++[(iU x y,iV x y)]) rfl h1 g1 g2 hv aa rfl rfl (by rw[List.length_append];rfl) (by rw[List.length_append];rfl) fun i hi=>?_).2⟩
  rw[List.length_append]at hi
  exact sD (p:=(iU x y,iV x y)) hi
 ·obtain⟨m1,m2,m3⟩:=z3 b0 b1
  rw[hL,if_neg b0,if_neg b1]at hb ⊢
  rw[List.length_append]at hb
  have hl2:(ek n c d (dG x y) y).length<=(if eA (c 0) (dG x y)=0 then(dG x y,dG x y)::ek n c d (dG x y) y else ek n c d (dG x y) y).length:=by
   split
   ·exact Nat.le_succ _
   ·exact Nat.le_refl _
  refine⟨⟨aa,aa,aP,aP,m1,aa⟩,⟨aa,aa,aa,aP,aP,fun i _=>.refl _,.refl _,.refl _,.refl _,trivial,fun i hi=>hk hi,hn0,hn,m2,aa⟩,⟨aa,aP,fun i _=>.refl _,hn0,m2.right⟩,fun r0=>⟨⟨aa,aa,aP,aa,?_,aa⟩,⟨aa,aa,aa,aP,aP,fun i _=>.refl _,.refl _,.refl _,.refl _,trivial,fun i hi=>hq (p:=(dG x y,dG x y)) hi,hn0,hn,m3,?_⟩,fun s' hv=>?_⟩,
   fun r0=>⟨⟨aa,aa,aa,aP,aP,fun i _=>.refl _,.refl _,.refl _,.refl _,trivial,fun i hi=>hk hi,hn0,hn,m3,?_⟩,fun s' hv=>?_⟩⟩
  ·rw[List.length_append];omega
  ·have r0:eA (c 0) (dG x y)=0:=r0
   rw[if_pos r0,List.length_cons]at hb
   show(l++ek n c d x (dG x y)).length+1+(ek n c d (dG x y) y).length<2^30
   rw[List.length_append];omega
  ·have r0:eA (c 0) (dG x y)=0:=r0
   rw[if_pos r0]
   have e:=Fb (l:=l++ek n c d x (dG x y)) (p:=(dG x y,dG x y)) (z:=.agg [.rat 0 1,.rat 0 1])
   dsimp only at e hv
   rw[e]at hv
   rw[show l++(ek n c d x (dG x y)++(dG x y,dG x y)::ek n c d (dG x y) y)=l++ek n c d x (dG x y)++[(dG x y,dG x y)]++ek n c d (dG x y) y by simp[List.append_assoc]]
   exact⟨.inl trivial,(xU rfl h1 g1 g2 hv aa rfl rfl rfl rfl fun i _=>rfl).2⟩
  ·show(l++ek n c d x (dG x y)).length+(ek n c d (dG x y) y).length<2^30
   rw[List.length_append];omega
  ·have r0:¬eA (c 0) (dG x y)=0:=r0
   rw[if_neg r0,<-List.append_assoc]
   exact⟨.inl trivial,(xU rfl h1 g1 g2 hv aa rfl rfl rfl rfl fun i _=>rfl).2⟩
theorem Ji {d:Nat} (ih:∀e,d=e+1->∀K args pre r,nO e K args pre=some r->aO P kO K args pre r):aY P (nO d) kO:=by
 intro K args pre r h
 unfold nO at h
 split at h
 ·rename_i x' y' ch kf kl is
  split at h
  ·rename_i x q1 y q2 n c q3 ch1 hx hy hc hi
   split at h
   ·rename_i k0 m f len ch2 is2 hl hcl
    split at h
    ·rename_i ch3 hi3
     split at h
     ·rename_i hk
      simp only[ay]at h
      subst h
      simp only[Bool.and_eq_true,bne_iff_ne,ne_eq,Nat.blt_eq]at hk
      obtain⟨⟨⟨k1,k2⟩,k3⟩,k4⟩:=hk
      obtain⟨e1,l1,l2,l3,l4⟩:=Z1 hl
      obtain⟨e2,c1,c2,c3⟩:=Sy hcl
      obtain rfl:=JM hi
      obtain rfl:=JM hi3
      intro need
      obtain⟨n1,n2,n3,n4,n5,n6,n7,n8,n9,n10,n11,n12⟩:=need
      have hch:=o5.ok hc n3
      have r0:aW [(0,kf),(1,kl),(2,k0)] 0=some kf:=rfl
      have r1:aW [(0,kf),(1,kl),(2,k0)] 1=some kl:=rfl
      have r2:aW [(0,kf),(1,kl),(2,k0)] 2=some k0:=rfl
      have hcr:∀{ρ:Nat->Option Nat} {u v:AV},bA u v->gi ρ (.bM u) (.bM v):=fun h=>gT rfl (Da h)
      have hcl:∀{ρ:Nat->Option Nat} {u v:AV},bA u v->gi ρ (.bM (.func qD [.bM u])) (.bM (.func qD [.bM v])):=fun h=>hcr (S3 ⟨Da h,trivial⟩ rfl)
      refine aO.frame (pre:=[(kf,⟨false,true,1,1,e1⟩),(kl,⟨false,true,1,1,e2⟩),(k0,⟨true,true,6,len,f⟩)]) (Vc hT Lb (args0:=BY n c x y) (oa0:=tA 2 (iA f m).length) (ob0:=qp n c 0 1) (oc0:=qq (iA f m)) ah rfl c3 l4 k1 k2 k3 k4 (fun _=>?_) aX (fun _=>⟨?_,?_,?_⟩) (fun _ cx _=>?_)) (fun k o hk=>?_) ⟨n1,n2,n3,n4,n5,n6,n7,n8,n9,n10,n11,n12⟩
      ·exact⟨⟨E0 hx,gT (KC hx) ((fq ag).ok hx n1)⟩,⟨E0 hy,gT (KC hy) ((fq ag).ok hy n2)⟩,⟨rfl,hcr hch⟩,⟨rfl,gq r0⟩,⟨rfl,gq r1⟩,⟨rfl,hcl n4⟩,trivial⟩
      ·rw[vZ]
       exact fZ rfl fun i hi=>by obtain rfl:i=0:=aa;rw[l2];exact dB r2 rfl rfl
      ·exact fZ rfl fun i hi=>by
        obtain rfl:i=0:=aa
        rw[c2]
        exact C1 ⟨⟨rfl,hcr n5⟩,⟨rfl,gq r0⟩,⟨rfl,gq r1⟩,⟨rfl,hcl n6⟩,trivial⟩ rfl
      ·refine fZ (by rw[vZ];exact n7) fun i hi=>?_
       obtain⟨p1,p2⟩:=n8 i aa
       unfold cT
       rw[Y8 (show i<m by omega)]
       exact gT p1 p2
      ·cases d with
       |zero=>exact absurd n11 id
       |succ d=>exact acP (ih d rfl) c3 k2 k3 n9 n10 n11 (by rw[vZ];exact n12) cx
      ·rcases qk hk with⟨e1,e2⟩|⟨e1,_,e2⟩|⟨e1,_,_,e2⟩<;>subst e1<;>subst e2
       ·exact l1
       ·exact c1
       ·exact l3
     ·simp at h
    ·simp at h
   ·simp at h
  ·simp at h
 ·simp at h
theorem IC:∀d K args pre r,nO d K args pre=some r->aO P kO K args pre r
 |0=>Ji fun e h=>absurd h aa
 |d+1=>Ji fun e h=>by obtain rfl:d=e:=aa;exact IC d
end Go.Am.B
namespace Go.Am
def sg (f:Nat->Rat):Nat->Rat
 |0=>0
 |n+1=>sg f n+f n
theorem fY {f g:Nat->Rat}:∀{n:Nat},(∀i,i<n->f i=g i)->sg f n=sg g n
 |0,_=>rfl
 |n+1,h=>by rw[sg,sg,fY fun i hi=>h i (by omega),h n (by omega)]
theorem lW {f:Nat->Rat}:∀{n:Nat},(∀i,i<n->f i=0)->sg f n=0
 |0,_=>rfl
 |n+1,h=>by rw[sg,lW fun i hi=>h i (by omega),h n (by omega),Rat.add_zero]
theorem rH {f g:Nat->Rat}:∀{n:Nat},sg (fun i=>f i+g i) n=sg f n+sg g n
 |0=>by simp only[sg];grind
 |n+1=>by rw[sg,sg,sg,rH];grind
theorem ko {f:Nat->Rat} {c:Rat}:∀{n:Nat},sg (fun i=>c*f i) n=c*sg f n
 |0=>by simp only[sg];grind
 |n+1=>by rw[sg,sg,ko];grind
theorem tF {f:Nat->Rat}:∀{n:Nat},sg f (n+1)=f 0+sg (fun i=>f (i+1)) n
 |0=>by simp only[sg];grind
 |n+1=>by rw[sg,tF,sg];grind
theorem zZ {f:Nat->Rat} {n:Nat}:∀{m:Nat},sg f (n+m)=sg f n+sg (fun i=>f (n+i)) m
 |0=>by simp only[sg];show sg f n=_;grind
 |m+1=>by
  show sg f (n+m)+f (n+m)=sg f n+(sg (fun i=>f (n+i)) m+f (n+m))
  rw[zZ];grind
theorem yR {f:Nat->Rat} {n m:Nat} (h:∀i,n<=i->i<m->f i=0) (hm:n<=m):sg f m=sg f n:=by
 obtain⟨l,rfl⟩:∃l,m=n+l:=⟨m-n,by omega⟩
 rw[zZ,lW (f:=fun i=>f (n+i)) fun i hi=>h _ (by omega) (by omega),Rat.add_zero]
theorem yx {f:Nat->Nat->Rat} {n:Nat}:∀{m:Nat},sg (fun i=>sg (fun j=>f i j) n) m=sg (fun j=>sg (fun i=>f i j) m) n
 |0=>(lW fun _ _=>rfl).symm
 |m+1=>by
  rw[sg,yx,<-rH];rfl
theorem pow_add' (t:Rat) (m:Nat):∀n:Nat,t^(m+n)=t^m*t^n
 |0=>by rw[Nat.add_zero,Rat.pow_zero,Rat.mul_one]
 |n+1=>by rw[<-Nat.add_assoc,Rat.pow_succ,pow_add' t m n,Rat.pow_succ,Rat.mul_assoc]
def ev (n:Nat) (k:Nat->Rat) (t:Rat):Rat:=sg (fun i=>k i*t^i) n
theorem oH {n:Nat} {k l:Nat->Rat} {t:Rat} (h:∀i,i<n->k i=l i):ev n k t=ev n l t:=fY fun i hi=>by rw[h i hi]
theorem Qw {n:Nat} {k:Nat->Rat} {t:Rat}:ev (n+1) k t=ev n k t+k n*t^n:=rfl
theorem sE {n:Nat} {k:Nat->Rat} {t:Rat}:ev (n+1) k t=k 0+t*ev n (fun i=>k (i+1)) t:=by
 unfold ev
 rw[tF,<-ko,Rat.pow_zero,Rat.mul_one]
 congr 1
 exact fY fun i _=>by rw[Rat.pow_succ];grind
theorem EO {n m:Nat} {k:Nat->Rat} {t:Rat} (h:∀i,n<=i->i<m->k i=0) (hm:n<=m):ev m k t=ev n k t:=yR (fun i h1 h2=>by rw[h i h1 h2,Rat.zero_mul]) hm
theorem sj {n:Nat} {k l:Nat->Rat} {t:Rat}:ev n (fun i=>k i+l i) t=ev n k t+ev n l t:=by
 unfold ev;rw[<-rH];exact fY fun i _=>by grind
theorem tH {n:Nat} {k:Nat->Rat} {c t:Rat}:ev n (fun i=>c*k i) t=c*ev n k t:=by
 unfold ev;rw[<-ko];exact fY fun i _=>by grind
theorem T8 {n m:Nat} {k:Nat->Rat} {t:Rat}:ev (m+n) (fun i=>if m<=i then k (i-m)else 0) t=t^m*ev n k t:=by
 unfold ev
 rw[zZ,lW fun i hi=>by dsimp only;rw[if_neg (by omega),Rat.zero_mul],Rat.zero_add,<-ko]
 exact fY fun i _=>by dsimp only;rw[if_pos (by omega),pow_add',show m+i-m=i by omega];grind
theorem EU {n:Nat} {k:Nat->Rat} {t:Rat}:∀m,m<=n->eL n k t m=ev m (fun i=>k (n-m+i)) t
 |0,_=>rfl
 |m+1,h=>by
  rw[eL,EU m (by omega),sE]
  rw[show n-(m+1)+0=n-1-m by omega,oH (l:=fun i=>k (n-(m+1)+(i+1))) fun i _=>by rw[show n-m+i=n-(m+1)+(i+1) by omega]]
  grind
theorem GH {a:PP} {t:Rat}:eA a t=ev a.1 a.2 t:=by
 unfold eA
 rw[EU _ (Nat.le_refl _)]
 exact oH fun i _=>by rw[Nat.sub_self,Nat.zero_add]
def qv (n:Nat) (k:Nat->Rat) (c:Rat) (i:Nat):Rat:=eL n k c (n-1-i)
theorem JV {k:Nat->Rat} {c t:Rat}:∀n,ev (n+1) k t=(t-c)*ev n (qv (n+1) k c) t+ev (n+1) k c
 |0=>by simp only[ev,sg];grind
 |n+1=>by
  -- by the lowest coefficient
  have ih:=JV (k:=fun i=>k (i+1)) (c:=c) (t:=t) n
  have e1:∀m,m<=n+1->eL (n+1+1) k c m=eL (n+1) (fun i=>k (i+1)) c m:=fun m=>by
   induction m with
   |zero=>exact fun _=>rfl
   |succ m ihm=>
    intro hm
    rw[eL,eL,ihm (by omega),show n+1+1-1-m=n+1-1-m+1 by omega]
  have e2:ev (n+1) (qv (n+1+1) k c) t=ev (n+1) (fun i=>k (i+1)) c+t*ev n (qv (n+1) (fun i=>k (i+1)) c) t:=by
   rw[sE]
   congr 1
   ·unfold qv
    rw[show n+1+1-1-0=n+1 by omega,e1 (n+1) (Nat.le_refl _)]
    have:=GH (a:=(n+1,fun i=>k (i+1))) (t:=c)
    exact this
   ·congr 1
    refine oH fun i hi=>?_
    unfold qv
    rw[show n+1+1-1-(i+1)=n+1-1-i by omega,e1 _ (by omega)]
  rw[sE (n:=n+1) (t:=t),sE (n:=n+1) (t:=c),ih,e2]
  grind
theorem aaj {a b:Nat} (h:((a:Int):Rat)=((b:Int):Rat)):a=b:=by
 have:(a:Int)=(b:Int):=by exact_mod_cast h
 omega
theorem LO:∀(n:Nat) (k:Nat->Rat) (s:Nat),(∀j,s<=j->j<s+n->ev n k ((j:Int):Rat)=0)->∀i,i<n->k i=0
 |0,_,_,_=>fun i hi=>absurd hi (Nat.not_lt_zero i)
 |n+1,k,s,h=>by
  have h0:=h s (Nat.le_refl _) (by omega)
  have hq:∀i,i<n->qv (n+1) k ((s:Int):Rat) i=0:=LO n _ (s+1) fun j h1 h2=>by
   have:=h j (by omega) (by omega)
   rw[JV (c:=((s:Int):Rat)),h0,Rat.add_zero]at this
   rcases Rat.mul_eq_zero.1 this with h3|h3
   ·have:((j:Int):Rat)=((s:Int):Rat):=by grind
    have:=aaj this
    omega
   ·exact h3
  have hh:∀m,m<=n->eL (n+1) k ((s:Int):Rat) m=0:=fun m hm=>by
   cases m with
   |zero=>rfl
   |succ m=>
    have:=hq (n-(m+1)) (by omega)
    unfold qv at this
    rwa [show n+1-1-(n-(m+1))=m+1 by omega]at this
  have hl:eL (n+1) k ((s:Int):Rat) (n+1)=0:=by
   have:=GH (a:=(n+1,k)) (t:=((s:Int):Rat))
   exact this.trans h0
  intro i hi
  have e:eL (n+1) k ((s:Int):Rat) (n-i+1)=eL (n+1) k ((s:Int):Rat) (n-i)*((s:Int):Rat)+k (n+1-1-(n-i)):=rfl
  rw[hh (n-i) (by omega),Rat.zero_mul,Rat.zero_add,show n+1-1-(n-i)=i by omega]at e
  rw[<-e]
  rcases Nat.eq_zero_or_pos i with h1|h1
  ·subst h1;exact hl
  ·exact hh _ (by omega)
theorem Y3 {n:Nat} {k l:Nat->Rat} (h:∀t,ev n k t=ev n l t):∀i,i<n->k i=l i:=fun i hi=>by
 have:=LO n (fun i=>k i+-1*l i) 0 (fun j _ _=>by
  rw[sj,tH (k:=l),h];grind) i hi
 grind
def dR (a:PP) (i:Nat):Rat:=if i<a.1 then a.2 i else 0
def bO (a:PP) (t:Rat):Rat:=ev a.1 a.2 t
theorem og {a:PP} {t:Rat} {m:Nat} (h:a.1<=m):ev m (dR a) t=bO a t:=by
 rw[EO (n:=a.1) (fun i h1 h2=>by unfold dR;rw[if_neg (by omega)]) h]
 exact oH fun i hi=>by unfold dR;rw[if_pos hi]
theorem wV {a b:PP} (h:∀t,bO a t=bO b t):∀i,dR a i=dR b i:=fun i=>by
 by_cases hi:i<max a.1 b.1
 ·exact Y3 (n:=max a.1 b.1) (fun t=>by rw[og (Nat.le_max_left _ _),og (Nat.le_max_right _ _),h]) i hi
 ·unfold dR
  rw[if_neg (by omega),if_neg (by omega)]
theorem zS {a b:PP} (ha:Trim a) (h:∀i,dR a i=dR b i):a.1<=b.1:=by
 rcases ha with ha|ha
 ·omega
 ·rcases Nat.lt_or_ge b.1 a.1 with h1|h1
  ·have:=h (a.1-1)
   unfold dR at this
   rw[if_pos (by omega),if_neg (by omega)]at this
   exact absurd this ha
  ·exact h1
theorem aak {a b:PP} (ha:Trim a) (hb:Trim b) (h:∀t,bO a t=bO b t):fS a b:=by
 have hc:=wV h
 have h1:=zS ha hc
 have h2:=zS hb fun i=>(hc i).symm
 refine⟨by omega,fun i hi=>?_⟩
 have:=hc i
 unfold dR at this
 rwa [if_pos hi,if_pos (by omega)]at this
theorem fS.ev {a b:PP} (h:fS a b) (t:Rat):bO a t=bO b t:=by
 unfold bO
 rw[<-h.1]
 exact oH h.2
theorem vH {n:Nat} {k:Nat->Rat} {t:Rat}:ev (bu k n) k t=ev n k t:=(EO (fun i h1 h2=>CM h1 h2) fk).symm
theorem Zt {n e k:Nat} {d r:Nat->Rat} {t:Rat} (h:k+e<n):ev n (fI e d k r) t=ev n r t-r (k+e)/d e*(t^k*ev (e+1) d t):=by
 obtain⟨l,rfl⟩:∃l,n=k+(e+1)+l:=⟨n-(k+(e+1)),by omega⟩
 have h1:ev (k+(e+1)) (fI e d k r) t=ev (k+(e+1)) r t-r (k+e)/d e*(t^k*ev (e+1) d t):=by
  rw[<-T8 (k:=d),Rat.sub_eq_add_neg,<-Rat.neg_mul,<-tH,<-sj]
  refine oH fun i hi=>?_
  unfold fI
  by_cases h2:k<=i
  ·rw[if_pos ⟨h2,by omega⟩,if_pos h2];grind
  ·rw[if_neg (by omega),if_neg h2,Rat.mul_zero,Rat.add_zero]
 have h2:∀(f:Nat->Rat),ev (k+(e+1)+l) f t=ev (k+(e+1)) f t+sg (fun i=>f (k+(e+1)+i)*t^(k+(e+1)+i)) l:=fun f=>zZ
 rw[h2,h2 r,h1,fY (f:=fun i=>fI e d k r (k+(e+1)+i)*t^(k+(e+1)+i)) (g:=fun i=>r (k+(e+1)+i)*t^(k+(e+1)+i)) fun i _=>by unfold fI;rw[if_neg (by omega)]]
 grind
theorem F9 {n e R:Nat} {d a:Nat->Rat} {t:Rat} (hR:R=n-e):∀j,j<=R->ev n a t=ev n (bP e d a R j) t+ev R (fun k=>if k+j<R then 0 else cS e d a R k) t*ev (e+1) d t
 |0,_=>by
  rw[show ev R (fun k=>if k+0<R then 0 else cS e d a R k) t=0 from lW fun i hi=>by dsimp only;rw[if_pos (by omega),Rat.zero_mul],Rat.zero_mul,Rat.add_zero];rfl
 |j+1,hj=>by
  have ih:=F9 (t:=t) hR j (by omega) (d:=d) (a:=a)
  have e1:ev n (bP e d a R (j+1)) t=_:=Zt (k:=R-1-j) (r:=bP e d a R j) (by omega)
  have e2:bP e d a R j (R-1-j+e)/d e=cS e d a R (R-1-j):=by unfold cS;rw[show R-1-(R-1-j)=j by omega]
  rw[e2]at e1
  have e3:ev R (fun k=>if k+(j+1)<R then 0 else cS e d a R k) t=ev R (fun k=>if k+j<R then 0 else cS e d a R k) t+cS e d a R (R-1-j)*t^(R-1-j):=by
   have:∀i,(if i+(j+1)<R then 0 else cS e d a R i)=(if i+j<R then 0 else cS e d a R i)+(if i=R-1-j then cS e d a R (R-1-j)else 0):=fun i=>by
    by_cases h1:i+(j+1)<R
    ·rw[if_pos h1,if_pos (by omega),if_neg (by omega),Rat.add_zero]
    ·rw[if_neg h1]
     by_cases h2:i=R-1-j
     ·rw[if_pos (by omega),if_pos h2,Rat.zero_add,h2]
     ·rw[if_neg (by omega),if_neg h2,Rat.add_zero]
   rw[show(fun k=>if k+(j+1)<R then 0 else cS e d a R k)=fun i=>(if i+j<R then 0 else cS e d a R i)+(if i=R-1-j then cS e d a R (R-1-j)else 0)from funext this,sj]
   congr 1
   -- a single power
   unfold ev
   rw[yR (n:=R-1-j+1) (fun i h1 h2=>by dsimp only;rw[if_neg (by omega),Rat.zero_mul]) (by omega),sg,lW fun i hi=>by dsimp only;rw[if_neg (by omega),Rat.zero_mul],Rat.zero_add]
   dsimp only
   rw[if_pos rfl]
  rw[e1,e3,ih]
  grind
theorem D8 {a d:PP} (hd:0<d.1) (t:Rat):bO a t=bO (gA a d) t*bO d t+bO (cQ a d) t:=by
 have:=F9 (n:=a.1) (e:=d.1-1) (d:=d.2) (a:=a.2) (t:=t) rfl _ (Nat.le_refl _)
 rw[show d.1-1+1=d.1 by omega]at this
 have e1:bO (gA a d) t=ev _ _ t:=vH
 have e2:bO (cQ a d) t=ev _ _ t:=vH
 show ev a.1 a.2 t=bO (gA a d) t*ev d.1 d.2 t+bO (cQ a d) t
 rw[e1,e2,this]
 rw[oH (k:=fun k=>if k+(a.1-(d.1-1))<a.1-(d.1-1)then 0 else cS (d.1-1) d.2 a.2 (a.1-(d.1-1)) k) (l:=cS (d.1-1) d.2 a.2 (a.1-(d.1-1))) fun i hi=>if_neg (by omega)]
 grind
def cs:Nat->(Nat->Rat)->Rat->Rat
 |0,p,_=>p 0
 |m+1,p,t=>(1-t)*cs m p t+t*cs m (fun i=>p (i+1)) t
abbrev bq (n k:Nat):Rat:=((bn n k:Int):Rat)
theorem Ih (n k:Nat):bq (n+1) (k+1)=bq n k+bq n (k+1):=by
 show((bn (n+1) (k+1):Int):Rat)=_
 rw[mJ,Int.natCast_add,Rat.intCast_add]
theorem sr (n:Nat):bq n 0=1:=by show((bn n 0:Int):Rat)=1;rw[od];rfl
theorem Bg {n k:Nat} (h:n<k):bq n k=0:=by show((bn n k:Int):Rat)=0;rw[mm h];rfl
theorem Jx {n k:Nat} (h:k<=n):bq n k≠0:=by
 intro h0
 have h1:((bn n k:Int):Rat).num=(0:Rat).num:=congrArg Rat.num h0
 rw[Rat.num_intCast,show(0:Rat).num=0 from rfl]at h1
 have:=zw h
 omega
theorem Cm {p:Nat->Rat}:∀k i,eW p k (i+1)=eW (fun i=>p (i+1)) k i
 |0,_=>rfl
 |k+1,i=>by rw[eW,eW,Cm (p:=p) k (i+1),Cm (p:=p) k i]
theorem BS:∀(m:Nat) (p:Nat->Rat) (t:Rat),ev (m+1) (fun k=>bq m k*eW p k 0) t=cs m p t
 |0,p,t=>by
  show 0+bq 0 0*p 0*t^0=p 0
  rw[sr,Rat.pow_zero];grind
 |m+1,p,t=>by
  have h1:=BS m p t
  have h2:=BS m (fun i=>p (i+1)) t
  rw[cs,<-h1,<-h2,sE (n:=m+1)]
  have e1:∀k,bq (m+1) (k+1)*eW p (k+1) 0=bq m (k+1)*eW p (k+1) 0+(bq m k*eW (fun i=>p (i+1)) k 0+-1*(bq m k*eW p k 0)):=fun k=>by
   rw[Ih,<-Cm]
   have:eW p (k+1) 0=eW p k 1-eW p k 0:=rfl
   rw[this];grind
  rw[show(fun i=>bq (m+1) (i+1)*eW p (i+1) 0)=fun k=>bq m (k+1)*eW p (k+1) 0+(bq m k*eW (fun i=>p (i+1)) k 0+-1*(bq m k*eW p k 0))from funext e1,sj,sj,tH]
  rw[Qw (k:=fun k=>bq m (k+1)*eW p (k+1) 0),Bg (Nat.lt_succ_self m),Rat.zero_mul,Rat.zero_mul,Rat.add_zero]
  rw[sE (k:=fun k=>bq m k*eW p k 0),sr,sr]
  have:eW p 0 0=p 0:=rfl
  rw[this]
  generalize ev m (fun i=>bq m (i+1)*eW p (i+1) 0) t=A
  generalize ev (m+1) (fun k=>bq m k*eW (fun i=>p (i+1)) k 0) t=B
  grind
theorem Ng {m:Nat} {p:Nat->Rat} {t:Rat}:ev (m+1) (fy (m+1) p) t=cs m p t:=BS m p t
def hv (m:Nat) (u:Nat->Rat) (x y:Rat):Rat:=sg (fun i=>u i*(x^i*y^(m-i))) (m+1)
theorem vL:∀(m:Nat) (p:Nat->Rat) (t:Rat),hv m (fun i=>bq m i*p i) t (1-t)=cs m p t
 |0,p,t=>by
  show 0+bq 0 0*p 0*(t^0*(1-t)^0)=p 0
  rw[sr,Rat.pow_zero,Rat.pow_zero];grind
 |m+1,p,t=>by
  have h1:=vL m p t
  have h2:=vL m (fun i=>p (i+1)) t
  rw[cs,<-h1,<-h2]
  unfold hv
  rw[tF (n:=m+1)]
  dsimp only
  rw[sr]
  have e1:∀i,i<m+1->bq (m+1) (i+1)*p (i+1)*(t^(i+1)*(1-t)^(m+1-(i+1)))=t*(bq m i*p (i+1)*(t^i*(1-t)^(m-i)))+bq m (i+1)*p (i+1)*(t^(i+1)*(1-t)^(m-i)):=fun i hi=>by
   rw[Ih,show m+1-(i+1)=m-i by omega,Rat.pow_succ];grind
  rw[fY e1,rH,ko]
  have e2:sg (fun i=>bq m (i+1)*p (i+1)*(t^(i+1)*(1-t)^(m-i))) (m+1)=sg (fun i=>(1-t)*(bq m (i+1)*p (i+1)*(t^(i+1)*(1-t)^(m-(i+1))))) m:=by
   rw[sg,Bg (Nat.lt_succ_self m),Rat.zero_mul,Rat.zero_mul,Rat.add_zero]
   exact fY fun i hi=>by rw[show m-i=m-(i+1)+1 by omega,Rat.pow_succ (1-t)];grind
  rw[e2,ko,tF (f:=fun i=>bq m i*p i*(t^i*(1-t)^(m-i))),sr,Rat.pow_zero,Nat.sub_zero,Nat.sub_zero,Rat.pow_succ]
  generalize sg (fun i=>bq m (i+1)*p (i+1)*(t^(i+1)*(1-t)^(m-(i+1)))) m=A
  generalize sg (fun i=>bq m i*p (i+1)*(t^i*(1-t)^(m-i))) (m+1)=B
  grind
def je (m n:Nat) (u v:Nat->Rat) (k:Nat):Rat:=sg (fun i=>sg (fun j=>if i+j=k then u i*v j else 0) (n+1)) (m+1)
theorem C7 {f:Nat->Rat} {i n:Nat} (hi:i<n) (h:∀j,j<n->j≠i->f j=0):sg f n=f i:=by
 rw[yR (n:=i+1) (fun j h1 h2=>h j h2 (by omega)) (by omega),sg,lW fun j hj=>h j (by omega) (by omega),Rat.zero_add]
theorem D3 {m n:Nat} {u v X:Nat->Rat}:sg (fun k=>je m n u v k*X k) (m+n+1)=sg (fun i=>sg (fun j=>u i*v j*X (i+j)) (n+1)) (m+1):=by
 unfold je
 have e1:∀k,sg (fun i=>sg (fun j=>if i+j=k then u i*v j else 0) (n+1)) (m+1)*X k=sg (fun i=>sg (fun j=>if i+j=k then u i*v j*X k else 0) (n+1)) (m+1):=fun k=>by
  rw[Rat.mul_comm,<-ko]
  refine fY fun i _=>?_
  rw[<-ko]
  refine fY fun j _=>?_
  by_cases h:i+j=k
  ·rw[if_pos h,if_pos h];grind
  ·rw[if_neg h,if_neg h,Rat.mul_zero]
 rw[fY fun k _=>e1 k,yx]
 refine fY fun i hi=>?_
 rw[yx]
 refine fY fun j hj=>?_
 rw[C7 (i:=i+j) (by omega) fun k _ h=>if_neg fun h'=>h h'.symm,if_pos rfl]
theorem aaF {m n:Nat} {u v:Nat->Rat} {x y:Rat}:hv (m+n) (je m n u v) x y=hv m u x y*hv n v x y:=by
 unfold hv
 rw[D3 (X:=fun k=>x^k*y^(m+n-k)),<-ko (f:=fun i=>v i*(x^i*y^(n-i)))]
 rw[show(fun i=>sg (fun i=>u i*(x^i*y^(m-i))) (m+1)*(v i*(x^i*y^(n-i))))=fun j=>sg (fun i=>v j*(x^j*y^(n-j))*(u i*(x^i*y^(m-i)))) (m+1)from funext fun j=>by rw[ko];grind]
 rw[<-yx]
 refine fY fun i hi=>fY fun j hj=>?_
 rw[show m+n-(j+i)=(m-j)+(n-i) by omega,pow_add',pow_add'];grind
def jb (m n:Nat) (p q:Nat->Rat) (k:Nat):Rat:=je m n (fun i=>bq m i*p i) (fun j=>bq n j*q j) k/bq (m+n) k
theorem Z6 {m n:Nat} {p q:Nat->Rat} {t:Rat}:cs (m+n) (jb m n p q) t=cs m p t*cs n q t:=by
 rw[<-vL,<-vL,<-vL,<-aaF]
 unfold hv
 refine fY fun i hi=>?_
 show bq (m+n) i*jb m n p q i*_=je _ _ _ _ i*_
 rw[show bq (m+n) i*jb m n p q i=je m n (fun i=>bq m i*p i) (fun j=>bq n j*q j) i from by unfold jb;rw[Rat.mul_comm,Rat.div_mul_cancel (Jx (by omega))]]
def Dq (a b:PP):PP:=(max a.1 b.1,fun i=>dR a i+dR b i)
def zg (r:Rat) (a:PP):PP:=(a.1,fun i=>r*a.2 i)
def ff (a b:PP):PP:=(a.1+b.1+1,je a.1 b.1 (dR a) (dR b))
theorem Fw {a b:PP} {t:Rat}:bO (Dq a b) t=bO a t+bO b t:=by
 show ev (max a.1 b.1) (fun i=>dR a i+dR b i) t=_
 rw[sj,og (Nat.le_max_left _ _),og (Nat.le_max_right _ _)]
theorem Ck {r:Rat} {a:PP} {t:Rat}:bO (zg r a) t=r*bO a t:=tH
theorem B7 {m n:Nat} {f g:Nat->Rat}:sg (fun i=>sg (fun j=>f i*g j) n) m=sg f m*sg g n:=by
 rw[Rat.mul_comm,<-ko]
 exact fY fun i _=>by rw[ko,Rat.mul_comm]
theorem jf {a b:PP} {t:Rat}:bO (ff a b) t=bO a t*bO b t:=by
 rw[<-og (a:=a) (Nat.le_succ a.1),<-og (a:=b) (Nat.le_succ b.1)]
 show sg (fun k=>je a.1 b.1 (dR a) (dR b) k*t^k) (a.1+b.1+1)=_
 rw[D3 (X:=fun k=>t^k)]
 unfold ev
 rw[<-B7]
 exact fY fun i _=>fY fun j _=>by rw[pow_add'];grind
def dX (t:Rat) (i:Nat):Rat:=((i:Int):Rat)*t^(i-1)
theorem V7 {t:Rat} {i j:Nat}:dX t (i+j)=dX t i*t^j+t^i*dX t j:=by
 unfold dX
 cases i with
 |zero=>
  rw[Nat.zero_add,Rat.pow_zero,show((0:Nat):Int)=0 from rfl,show((0:Int):Rat)=0 from rfl];grind
 |succ i=>
  cases j with
  |zero=>rw[Nat.add_zero,Rat.pow_zero,show((0:Nat):Int)=0 from rfl,show((0:Int):Rat)=0 from rfl];grind
  |succ j=>
   rw[show i+1+(j+1)-1=i+(j+1) by omega,show i+1-1=i by omega,show j+1-1=j by omega,show((i+1+(j+1):Nat):Int)=((i+1:Nat):Int)+((j+1:Nat):Int) by omega,Rat.intCast_add,pow_add',Rat.pow_succ,Rat.pow_succ];grind
def nk (a:PP) (t:Rat):Rat:=sg (fun i=>a.2 i*dX t i) a.1
theorem zy {a:PP} {t:Rat} {m:Nat} (h:a.1<=m):sg (fun i=>dR a i*dX t i) m=nk a t:=by
 rw[yR (n:=a.1) (fun i h1 h2=>by unfold dR;rw[if_neg (by omega),Rat.zero_mul]) h]
 exact fY fun i hi=>by unfold dR;rw[if_pos hi]
theorem ot {a:PP} {t:Rat}:bO (bQ a) t=nk a t:=by
 have e1:bO (bQ a) t=ev (a.1-1) (cM a.2) t:=vH
 rw[e1]
 unfold nk
 rcases Nat.eq_zero_or_pos a.1 with h|h
 ·rw[h];rfl
 ·obtain⟨n,hn⟩:∃n,a.1=n+1:=⟨a.1-1,by omega⟩
  rw[hn,tF,show n+1-1=n by omega]
  have:dX t 0=0:=by unfold dX;rw[show((0:Nat):Int)=0 from rfl,show((0:Int):Rat)=0 from rfl,Rat.zero_mul]
  rw[this,Rat.mul_zero,Rat.zero_add]
  refine fY fun i _=>?_
  unfold cM dX
  rw[show i+1-1=i by omega];grind
theorem F3 {a b:PP} (h:∀t,bO a t=bO b t) (t:Rat):nk a t=nk b t:=by
 rw[<-zy (Nat.le_max_left a.1 b.1),<-zy (Nat.le_max_right a.1 b.1)]
 exact fY fun i _=>by rw[wV h i]
theorem D6 {a b c:PP} (h:∀t,bO c t=bO a t*bO b t) (t:Rat):nk c t=nk a t*bO b t+bO a t*nk b t:=by
 rw[F3 (b:=ff a b) (fun t=>by rw[h,jf]) t]
 show sg (fun k=>je a.1 b.1 (dR a) (dR b) k*dX t k) (a.1+b.1+1)=_
 rw[D3 (X:=dX t),<-zy (a:=a) (Nat.le_succ a.1),<-zy (a:=b) (Nat.le_succ b.1),<-og (a:=a) (Nat.le_succ a.1),<-og (a:=b) (Nat.le_succ b.1)]
 unfold ev
 rw[<-B7,<-B7,<-rH]
 refine fY fun i _=>?_
 rw[<-rH]
 exact fY fun j _=>by rw[V7];grind
def Dv (h a:PP):Prop:=∃w:PP,∀t,bO a t=bO h t*bO w t
def kD:PP:=(1,fun _=>1)
theorem oz {t:Rat}:bO kD t=1:=by show 0+1*t^0=1;rw[Rat.pow_zero];grind
theorem Dv.refl (a:PP):Dv a a:=⟨kD,fun t=>by rw[oz,Rat.mul_one]⟩
theorem Dv.of_eq {h a b:PP} (hd:Dv h a) (e:∀t,bO a t=bO b t):Dv h b:=hd.imp fun w hw t=>by rw[<-e,hw]
theorem Dv.trans {a b c:PP} (h1:Dv a b) (h2:Dv b c):Dv a c:=by
 obtain⟨v,hv⟩:=h1
 obtain⟨w,hw⟩:=h2
 exact⟨ff v w,fun t=>by rw[hw,hv,jf,Rat.mul_assoc]⟩
theorem Dv.comb {h a b c u v:PP} (ha:Dv h a) (hb:Dv h b) (e:∀t,bO c t=bO u t*bO a t+bO v t*bO b t):Dv h c:=by
 obtain⟨x,hx⟩:=ha
 obtain⟨y,hy⟩:=hb
 exact⟨Dq (ff u x) (ff v y),fun t=>by rw[e,hx,hy,Fw,jf,jf];grind⟩
theorem Dv.CZ {h a:PP} (ha:Dv h a) (r:Rat) {b:PP} (e:∀t,bO b t=r*bO a t):Dv h b:=by
 obtain⟨x,hx⟩:=ha
 exact⟨zg r x,fun t=>by rw[e,hx,Ck];grind⟩
theorem Dv.rem {h a d:PP} (hd:0<d.1) (h1:Dv h a) (h2:Dv h d):Dv h (cQ a d):=
 Dv.comb (u:=kD) (v:=zg (-1) (gA a d)) h1 h2 fun t=>by rw[D8 (a:=a) hd t,oz,Ck];grind
theorem Fo {a:PP} {t:Rat}:bO (dM a) t=(a.2 (a.1-1))⁻¹*bO a t:=by
 show ev a.1 (cE a.1 a.2) t=_
 rw[show bO a t=ev a.1 a.2 t from rfl,<-tH]
 exact oH fun i _=>by unfold cE;rw[Rat.div_def,Rat.mul_comm]
theorem VN {a:PP} (ha:Trim a) {t:Rat}:bO a t=a.2 (a.1-1)*bO (dM a) t:=by
 rw[Fo,<-Rat.mul_assoc]
 rcases ha with h|h
 ·have:bO a t=0:=by show ev a.1 a.2 t=0;rw[h];rfl
  rw[this,Rat.mul_zero]
 ·rw[Rat.mul_inv_cancel _ h,Rat.one_mul]
theorem Dv.cE {h a:PP} (h1:Dv h a):Dv h (dM a):=h1.CZ _ fun _=>Fo
theorem Dv.Eo {h a:PP} (ha:Trim a) (h1:Dv h (dM a)):Dv h a:=h1.CZ _ fun _=>VN ha
theorem Js {h:PP} {s:PP×PP} (h1:Dv h s.1) (h2:Dv h s.2):∀j,Dv h (bK s j).1/\Dv h (bK s j).2
 |0=>⟨h1,h2⟩
 |j+1=>by
  obtain⟨i1,i2⟩:=Js h1 h2 j
  show Dv h (e9 _).1/\Dv h (e9 _).2
  unfold e9
  by_cases h0:(bK s j).2.1=0
  ·rw[if_pos h0];exact⟨i1,i2⟩
  ·rw[if_neg h0];exact⟨i2,(i1.rem (by omega) i2).cE⟩
theorem RY {h a b:PP} (h1:Dv h a) (h2:Dv h b):Dv h (cm a b):=(Js (s:=(a,b)) h1 h2 _).1.cE
theorem DO {h:PP} {s:PP×PP} (t1:Trim s.1) (t2:Trim s.2):∀j,Dv h (bK s j).1->Dv h (bK s j).2->Dv h s.1/\Dv h s.2
 |0,h1,h2=>⟨h1,h2⟩
 |j+1,h1,h2=>by
  have h1:Dv h (e9 (bK s j)).1:=h1
  have h2:Dv h (e9 (bK s j)).2:=h2
  unfold e9 at h1 h2
  by_cases h0:(bK s j).2.1=0
  ·rw[if_pos h0]at h1 h2;exact DO t1 t2 j h1 h2
  ·rw[if_neg h0]at h1 h2
   refine DO t1 t2 j (Dv.comb (u:=gA (bK s j).1 (bK s j).2) (v:=kD) h1 (h2.Eo qV) fun t=>?_) h1
   rw[oz,Rat.one_mul]
   exact D8 (a:=(bK s j).1) (d:=(bK s j).2) (by omega) t
theorem qE {a:PP} (h:a.1=0) (t:Rat):bO a t=0:=by show ev a.1 a.2 t=0;rw[h];rfl
theorem Up {a b:PP} (t1:Trim a) (t2:Trim b):Dv (cm a b) a/\Dv (cm a b) b:=by
 have h0:(bK (a,b) b.1).2.1=0:=by have:=wD (s:=(a,b)) t1 t2 b.1;dsimp only at this;omega
 have ht:=l8 (s:=(a,b)) t1 t2 b.1
 refine DO (s:=(a,b)) t1 t2 b.1 (Dv.Eo ht.1 (Dv.refl _)) ⟨(0,fun _=>0),fun t=>?_⟩
 rw[qE h0,qE (a:=(0,fun _=>(0:Rat))) rfl,Rat.mul_zero]
theorem DG {a:PP} (h:0<a.1) (ht:Trim a):dR a (a.1-1)≠0:=by
 unfold dR
 rw[if_pos (by omega)]
 rcases ht with h'|h'
 ·omega
 ·exact h'
theorem ML {a b:PP} (ha:0<a.1) (hb:0<b.1) (ta:Trim a) (tb:Trim b):dR (ff a b) (a.1-1+(b.1-1))≠0:=by
 have e:dR (ff a b) (a.1-1+(b.1-1))=je a.1 b.1 (dR a) (dR b) (a.1-1+(b.1-1)):=by
  show(if _<a.1+b.1+1 then _ else _)=_
  rw[if_pos (by omega)];rfl
 rw[e]
 unfold je
 have z:∀{c:PP} {i:Nat},c.1<=i->dR c i=0:=fun h=>by unfold dR;rw[if_neg (by omega)]
 rw[C7 (i:=a.1-1) (by omega) fun i hi hne=>lW fun j hj=>by
  by_cases h:i+j=a.1-1+(b.1-1)
  ·rw[if_pos h]
   by_cases h2:a.1<=i
   ·rw[z h2,Rat.zero_mul]
   ·rw[z (c:=b) (i:=j) (by omega),Rat.mul_zero]
  ·rw[if_neg h],C7 (i:=b.1-1) (by omega) fun j hj hne=>if_neg (by omega),if_pos rfl]
 exact fun h0=>(Rat.mul_eq_zero.1 h0).elim (DG ha ta) (DG hb tb)
def gM (a:PP):PP:=(bu a.2 a.1,a.2)
theorem nD {a:PP} (t:Rat):bO (gM a) t=bO a t:=vH
theorem nY {a:PP}:Trim (gM a):=lQ
theorem Bm {a b c:PP} (h:∀t,bO c t=bO a t*bO b t) (hc:0<c.1) (tc:Trim c) (ta:Trim a) (tb:Trim b):0<a.1/\0<b.1/\c.1=a.1-1+(b.1-1)+1:=by
 have h0:¬∀t,bO c t=bO (0,fun _=>0) t:=fun h1=>by
  have:=zS tc fun i=>wV h1 i
  dsimp only at this;omega
 have ha:0<a.1:=by
  rcases Nat.eq_zero_or_pos a.1 with h1|h1
  ·exact absurd (fun t=>by rw[h,qE h1,qE (a:=(0,fun _=>(0:Rat))) rfl,Rat.zero_mul]) h0
  ·exact h1
 have hb:0<b.1:=by
  rcases Nat.eq_zero_or_pos b.1 with h1|h1
  ·exact absurd (fun t=>by rw[h,qE h1,qE (a:=(0,fun _=>(0:Rat))) rfl,Rat.mul_zero]) h0
  ·exact h1
 have hcf:∀i,dR c i=dR (ff a b) i:=wV fun t=>by rw[h,jf]
 refine⟨ha,hb,?_⟩
 have h1:a.1-1+(b.1-1)<c.1:=by
  rcases Nat.lt_or_ge (a.1-1+(b.1-1)) c.1 with h2|h2
  ·exact h2
  ·exact absurd (by rw[<-hcf];unfold dR;rw[if_neg (by omega)]) (ML ha hb ta tb)
 have h2:¬a.1-1+(b.1-1)+1<c.1:=fun h3=>by
  have:=DG hc tc
  rw[hcf]at this
  refine this ?_
  show(if _<a.1+b.1+1 then je a.1 b.1 (dR a) (dR b) (c.1-1)else 0)=0
  split
  ·unfold je
   refine lW fun i hi=>lW fun j hj=>?_
   have z:∀{c:PP} {i:Nat},c.1<=i->dR c i=0:=fun h=>by unfold dR;rw[if_neg (by omega)]
   by_cases h4:i+j=c.1-1
   ·rw[if_pos h4]
    by_cases h5:a.1<=i
    ·rw[z h5,Rat.zero_mul]
    ·rw[z (c:=b) (i:=j) (by omega),Rat.mul_zero]
   ·rw[if_neg h4]
  ·rfl
 omega
theorem Dv.len {h g:PP} (hd:Dv h g) (hg:0<g.1) (tg:Trim g) (th:Trim h):h.1<=g.1:=by
 obtain⟨w,hw⟩:=hd
 have:=Bm (b:=gM w) (fun t=>by rw[hw,nD]) hg tg th nY
 omega
structure jK (c h f:PP):Prop where
 eq:∀t,bO c t=bO h t*bO f t
 dv:Dv h (bQ c)
theorem jK.one:jK kD kD kD:=⟨fun t=>by rw[oz,Rat.mul_one],⟨bQ kD,fun t=>by rw[oz,Rat.one_mul]⟩⟩
theorem jK.WL {c h f q c':PP} (s:jK c h f) (e:∀t,bO c' t=bO c t*bO q t):jK c' h (ff f q):=
 ⟨fun t=>by rw[e,s.eq,jf,Rat.mul_assoc],Dv.comb (u:=q) (v:=bQ q) s.dv ⟨f,s.eq⟩ fun t=>by rw[ot,D6 e,ot,ot];grind⟩
theorem jK.NF {c h f q c':PP} (s:jK c h f) (e:∀t,bO c' t=bO c t*bO q t*bO q t):jK c' (ff h q) (ff f q):=by
 refine⟨fun t=>by rw[e,s.eq,jf,jf];grind,?_⟩
 obtain⟨w,hw⟩:=s.dv
 refine⟨Dq (ff w q) (zg 2 (ff f (bQ q))),fun t=>?_⟩
 have e1:∀t,bO (ff c q) t=bO c t*bO q t:=fun t=>jf
 have e2:∀t,bO c' t=bO (ff c q) t*bO q t:=fun t=>by rw[e,e1]
 have hw':nk c t=bO h t*bO w t:=by rw[<-ot];exact hw t
 rw[ot,D6 e2,D6 e1,e1,hw',Fw,Ck,jf,jf,jf,ot,s.eq]
 grind
end Go.Am
namespace Go.Am.B
open Go Go.Am.N AV af aq IntKind Proofs.Tryz
def lZ (d:Nat):bp:=nG::(57,tG)::(59,Dw)::(qD,BR)::(kO,nO d)::(70,CG)::(72,xD)::(73,pX)::(74,ID)::gn
abbrev CD:Code:=aG f18
abbrev vI:Code:=part CD [1,1,1,1,1,1,1,1,1]
abbrev rF:Code:=part vI [1,1,1,1,1]
abbrev wQ:Code:=part rF [0,1,0,0]
abbrev ug:Code:=part wQ [1,0,0]
abbrev BT:List Nat:=[2,3,4,6,7,8,9,10]
abbrev Jc (a:PP):List AV:=[.nil,.int .i64 0,aK a,.ptr 0 0 1 0 [],.ptr 3 0 1 0 [],.ptr 1 0 1 0 [],.ptr 4 0 3 0 [],.ptr 5 0 3 0 []]
abbrev Ki (n:Nat) (c:Nat->PP) (l:List (Rat×Rat)):aD:=[(0,tA 2 l.length),(1,qp n c 0 1),(2,qq l),(3,⟨false,false,1,1,fun _=>Ad n c⟩),(4,tR 0 ag),(5,tR 1 ag)]
abbrev vJ:List Nat:=[4,11,50,51,52]
abbrev IY (l:List (Rat×Rat)) (g:Nat->Nat) (m:Nat):ax:=⟨true,true,7,m,fun j=>.agg [cT l j,.int .i64 (g j)]⟩
abbrev yW (a:PP) (m i:Nat):List AV:=[aK a,.own 1 7 0 i,.own 0 6 0 m,.int .i64 m,.int .i64 i]
abbrev xP (l:List (Rat×Rat)) (g:Nat->Nat) (i:Nat):aD:=[(0,qq l),(1,IY l g i)]
abbrev qN:List Nat:=[4,11]
abbrev yT (a:PP) (m:Nat):List AV:=[aK a,.own 0 7 0 m]
abbrev pU (l:List (Rat×Rat)) (g:Nat->Nat) (m:Nat):aD:=[(0,IY l g m)]
abbrev vC:List Nat:=[4,11,14,75,76,77]
abbrev AP (a:PP) (n:Nat) (c:Nat->PP) (m i:Nat):List AV:=[aK a,.own 0 7 0 m,fC n c,.own 0 7 0 m,.int .i64 m,.int .i64 i]
abbrev vN (v w:AV):ax:=⟨false,true,1,1,fun j=>if(j==0)=true then v else w⟩
abbrev vM (v w:AV):ax:=⟨false,true,3,1,fun j=>if(j==0)=true then v else w⟩
def eV (a:PP):Nat->PP
 |0=>cm a (bQ a)
 |j+1=>cm (eV a j) (bQ (eV a j))
def nu (a:PP):Nat->Nat->Nat
 |0,j=>j
 |f+1,j=>if 1<(eV a j).1 then nu a f (j+1)else j
def jJ (a:PP) (l:List (Rat×Rat)):Nat->Nat->Nat
 |0,_=>1
 |j+1,i=>if sP (cP (eV a j)) (cR (eV a j)) (cy l i).1 (cy l i).2=true then jJ a l j i+1 else jJ a l j i
def Lj (d n:Nat) (c:Nat->PP):List (Rat×Rat):=(if eA (c 0) 0=0 then [(0,0)]else [])++ek n c d 0 1++(if eA (c 0) 1=0 then [(1,1)]else [])
def iM (d:Nat) (p:PP):List (Rat×Rat):=if(aS p).1=0 then []else Lj d (cP (aS p)) (cR (aS p))
def nN (d:Nat) (p:PP) (i:Nat):Nat:=jJ (aS p) (iM d p) (nu (aS p) (aS p).1 0) i
abbrev vj (l:List (Rat×Rat)) (g:Nat->Nat) (j:Nat):AV:=.agg [cT l j,.int .i64 (g j)]
abbrev BN (d:Nat) (p:PP):AV:=.tuple [.ak 7 (iM d p).length (vj (iM d p) (nN d p)),.int .i64 (if(aS p).1=0 then 3 else 0)]
def Ar (x:PP):Prop:=cB (x.1-1) (cM x.2)/\m8 (x,bQ x)
def xu (d:Nat) (p:PP):Prop:=mK p/\((aS p).1≠0->oy (aS p)/\cP (aS p)<2^40/\dc (cP (aS p)) (cR (aS p)) 0/\dc (cP (aS p)) (cR (aS p)) 1/\mF (cP (aS p)) (cR (aS p)) d 0 1/\(iM d p).length<2^30/\Ar (aS p)/\
 ∀j,1<(eV (aS p) j).1->Ar (eV (aS p) j)/\oy (eV (aS p) j)/\cP (eV (aS p) j)<2^40/\∀i,i<(iM d p).length->dc (cP (eV (aS p) j)) (cR (eV (aS p) j)) (cy (iM d p) i).1/\dc (cP (eV (aS p) j)) (cR (eV (aS p) j)) (cy (iM d p) i).2)
theorem FQ:aZ 18 f18:=bf func18
theorem PV {d:Nat} {p:PP}:aF T (lZ d) [20] 60 BT (before CD [1,1,1,1,1,1,1,1,1]) ⟨aQ 0 [aK p],[],0⟩=
  some (aj [aR p,mK p] (fork (((aS p).1:Int)==0) (leaf ret ([.nil,.int .i64 3,aK (aS p),.tuple [],.tuple [],.tuple [],.tuple [],.tuple []],[]))
   (aj [aR (aS p),oy (aS p),(0:Nat)<1] (aj [(0:Nat)<1] (aj [(0:Nat)<1] (aj [-2^63<=(0:Int),(0:Int)<2^63,-2^63<=(1:Int),(1:Int)<2^63,(0:Nat)<1,(0:Nat)<1]
    (leaf normal ([.nil,.int .i64 0,aK (aS p),.ptr 49152 0 1 0 [],.ptr 57344 0 1 0 [],.ptr 65536 0 1 0 [],.ptr 86016 0 3 0 [],.ptr 90112 0 3 0 []],
     [(65536,vN (Ga (cP (aS p)) (cR (aS p)) 49152 65536) .void),(49152,⟨false,true,1,1,fun _=>.nil⟩),(90112,vM (.rat ((1:Int):Rat) (max 1 (bJ (Int.natAbs 1)))) (.rat 0 1)),(86016,vM (.rat ((0:Int):Rat) (max 1 (bJ (Int.natAbs 0)))) (.rat 0 1)),(57344,⟨false,false,1,1,fun j=>if(j==0)=true then Ad (cP (aS p)) (cR (aS p))else .void⟩)])))))))):=ah
theorem VB {d n:Nat} {c:Nat->PP} {a:PP} {l:List (Rat×Rat)}:aF T (lZ d) [29,41] 60 vJ (before vI [1,1,1,1,0,1]) ⟨aC BT (Jc a),Ki n c l,6⟩=
  let c36:AV:=rat 0 1;let c35:Prop:=n<2^40;let c30:Prop:=0<n;let c29:Nat:=l.length;let c28:Nat:=2^47;let c27:Nat:=112+1;let c26:PP:=cO (aK (c 0));let c25:AV:=rat 1 ag;let c24:AV:=own 73734 7 0 0;let c23:Prop:=ag<=ag;let c22:Prop:=mF n (fun i=>cO (aK (c i))) d 0 1;let c21:Int:=(↑(120:Nat):Int);let c20:Prop:=(0:Int)<=0;let c17:List AV:=[int i64 0];let c16:Prop:=az [∀(i:Nat),i<n->bA (aK (c i)) (aK (cO (aK (c i))))];let c14:Prop:=1*6<=2^24;let c10:Int:=(2:Int)^47;let c8:List (Rat×Rat):=ek n (fun i=>cO (aK (c i))) d 0 1;let c6:AV:=ak 3 a.fst fun i=>rat (a.snd i) ag;let c5:Prop:=bA (fC n c) (fC n fun i=>cO (aK (c i)));let c3:Prop:=0<1;let c15:Nat:=c29+1;let c11:Rat:=eA c26 1;let c9:List Prop:=[c3,c3,c23,∀(i:Nat),i<n->bA (aK (c i)) (aK (cO (aK (c i)))),c30,dc n (fun i=>cO (aK (c i))) 1];let c7:AV:=agg [c36,c36];let c2:List (Rat×Rat):=iA (cT l) c29++c8;let c19:Nat:=c2.length;let c4:ax:=ax.mk true true 7 0 fun x=>agg (c7::c17);let c1:List (Rat×Rat):=iA (fun i=>if i<c29 then cT l i else nth [agg [rat 0 ag,rat 0 ag]] c7 (i-c29+0)) c15++c8;let c33:Int:=(↑c19:Int);let c18:Nat:=c1.length;let c13:Nat:=c19+1;let c34:Int:=(↑c13:Int);let c31:Int:=(↑c18:Int);let c12:Nat:=c18+1;let c32:Int:=(↑c12:Int);some (aj [c3,c3,c23,∀(i:Nat),i<n->bA (aK (c i)) (aK (cO (aK (c i)))),c30,dc n (fun i=>cO (aK (c i))) 0] (fork (decide (eA c26 0=0)) (aj [c3,c3,c23,c14,c15*c27*2<=c28,c3] (aj [c3,c3,c3,az [c23],az [c23],c16,c5,c5,c5,c15=c15,∀(i:Nat),i<c15->(if i<c29 then cT l i else nth [agg [rat 0 ag,rat 0 ag]] c7 (i-c29+0)).keys=[]/\bA (if i<c29 then cT l i else nth [agg [rat 0 ag,rat 0 ag]] c7 (i-c29+0)) (fX (jW (if i<c29 then cT l i else nth [agg [rat 0 ag,rat 0 ag]] c7 (i-c29+0))).fst (jW (if i<c29 then cT l i else nth [agg [rat 0 ag,rat 0 ag]] c7 (i-c29+0))).snd ag),c30,c35,c22,c15+c8.length<2^30] (aj c9 (fork (decide (c11=0)) (aj [c3,c3,c23,c14,c12*c27*2<=c28,c3] (aj [c3,c20/\(0:Int)<=c32/\c32<=c10/\c32*c21<=c10] (aj [c3] (leaf normal (c6::own 98310 7 0 0::own 81926 6 0 c12::int i64 c32::c17,[(81926,ax.mk true true 6 c12 fun i=>if i<c18 then cT c1 i else nth [agg [c25,c25]] c7 (i-c18+0)),((98310:Nat),c4)]))))) (aj [c3,c20/\(0:Int)<=c31/\c31<=c10/\c31*c21<=c10] (aj [c3] (leaf normal (c6::c24::own 49158 6 0 c18::int i64 c31::c17,[(49158,ax.mk true true 6 c18 fun i=>agg [rat (cy c1 i).fst ag,rat (cy c1 i).snd ag]),((73734:Nat),c4)])))))))) (aj [c3,c3,c3,az [c23],az [c23],c16,c5,c5,c5,c29=c29,∀(i:Nat),i<c29->(cT l i).keys=[]/\bA (cT l i) (fX (aT (rat (cy l i).fst ag)) (aT (rat (cy l i).snd ag)) ag),c30,c35,c22,c29+c8.length<2^30] (aj c9 (fork (decide (c11=0)) (aj [c3,c3,c23,c14,c13*c27*2<=c28,c3] (aj [c3,c20/\(0:Int)<=c34/\c34<=c10/\c34*c21<=c10] (aj [c3] (leaf normal (c6::c24::own 57350 6 0 c13::int i64 c34::c17,[(57350,ax.mk true true 6 c13 fun i=>if i<c19 then cT c2 i else nth [agg [c25,c25]] c7 (i-c19+0)),((73734:Nat),c4)]))))) (aj [c3,c20/\(0:Int)<=c33/\c33<=c10/\c33*c21<=c10] (aj [c3] (leaf normal (c6::own 49158 7 0 0::own 24582 6 0 c19::int i64 c33::c17,[(24582,ax.mk true true 6 c19 fun i=>agg [rat (cy c2 i).fst ag,rat (cy c2 i).snd ag]),((49158:Nat),c4)]))))))))):=ah
theorem M4 {d m i:Nat} {a:PP} {l:List (Rat×Rat)} {g:Nat->Nat}:aF T (lZ d) [53] 60 vJ [part vI [1,1,1,1,0,1,0,0]] ⟨aC vJ (yW a m i),xP l g i,2⟩=
  let c8:AV:=rat 0 1;let c7:Int:=(↑m:Int);let c5:AV:=own 0 6 0 m;let c3:AV:=ak 3 a.fst fun i=>rat (a.snd i) ag;let c2:Int:=(↑i:Int);let c1:Nat×ax:=(0,ax.mk true true 6 l.length fun i=>agg [rat (cy l i).fst ag,rat (cy l i).snd ag]);let c6:Int:=c2+1;let c4:Nat:=c2.toNat+0;some (fork (decide (c2<c7)) (aj [(0:Int)<=c2/\c2.toNat<m,c4<l.length,(0:Nat)<1] (aj [(0:Nat)<1,(1:Nat)*7<=2^24,(i+1)*((120:Nat)+1)*2<=2^47] (aj [-(2:Int)^63<=c6/\c6<2^63] (leaf normal ([c3,own 36866 7 0 (i+1),c5,int i64 c7,int i64 c6],[c1,(36866,ax.mk true true 7 (i+1) fun i_1=>if i_1<i then agg [cT l i_1,int i64 (↑(g i_1):Int)]else nth [agg [agg [rat (cy l c4).fst ag,rat (cy l c4).snd ag],int i64 1]] (agg [agg [c8,c8],int i64 0]) (i_1-i+0))]))))) (leaf (exit 0) ([c3,own 1 7 0 i,c5,int i64 c7,int i64 c2],[c1,(1,ax.mk true true 7 i fun j=>agg [agg [rat (cy l j).fst ag,rat (cy l j).snd ag],int i64 (↑(g j):Int)])]))):=ah
theorem VS {d m i:Nat} {a:PP} {l:List (Rat×Rat)} {g:Nat->Nat}:aF T (lZ d) [] 60 qN (before rF [0,1]) ⟨aC vJ (yW a m i),xP l g i,2⟩=
  let c6:Nat×(Nat->Rat):=(a.fst,fun i=>aT (rat (a.snd i) ag));let c4:Prop:=cV (fun i=>rat (a.snd i) ag) a.fst ag;let c1:Nat:=bu (cM fun i=>aT (rat (a.snd i) ag)) (a.fst-1);let c3:Nat×(Nat->Rat):=(c1,fun i=>aT (rat (cM (fun i=>aT (rat (a.snd i) ag)) i) ag));let c2:PP×PP:=(c6,c3);let c5:PP:=(bK c2 c1).fst;some (aj [c4,a.fst<2^40,cB (a.fst-1) (cM fun i=>aT (rat (a.snd i) ag)),c4,cV (fun i=>rat (cM (fun i=>aT (rat (a.snd i) ag)) i) ag) c1 ag,a.fst<2^30,c1<2^30,Trim c6,Trim c3,m8 c2] (leaf normal ([ak 3 c5.fst fun i=>rat (cE c5.fst c5.snd i) ag,own 1 7 0 i],[(1,ax.mk true true 7 i fun j=>agg [agg [rat (cy l j).fst ag,rat (cy l j).snd ag],int i64 (↑(g j):Int)])]))):=ah
theorem NT {d m:Nat} {a:PP} {l:List (Rat×Rat)} {g:Nat->Nat}:aF T (lZ d) [68] 60 qN (before wQ [1,0]) ⟨aC qN (yT a m),pU l g m,1⟩=
  let c1:List AV×aD:=([ak 3 a.fst fun i=>rat (a.snd i) ag,own 0 7 0 m],[(0,ax.mk true true 7 m fun j=>agg [agg [rat (cy l j).fst ag,rat (cy l j).snd ag],int i64 (↑(g j):Int)])]);some (fork (decide ((↑a.fst:Int)>1)) (leaf normal c1) (leaf (exit 2) c1)):=ah
theorem abU {d m:Nat} {a:PP} {l:List (Rat×Rat)} {g:Nat->Nat}:aF T (lZ d) [] 60 vC (before ug [1,1]) ⟨aC qN (yT a m),pU l g m,1⟩=
  let c2:AV:=own 0 7 0 m;let c1:Nat×(Nat->Rat):=(a.fst,fun i=>aT (rat (a.snd i) ag));some (aj [cV (fun i=>rat (a.snd i) ag) a.fst ag,oy c1] (leaf normal ([ak 3 a.fst fun i=>rat (a.snd i) ag,c2,ak 1 (cP c1) fun i=>ak 3 (cR c1 i).fst fun i_1=>rat ((cR c1 i).snd i_1) ag,c2,int i64 (↑m:Int),int i64 0],[(0,ax.mk true true 7 m fun j=>agg [agg [rat (cy l j).fst ag,rat (cy l j).snd ag],int i64 (↑(g j):Int)])]))):=ah
theorem MP {d m n i:Nat} {a:PP} {c:Nat->PP} {l:List (Rat×Rat)} {g:Nat->Nat}:aF T (lZ d) [78,86] 60 vC [part ug [1,1,0,0]] ⟨aC vC (AP a n c m i),pU l g m,1⟩=
  let c14:Int:=(↑m:Int);let c8:AV:=ak 3 a.fst fun i=>rat (a.snd i) ag;let c7:AV:=ak 1 n fun i=>ak 3 (c i).fst fun i_1=>rat ((c i).snd i_1) ag;let c6:Int:=(2:Int)^63;let c5:AV:=own 0 7 0 m;let c4:Int:=(↑i:Int);let c3:Nat×ax:=(0,ax.mk true true 7 m fun j=>agg [agg [rat (cy l j).fst ag,rat (cy l j).snd ag],int i64 (↑(g j):Int)]);let c13:Int:=c4+1;let c11:Prop:=(0:Int)<=c4/\c4.toNat<m;let c1:Nat:=c4.toNat+0;let c12:Int:=(↑(g c1):Int)+1;let c10:AV:=rat (cy l c1).fst ag;let c9:AV:=rat (cy l c1).snd ag;let c2:List AV:=[c8,c5,c7,c5,int i64 c14,int i64 c13];some (fork (decide (c4<c14)) (aj [c11,c1<m,∀(i:Nat),i<n->bA (aK (c i)) (aK (cO (aK (c i)))),bA c10 (rat (aT c10) ag),bA c9 (rat (aT c9) ag),(0:Nat)<n,n<2^40,dc n (fun i=>cO (aK (c i))) (aT c10),dc n (fun i=>cO (aK (c i))) (aT c9)] (fork (sP n (fun i=>cO (aK (c i))) (aT c10) (aT c9)) (aj [c11,c1<m,-c6<=c12/\c12<c6,c11,c1<m] (aj [-c6<=c13/\c13<c6] (leaf normal (c2,[(0,ax.mk true true 7 m fun j=>agg [agg [rat (bif j==c1 then(cy l c1).fst else(cy l j).fst) (bif j==c1 then ag else ag),rat (bif j==c1 then(cy l c1).snd else(cy l j).snd) (bif j==c1 then ag else ag)],lX (j==c1) (int i64 c12) (int i64 (↑(g j):Int))])])))) (aj [-c6<=c13/\c13<c6] (leaf normal (c2,[c3]))))) (leaf (exit 4) ([c8,c5,c7,c5,int i64 c14,int i64 c4],[c3]))):=ah
theorem acm {d m n i:Nat} {a:PP} {c:Nat->PP} {l:List (Rat×Rat)} {g:Nat->Nat}:aF T (lZ d) [] 60 qN (behind ug [1,1]++[part wQ [1,1]]) ⟨aC vC (AP a n c m i),pU l g m,1⟩=
  let c6:Nat×(Nat->Rat):=(a.fst,fun i=>aT (rat (a.snd i) ag));let c4:Prop:=cV (fun i=>rat (a.snd i) ag) a.fst ag;let c1:Nat:=bu (cM fun i=>aT (rat (a.snd i) ag)) (a.fst-1);let c3:Nat×(Nat->Rat):=(c1,fun i=>aT (rat (cM (fun i=>aT (rat (a.snd i) ag)) i) ag));let c2:PP×PP:=(c6,c3);let c5:PP:=(bK c2 c1).fst;some (aj [c4,a.fst<2^40,cB (a.fst-1) (cM fun i=>aT (rat (a.snd i) ag)),c4,cV (fun i=>rat (cM (fun i=>aT (rat (a.snd i) ag)) i) ag) c1 ag,a.fst<2^30,c1<2^30,Trim c6,Trim c3,m8 c2] (leaf normal ([ak 3 c5.fst fun i=>rat (cE c5.fst c5.snd i) ag,own 0 7 0 m],[(0,ax.mk true true 7 m fun j=>agg [agg [rat (cy l j).fst ag,rat (cy l j).snd ag],int i64 (↑(g j):Int)])]))):=ah
theorem TS {d m:Nat} {a:PP} {l:List (Rat×Rat)} {g:Nat->Nat}:cG T (lZ d) [] 60 f18 [part rF [1]] ⟨aC qN (yT a m),pU l g m,1⟩=
  some (leaf ret [ak 7 m fun i=>agg [agg [rat (cy l (i+0)).fst ag,rat (cy l (i+0)).snd ag],int i64 (↑(g (i+0)):Int)],int i64 0]):=ah
theorem z7 {d:Nat}:bI P (lZ d):=jr (aI GL (aI HO (aI LM (aI (IC d) (aI Kp (aI CE (aI AB (aI XE gD))))))))
theorem NM {a:PP} (ta:Trim a) (h:1<a.1):(cm a (bQ a)).1<a.1:=by
 have h1:(bQ a).1=a.1-1:=nC (.inr (by
  unfold cM
  rw[show a.1-1-1+1=a.1-1 by omega]
  intro h0
  rcases Rat.mul_eq_zero.1 h0 with h0|h0
  ·have h0:((a.1-1:Nat):Int)=0:=Rat.intCast_inj.1 h0
   omega
  ·rcases ta with h2|h2
   ·omega
   ·exact h2 h0))
 have h2:=(Up ta (fH (a:=a))).2.len aa fH (nj ta fH)
 omega
theorem rm {a:PP} (ta:Trim a):∀j,Trim (eV a j)
 |0=>nj ta fH
 |j+1=>nj (rm ta j) fH
theorem xG {a:PP} (ta:Trim a):(cm a (bQ a)).1<=a.1:=tu (s:=(a,bQ a)) aP (Nat.le_trans fk (Nat.sub_le _ _)) ta fH _
theorem AM {a:PP} (ta:Trim a):∀j,(eV a j).1<=a.1
 |0=>xG ta
 |j+1=>Nat.le_trans (xG (rm ta j)) (AM ta j)
theorem E7 {a:PP} (ta:Trim a):∀f j,(eV a j).1<=f->(eV a (nu a f j)).1<=1/\(∀i,j<=i->i<nu a f j->1<(eV a i).1)/\j<=nu a f j
 |0,j,h=>⟨by show(eV a j).1<=1;omega,fun i h1 h2=>by have:i<j:=h2;omega,aP⟩
 |f+1,j,h=>by
  unfold nu
  split
  ·rename_i h1
   have:=NM (rm ta j) h1
   obtain⟨g1,g2,g3⟩:=E7 ta f (j+1) (by show(cm _ _).1<=f;omega)
   refine⟨g1,fun i h2 h3=>?_,aa⟩
   rcases Nat.eq_or_lt_of_le h2 with h4|h4
   ·rw[<-h4];exact h1
   ·exact g2 i h4 h3
  ·exact⟨aa,fun i h1 h2=>aa,aP⟩
theorem Gz {a:PP}:∀f j,nu a f j<=j+f
 |0,j=>aP
 |f+1,j=>by
  unfold nu
  split
  ·have:=Gz (a:=a) f (j+1);omega
  ·omega
theorem HY {a:PP} {l:List (Rat×Rat)} {i:Nat}:∀j,jJ a l j i<=j+1
 |0=>aP
 |j+1=>by
  have:=HY (a:=a) (l:=l) (i:=i) j
  unfold jJ;split<;>omega
theorem Wh {k es:Nat} (h:0<es):bA .nil (.own k es 0 0):=by
 refine⟨rfl,fun M w cs hc=>?_⟩
 cases hc with
 |vnil h1=>cases h1;exact .own0 h .nil
def gI (a:PP) (l:List (Rat×Rat)) (k i x:Nat):Nat:=if x<i then jJ a l (k+1) x else jJ a l k x
abbrev s5 (a:PP) (l:List (Rat×Rat)) (k i:Nat):Bool:=sP (cP (eV a k)) (cR (eV a k)) (cy l i).1 (cy l i).2
theorem FL {a:PP} {l:List (Rat×Rat)} {k i:Nat}:jJ a l (k+1) i=if s5 a l k i=true then jJ a l k i+1 else jJ a l k i:=rfl
theorem CF {a:PP} {l:List (Rat×Rat)} {k i:Nat}:gI a l k i i=jJ a l k i:=if_neg aa
theorem LC {a:PP} {l:List (Rat×Rat)} {k i x:Nat} (h:x≠i):gI a l k (i+1) x=gI a l k i x:=by
 unfold gI
 by_cases h1:x<i
 ·rw[if_pos h1,if_pos aa]
 ·rw[if_neg h1,if_neg aa]
theorem TK {a:PP} {l:List (Rat×Rat)} {k i:Nat} (h:s5 a l k i=true):gI a l k (i+1) i=gI a l k i i+1:=by
 rw[CF];unfold gI
 rw[if_pos aa,FL,if_pos h]
theorem P6 {a:PP} {l:List (Rat×Rat)} {k i:Nat} (h:s5 a l k i=false):gI a l k (i+1)=gI a l k i:=by
 funext x
 by_cases hx:x=i
 ·subst hx
  rw[CF];unfold gI
  rw[if_pos aa,FL,if_neg (by rw[h];decide)]
 ·exact LC hx
theorem Fu {a:PP} {l:List (Rat×Rat)} {k i c j:Nat} (hc:c=i) (h:s5 a l k i=true):
  AV.agg [.agg [.rat (bif j==c then(cy l c).1 else(cy l j).1) (bif j==c then ag else ag),.rat (bif j==c then(cy l c).2 else(cy l j).2) (bif j==c then ag else ag)],lX (j==c) (.int .i64 ((gI a l k i c:Nat)+1)) (.int .i64 (gI a l k i j:Nat))]=vj l (gI a l k (i+1)) j:=by
 subst hc
 by_cases hj:j=c
 ·subst hj
  rw[beq_self_eq_true]
  show AV.agg [cT l j,.int .i64 ((gI a l k j j:Nat)+1)]=AV.agg [cT l j,.int .i64 (gI a l k (j+1) j:Nat)]
  rw[TK h];rfl
 ·rw[show(j==c)=false by simp[hj]]
  show AV.agg [cT l j,.int .i64 (gI a l k c j:Nat)]=AV.agg [cT l j,.int .i64 (gI a l k (c+1) j:Nat)]
  rw[LC hj]
theorem ab4 {l:List (Rat×Rat)} {p:Rat×Rat} {z:AV} {i:Nat} (hi:i<l.length+1):keys (if i<l.length then cT l i else nth [fX p.1 p.2 ag] z (i-l.length+0))=[]/\
  bA (if i<l.length then cT l i else nth [fX p.1 p.2 ag] z (i-l.length+0)) (fX (jW (if i<l.length then cT l i else nth [fX p.1 p.2 ag] z (i-l.length+0))).1 (jW (if i<l.length then cT l i else nth [fX p.1 p.2 ag] z (i-l.length+0))).2 ag):=by
 rw[sD hi];exact⟨rfl,.refl _⟩
theorem xH {a:PP} {l:List (Rat×Rat)} {g:Nat->Nat} {k0 k1 M:Nat} {row:ax} {z:Nat->AV} (hM:l.length=M) (hrow:row=⟨true,true,6,M,row.f⟩) (hf:∀i,i<l.length->row.f i=cT l i) (hne:k0≠k1):
  dr [] ([aK a,.own k1 7 0 0,.own k0 6 0 M,.int .i64 M,.int .i64 0],[(k0,row),(k1,⟨true,true,7,0,z⟩)]) (yW a l.length 0) (xP l g 0) 2:=by
 subst hM
 have e1:look k1 [(k0,row),(k1,(⟨true,true,7,0,z⟩:ax))]=some ⟨true,true,7,0,z⟩:=by simp[look,hne]
 have e0:look k0 [(k0,row),(k1,(⟨true,true,7,0,z⟩:ax))]=some ⟨true,true,6,l.length,row.f⟩:=by rw[<-hrow];simp[look]
 exact⟨[(0,k0),(1,k1)],by simp[gU,hne,Ne.symm hne],rfl,rfl,bg rfl e0 rfl (fun i hi=>bH (by rw[hf i hi];rfl) (hf i hi)) (bg rfl e1 rfl (fun i hi=>absurd hi (Nat.not_lt_zero _)) trivial)⟩
theorem ac6 {d:Nat} {p:PP} (hz:xu d p) (K:Nat):aO P 18 K [aK p] [] (aJ (BN d p) []):=by
 have hW:=dw
 obtain⟨z1,z2⟩:=hz
 refine gB (r:=aJ (BN d p) []) hT FQ rfl aX rfl (fun _ cx h0=>?_) K []
 have hk:=j9 h0
 refine au.Az hT z7 hm (x:=CD) [1,1,1,1,1,1,1,1,1] ah ah FQ.dst hk (f1:=[20]) 60 BT 6 (fun _:Unit=>Jc (aS p)) (fun _=>Ki (cP (aS p)) (cR (aS p)) []) (fun _=>(aS p).1≠0) ⟨_,PV (d:=d),?_⟩ (fun _ hne=>?_)
 ·simp only[af.all,az,beq_iff_eq,beq_eq_false_iff_ne,ne_eq]
  refine⟨⟨dg aP,z1⟩,fun h s' hv=>?_,fun h=>?_⟩
  ·have h:(aS p).1=0:=aa
   have e1:iM d p=[]:=if_pos h
   refine qH.fin ⟨[.nil,.int .i64 3],rfl,?_⟩ hv
   show fV [.nil,.int .i64 3] [.ak 7 (iM d p).length (vj (iM d p) (nN d p)),.int .i64 (if(aS p).1=0 then 3 else 0)]
   rw[e1,if_pos h]
   exact⟨kS aa,.refl _,trivial⟩
  ·have h:(aS p).1≠0:=aa
   obtain⟨y1,y2,y3,y4,y5,y6,y7,y8⟩:=z2 h
   refine⟨⟨dg aP,y1,aa⟩,aa,aa,⟨aa,aa,aa,aa,aa,aa⟩,(),h,[(0,49152),(1,65536),(3,57344),(4,86016),(5,90112)],rfl,rfl,rfl,?_⟩
   refine jt rfl rfl (.inr ⟨rfl,Wh aa⟩) (jt rfl rfl (.inl (.inr (C1 ⟨⟨rfl,gT rfl (.refl _)⟩,⟨rfl,gq rfl⟩,⟨rfl,gq rfl⟩,⟨rfl,gT rfl (.refl _)⟩,trivial⟩ rfl))) (kP rfl aa aa (cZ (jt rfl rfl (.inr ⟨rfl,dj rfl (by rw[hW];decide)⟩) (jt rfl rfl (.inr ⟨rfl,dj rfl (by rw[hW];decide)⟩) trivial)))))
 ·obtain⟨y1,y2,y3,y4,y5,y6,y7,y8⟩:=z2 hne
  have hsm:0<cP (aS p):=Nat.succ_pos _
  have hl:iM d p=Lj d (cP (aS p)) (cR (aS p)):=if_neg hne
  obtain⟨l,hll⟩:∃l,l=iM d p:=⟨_,rfl⟩
  rw[<-hll]at y6 y8
  have hl2:l=(if eA (cR (aS p) 0) 0=0 then [(0,0)]else [])++ek (cP (aS p)) (cR (aS p)) d 0 1++(if eA (cR (aS p) 0) 1=0 then [(1,1)]else []):=by rw[hll,hl];rfl
  refine au.nP hT z7 hm (x:=vI) [1,1,1,1,0,1] (i:=0) (y:=part vI [1,1,1,1,0,1,0,0]) (z:=rF) ah ah ah ah hk (f1:=[29,41]) (f2:=[53]) 60 vJ 2 (fun i:Nat=>yW (aS p) l.length i) (fun i=>xP l (fun _=>1) i) (fun i=>i<=l.length) (fun i=>i=l.length) (fun i=>l.length-i) (fun _=>False)
   ⟨_,VB (d:=d),?_⟩ (fun i hi=>⟨_,M4 (d:=d),?_⟩) (fun i hi=>?_) fun _ _ h=>h.elim
  ·have hC:(fun i=>cO (aK (cR (aS p) i)))=cR (aS p):=rfl
   have hC0:cO (aK (cR (aS p) 0))=cR (aS p) 0:=rfl
   have h00:([]:List (Rat×Rat)).length=0:=rfl
   have e0:iA (fun i=>if i<([]:List (Rat×Rat)).length then cT [] i else nth [.agg [.rat 0 ag,.rat 0 ag]] (.agg [.rat 0 1,.rat 0 1]) (i-([]:List (Rat×Rat)).length+0)) (([]:List (Rat×Rat)).length+1)=[(0,0)]:=Fb (l:=[]) (p:=(0,0))
   simp only[af.all,az,hC,hC0,KV,e0,bz,bB]
   have hm:(ek (cP (aS p)) (cR (aS p)) d 0 1).length<=l.length:=by rw[hl2];simp only[List.length_append];omega
   refine⟨⟨aa,aa,aP,fun i _=>.refl _,hsm,y3⟩,fun r0=>⟨⟨aa,aa,aP,aa,aa,aa⟩,⟨aa,aa,aa,aP,aP,fun i _=>.refl _,.refl _,.refl _,.refl _,trivial,?_,hsm,y2,y5,?_⟩,⟨aa,aa,aP,fun i _=>.refl _,hsm,y4⟩,?_⟩,fun r0=>⟨⟨aa,aa,aa,aP,aP,fun i _=>.refl _,.refl _,.refl _,.refl _,trivial,fun i hi=>absurd hi (Nat.not_lt_zero _),hsm,y2,y5,?_⟩,⟨aa,aa,aP,fun i _=>.refl _,hsm,y4⟩,?_⟩⟩
   ·exact fun i hi=>ab4 (l:=[]) (p:=(0,0)) hi
   ·show 0+1+(ek (cP (aS p)) (cR (aS p)) d 0 1).length<2^30
    rw[hl2,if_pos r0]at y6;simp only[List.length_append,List.length_cons,List.length_nil]at y6;omega
   ·refine⟨fun r1=>?_,fun r1=>?_⟩
    ·rw[if_pos r0,if_pos r1]at hl2
     have hle:l.length=([(0,0)]++ek (cP (aS p)) (cR (aS p)) d 0 1).length+1:=by rw[hl2,List.length_append];rfl
     refine⟨⟨aa,aa,aP,aa,aa,aa⟩,⟨aa,aa,aa,aa,aa⟩,aa,0,Nat.zero_le _,xH hle rfl (fun i hi=>?_) (by decide)⟩
     rw[hle]at hi;rw[hl2];exact sD (p:=(1,1)) hi
    ·rw[if_pos r0,if_neg r1,List.append_nil]at hl2
     have hl3:([(0,0)]++ek (cP (aS p)) (cR (aS p)) d 0 1).length=l.length:=by rw[<-hl2]
     refine⟨⟨aa,aa,aa,aa,aa⟩,aa,0,Nat.zero_le _,xH hl3.symm rfl (fun i hi=>by rw[hl2]) (by decide)⟩
   ·show 0+(ek (cP (aS p)) (cR (aS p)) d 0 1).length<2^30
    omega
   ·refine⟨fun r1=>?_,fun r1=>?_⟩
    ·rw[if_neg r0,if_pos r1]at hl2
     have hle:l.length=([]++ek (cP (aS p)) (cR (aS p)) d 0 1).length+1:=by rw[hl2,List.length_append];rfl
     refine⟨⟨aa,aa,aP,aa,aa,aa⟩,⟨aa,aa,aa,aa,aa⟩,aa,0,Nat.zero_le _,xH hle rfl (fun i hi=>?_) (by decide)⟩
     rw[hle]at hi;rw[hl2];exact sD (p:=(1,1)) hi
    ·rw[if_neg r0,if_neg r1,List.append_nil]at hl2
     have hl3:([]++ek (cP (aS p)) (cR (aS p)) d 0 1).length=l.length:=by rw[<-hl2]
     refine⟨⟨aa,aa,aa,aa,aa⟩,aa,0,Nat.zero_le _,xH hl3.symm rfl (fun i hi=>by rw[hl2]) (by decide)⟩
  ·have hiA:((i:Int)).toNat+0=i:=aa
   simp only[af.all,az,bz,bB]
   refine⟨fun h=>⟨⟨aa,aa,aa⟩,⟨aa,aa,aa⟩,aa,i+1,aa,by dsimp only;omega,[(0,0),(1,36866)],rfl,by rw[show(i:Int)+1=((i+1:Nat):Int) by omega];rfl,rfl,k8 (bg rfl rfl rfl (fun x hx=>?_) trivial)⟩,
    fun h=>⟨rfl,i,aa,[(0,0),(1,1)],rfl,rfl,rfl,k8 (bg rfl rfl rfl (fun x hx=>bH rfl rfl) trivial)⟩⟩
   rw[hiA]
   by_cases hx2:x<i
   ·rw[if_pos hx2];exact bH rfl rfl
   ·rw[if_neg hx2,Kt aa,show x=i by omega];exact bH rfl rfl
  ·subst hi
   have ta:Trim (aS p):=lQ
   obtain⟨J,hJ⟩:∃J,J=nu (aS p) (aS p).1 0:=⟨_,rfl⟩
   have hl0:(eV (aS p) 0).1<=(aS p).1:=AM ta 0
   obtain⟨j1,j2,_⟩:=E7 ta (aS p).1 0 hl0
   rw[<-hJ]at j1 j2
   have hp41:(aS p).1<=41:=Nat.le_trans fk z1.2.1
   have hd:∀{x:PP},x.1<=41->(bQ x).1<2^30:=fun h=>Nat.lt_of_le_of_lt fk aa
   refine au.ov hT z7 hm (x:=rF) [0,1] (i:=2) (y:=wQ) (z:=part rF [1]) ah ah ah ah [1,0] (j:=3) (x1:=ug) (zb:=part wQ [1,1]) ah ah ah [1,1] (i2:=4) (y2:=part ug [1,1,0,0]) ah ah rfl hk
    (f1:=[]) (f2:=[68]) (f3:=[]) (f4:=[78,86]) (f5:=[]) 60 qN vC 1 1 (fun k:Nat=>yT (eV (aS p) k) l.length) (fun k=>pU l (jJ (aS p) l k) l.length) (fun k=>k<=J) (fun k=>k=J) (fun k=>J-k) (fun k=>k<J) (fun _=>False) (fun _=>False)
    (fun k (i:Nat)=>AP (eV (aS p) k) (cP (eV (aS p) k)) (cR (eV (aS p) k)) l.length i) (fun k i=>pU l (gI (aS p) l k i) l.length) (fun _ i=>i<=l.length) (fun _ i=>i=l.length) (fun _ i=>l.length-i)
    ⟨_,VS (d:=d),?_⟩ (fun k hk=>⟨_,NT (d:=d),?_⟩) (fun k hk hG=>⟨_,abU (d:=d),?_⟩) (fun k hk hG i hi=>⟨_,MP (d:=d),?_⟩) (fun k hk hG i hi=>⟨_,acm (d:=d),?_⟩) (fun k hk=>?_) (fun _ _ h=>h.elim) (fun _ _ h=>h.elim)
   ·simp only[af.all,az]
    refine⟨⟨dg aP,by show(aS p).1<_;omega,y7.1,dg aP,dg aP,by show(aS p).1<_;omega,hd hp41,ta,fH,y7.2⟩,0,Nat.zero_le _,[(0,1)],rfl,rfl,rfl,k8 trivial⟩
   ·simp only[af.all,az,bz,bB]
    refine⟨fun h=>⟨?_,[(0,0)],rfl,rfl,rfl,k8 trivial⟩,fun h=>⟨rfl,k,?_,[(0,0)],rfl,rfl,rfl,k8 trivial⟩⟩
    ·rcases Nat.lt_or_ge k J with h2|h2
     ·exact h2
     ·have:k=J:=aa
      subst this;omega
    ·rcases Nat.lt_or_ge k J with h2|h2
     ·have:=j2 k (Nat.zero_le _) h2
      omega
     ·omega
   ·obtain⟨x1,x2,x3,x4⟩:=y8 k (j2 k (Nat.zero_le _) hG)
    simp only[af.all,az]
    exact⟨⟨dg aP,x2⟩,0,Nat.zero_le _,[(0,0)],rfl,rfl,rfl,k8 trivial⟩
   ·obtain⟨x1,x2,x3,x4⟩:=y8 k (j2 k (Nat.zero_le _) hG)
    have hJ2:J<=(aS p).1:=by rw[hJ];have:=Gz (a:=aS p) (aS p).1 0;omega
    have hsk:0<cP (eV (aS p) k):=Nat.succ_pos _
    have hb:gI (aS p) l k i i<=42:=by rw[CF];have:=HY (a:=aS p) (l:=l) (i:=i) k;omega
    simp only[af.all,az,bz,bB,bw,Nat.add_zero]
    refine⟨fun h=>⟨⟨aa,aa,fun i _=>.refl _,.refl _,.refl _,hsk,x3,(x4 i aa).1,(x4 i aa).2⟩,fun h2=>⟨⟨aa,aa,aa,aa,aa⟩,aa,i+1,aa,by dsimp only;omega,[(0,0)],rfl,by rw[show(i:Int)+1=((i+1:Nat):Int) by omega];rfl,rfl,bg rfl rfl rfl (fun x hx=>?_) trivial⟩,
      fun h2=>⟨aa,i+1,aa,by dsimp only;omega,[(0,0)],rfl,by rw[show(i:Int)+1=((i+1:Nat):Int) by omega];rfl,rfl,bg rfl rfl rfl (fun x hx=>?_) trivial⟩⟩,
     fun h=>⟨rfl,i,aa,[(0,0)],rfl,rfl,rfl,k8 trivial⟩⟩
    ·have h2:s5 (aS p) l k i=true:=h2
     exact bH (by rw[Fu rfl h2];rfl) (Fu rfl h2)
    ·have h2:s5 (aS p) l k i=false:=h2
     exact bH rfl (by show vj l (gI (aS p) l k i) x=_;rw[P6 h2])
   ·obtain⟨x1,x2,x3,x4⟩:=y8 k (j2 k (Nat.zero_le _) hG)
    have hg41:(eV (aS p) k).1<=41:=Nat.le_trans (AM ta k) hp41
    simp only[af.all,az]
    refine⟨⟨dg aP,by show(eV (aS p) k).1<_;omega,x1.1,dg aP,dg aP,by show(eV (aS p) k).1<_;omega,hd hg41,rm ta k,fH,x1.2⟩,k+1,hG,by dsimp only;omega,[(0,0)],rfl,rfl,rfl,bg rfl rfl rfl (fun x hx=>bH rfl ?_) trivial⟩
    show AV.agg [cT l x,.int .i64 (gI (aS p) l k i x:Nat)]=.agg [cT l x,.int .i64 (jJ (aS p) l (k+1) x:Nat)]
    unfold gI
    rw[if_pos (show x<i by omega)]
   ·subst hk
    refine au.kG ((aE.fin hT z7 hm 60 (TS (d:=d)) ah ?_).mono fun _ _ h=>.inl h)
    show fV [.ak 7 l.length _,.int .i64 0] [.ak 7 (iM d p).length (vj (iM d p) (nN d p)),.int .i64 (if(aS p).1=0 then 3 else 0)]
    refine⟨s4 (by rw[hll]) fun i hi=>?_,bN (if_neg hne).symm,trivial⟩
    have ht:nN d p i=jJ (aS p) l k i:=by unfold nN;rw[<-hll,<-hJ]
    show _=AV.agg [cT (iM d p) i,.int .i64 (nN d p i:Nat)]
    rw[ht,<-hll];rfl
def LG (d:Nat):Spec:=dU (kC (kL ag) kN) (fun a=>BN d a.1) fun a=>[xu d a.1]
theorem Zu (d:Nat):aY P (LG d) 18:=dD fun⟨a,_⟩ K hn=>ac6 hn K
def eu (k:Nat->Rat) (j:Nat):Nat->Int
 |0=>-1
 |l+1=>if k (j+l)=k (j+l+1)then eu k j l else(j+l:Nat)
theorem Lf {k:Nat->Rat} {j:Nat}:∀{l:Nat},k j≠k (j+l)->∃P:Nat,eu k j l=(P:Int)/\j<=P/\P<j+l/\k P≠k (P+1)
 |0,h=>absurd rfl h
 |l+1,h=>by
  unfold eu
  by_cases he:k (j+l)=k (j+l+1)
  ·rw[if_pos he]
   obtain⟨P,h1,h2,h3,h4⟩:=Lf (k:=k) (j:=j) (l:=l) (by rw[he];exact h)
   exact⟨P,h1,h2,by omega,h4⟩
  ·rw[if_neg he]
   exact⟨j+l,rfl,by omega,by omega,he⟩
theorem Kn.piece {n p:Nat} {k:Nat->Rat} (h:Kn n p k) {j:Nat} (hj:j+p+1<n):∃P:Nat,eu k j (p+1)=(P:Int)/\j<=P/\P<=j+p/\k P<k (P+1)/\p<=P/\P+p+1<n:=by
 have hp:=h.p1
 have hne:k j≠k (j+(p+1)):=by
  have hlt:k j<k (j+(p+1)):=by
   by_cases h0:j=0
   ·subst h0
    have hl:=h.len
    have a1:=h.mult 1 (by omega) (by omega)
    rw[h.first 1 (by omega),show 1+p=0+(p+1) by omega]at a1
    exact a1
   ·have a1:=h.mult j (by omega) (by omega)
    have a2:=h.mono (show j+p<=j+(p+1) by omega) (by omega)
    grind
  grind
 obtain⟨P,h1,h2,h3,h4⟩:=Lf hne
 have hs:=h.sorted P (by omega)
 refine⟨P,h1,h2,by omega,by grind,?_,?_⟩
 ·rcases Nat.lt_or_ge P p with hh|hh
  ·exact absurd (by rw[h.first P (by omega),h.first (P+1) (by omega)]) h4
  ·exact hh
 ·rcases Nat.lt_or_ge (P+p+1) n with hh|hh
  ·exact hh
  ·exact absurd (by rw[h.last P (by omega) (by omega),h.last (P+1) (by omega) (by omega)]) h4
open Go
theorem IG {x:Int} {n:Nat} (h:x.natAbs<2^n) (hn:1<=n):Sz (x:Rat) n:=
 ⟨by rw[Rat.num_intCast];exact h,by rw[Rat.den_intCast];exact Nat.lt_of_lt_of_le (show 1<2^1 by decide) (Nat.pow_le_pow_right (by decide) hn)⟩
end Go.Am.B
