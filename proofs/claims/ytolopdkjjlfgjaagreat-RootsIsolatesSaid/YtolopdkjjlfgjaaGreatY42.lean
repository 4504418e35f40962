/- ref06.times, Isolate, SameRoots. -/
import Derived.Test.YtolopdkjjlfgjaaGreatY41
set_option linter.unusedVariables false
noncomputable section
namespace Go.Am.B
open Go Go.Am.N AV af aq IntKind Proofs.Tryz
def cA (c:PP):Nat->PP
 |0=>c
 |j+1=>bR (cA c j) (aW (cA c j))
def fN (c:PP) (x y:Rat):Bool:=if x=y then decide (cE c x=0)else decide (eW (b7 c) (bS c) x y≠0)
def iq (c:PP) (x y:Rat):Nat->Nat->Nat
 |0,j=>j
 |f+1,j=>if 1<(cA c j).1 then(if fN (cA c j) x y=true then iq c x y f (j+1)else j)else j
def uM (c:PP) (x y:Rat):Prop:=c.1<2^30/\x<=y/\∀j,1<(cA c j).1->Trim (cA c j)/\(cA c j).1<2^30/\g9 (cA c j) x/\og (cA c j)/\b7 (cA c j)<2^30/\cL (b7 (cA c j)) (bS (cA c j)) x/\cL (b7 (cA c j)) (bS (cA c j)) y/\cN ((cA c j).1-1) (cO (cA c j).2)/\tY (cA c j) (aW (cA c j))
def F2:Spec:=en (kC (kL ag) kN) (fun a=>fK (b7 a.1) (bS a.1)) fun a=>[og a.1]
def B0:bz:=nG::(76,nN)::(63,F2)::(62,Eu)::(125,qq)::(100,Ho)::iK
abbrev zh:Code:=aI f78
abbrev EO (c:PP) (j:Nat):List AV:=[aG (cA c j),.ptr 0 0 6 0 [],.int .i64 j]
abbrev Gk (x y:Rat):aE:=[(0,⟨false,true,6,1,fun _=>fJ x y ag⟩)]
def P6:Spec:=en (kC (kL ag) (kC (Ak ag) kN)) (fun a=>.int .i64 (iq a.1 a.2.1.1 a.2.1.2 a.1.1 0:Nat)) fun a=>[uM a.1 a.2.1.1 a.2.1.2]
def tQ (b:Bool) (d:Nat):bz:=nG::(61,yP)::(63,F2)::(75,GV b b d)::(76,nN)::(78,P6)::(77,DM)::iK
abbrev oE:Code:=aI f19
abbrev nQ:List Nat:=[2,3,4,7,8,9]
abbrev rK (c:PP) (m i:Nat):List AV:=[.nil,.int .i64 0,aG c,.own 0 6 0 m,.own 1 7 0 i,.int .i64 i]
abbrev tL (l:List (Rat×Rat)) (g:Nat->Nat) (i:Nat):aE:=[(1,⟨true,true,7,i,jj l g⟩),(0,mZ l)]
theorem Z0:br 78 f78:=bu func78
theorem Sx {c:PP} {x y:Rat}:aH T B0 [] 60 [0,3,5] (before zh [1,1,0]) ⟨aU 0 [aG c,fJ x y ag],[],0⟩=
  let c1:Nat:=(eC (fJ x y ag)).size;some (leaf normal ([ak 3 c.fst fun i=>rat (c.snd i) ag,ptr 0 0 c1 0 [],int i64 0],[(0,ax.mk false true c1 1 fun x_1=>agg [rat x ag,rat y ag])])):=ah
theorem Uk {c:PP} {j:Nat} {x y:Rat}:aH T B0 [8,13,19,27] 60 [0,3,5] [part zh [1,1,0,0,0]] ⟨aB [0,3,5] (EO c j),Gk x y,1⟩=
  let c15:PP:=cA c j;let c13:Nat:=2^30;let c12:Int:=(↑j:Int)+1;let c11:AV:=ptr 0 0 6 0 [];let c10:Prop:=ag<2^41;let c9:Prop:=0<1;let c7:Nat×ax:=(0,ax.mk false true 6 1 fun x_1=>agg [rat x ag,rat y ag]);let c8:Nat:=c15.fst;let c16:Prop:=c8<2^40;let c6:Prop:=cZ (fun i=>rat (c15.snd i) ag) c8 ag;let c4:af (List AV×aE):=leaf (exit 0) ([ak 3 c8 fun i=>rat (c15.snd i) ag,c11,int i64 (↑j:Int)],[c7]);let c3:Nat:=bH (cO fun i=>aQ (rat (c15.snd i) ag)) (c8-1);let c2:Nat×(Nat->Rat):=(c8,fun i=>aQ (rat (c15.snd i) ag));let c5:Nat×(Nat->Rat):=(c3,fun i=>aQ (rat (cO (fun i=>aQ (rat (c15.snd i) ag)) i) ag));let c14:PP:=(bQ (c2,c5) c3).fst;let c1:af (List AV×aE):=aj [-(2:Int)^63<=c12/\c12<2^63] (aj [c6,c16,cN (c8-1) (cO fun i=>aQ (rat (c15.snd i) ag)),c6,cZ (fun i=>rat (cO (fun i=>aQ (rat (c15.snd i) ag)) i) ag) c3 ag,c8<c13,c3<c13,Trim c2,Trim c5,tY c2 c5] (leaf normal ([ak 3 c14.fst fun i=>rat (cM c14.fst c14.snd i) ag,c11,int i64 c12],[c7])));some (fork (decide ((↑c8:Int)>1)) (aj [c9,c9,c10,c10] (fork (decide (x=y)) (aj [c9,c6,ag<=ag,c16,g9 c2 x,c10] (fork (bN (cE c2 x)!=0) c4 c1)) (aj [c6,og c2,c9,c9,∀(i:Nat),i<b7 c2->bg (aG (bS c2 i)) (aG (bV (aG (bS c2 i)))),ag<=ag,ag<=ag,(0:Nat)<b7 c2,b7 c2<c13,x<y,cL (b7 c2) (fun i=>bV (aG (bS c2 i))) x,cL (b7 c2) (fun i=>bV (aG (bS c2 i))) y] (fork (eW (b7 c2) (fun i=>bV (aG (bS c2 i))) x y==0) c4 c1)))) c4):=ah
theorem Qy {c:PP} {j:Nat} {x y:Rat}:cR T B0 [] 60 f78 [part zh [1,1,1]] ⟨aB [0,3,5] (EO c j),Gk x y,1⟩=
  some (leaf ret [int i64 (↑j:Int)]):=ah
theorem KH:br 19 f19:=bu func19
abbrev lM:AV:=agg [rat 0 1,rat 0 1]
abbrev Bc:AV:=agg [rat ((1:Int):Rat) ag,rat ((1:Int):Rat) ag]
abbrev qG:Nat:=Max.max 1 (bX (Int.natAbs (1:Int)))
def pH (p:PP) (k m:Nat) (f:Nat->AV):af (List AV×aE):=leaf normal ([nil,int i64 0,aG (aJ p),own k 6 0 m,nil,int i64 0],[(k,ax.mk true true 6 m f)])
abbrev AS (p:PP):List Prop:=[0<1,aR (aJ p),qG<=ag,(aJ p).1<2^40,g9 (aJ p) ((1:Int):Rat),ag<2^41]
abbrev YU (p:PP) (d:Nat) (L:List (Rat×Rat)) (e:Prop):List Prop:=[0<1,az [∀i,i<b7 (aJ p)->bg (aG (bS (aJ p) i)) (aG (bV (aG (bS (aJ p) i))))],az [1<=ek],az [qG<=ek],0<b7 (aJ p),b7 (aJ p)<2^30,jP (b7 (aJ p)) (bS (aJ p)) d 0 ((1:Int):Rat),e]
def Ao (p:PP) (d:Nat) (e:Prop) (L:List (Rat×Rat)) (t:af (List AV×aE)):af (List AV×aE):=aj [aR p,mJ p] (fork (((aJ p).1:Int)==0) (leaf ret ([nil,int i64 3,aG (aJ p),tuple [],tuple [],tuple []],[]))
 (aj [aR (aJ p),og (aJ p)] (aj [-(2:Int)^63<=(1:Int),(1:Int)<2^63,0<1] (aj (YU p d L e) (aj [aR (aJ p),1<=ag,(aJ p).1<2^40,g9 (aJ p) 0,ag<2^41] t)))))
theorem abL {d:Nat} {p:PP} {L:List (Rat×Rat)} (hL:L=bC (b7 (aJ p)) (bS (aJ p)) d 0 ((1:Int):Rat)):aH T (tQ true d) [14,26,35] 60 nQ (before oE [1,1,1,1,1,1,1,1,1,0,1]) ⟨aU 0 [aG p],[],0⟩=
  some (Ao p d (L≠[]) L (fork (bN (cE (aJ p) 0)==0)
   (aj [1*6<=2^24,(1+L.length)*(112+1)*2<=2^47] (aj (AS p) (fork (bN (cE (aJ p) ((1:Int):Rat))==0) (aj [0<1,qG<=ek,Sz ((1:Int):Rat) ag,1*6<=2^24,(1+L.length+1)*(112+1)*2<=2^47] (pH p 155648 (1+L.length+1) fun i=>if i<1+L.length then if i<1 then nth [lM] lM i else cu L (i-1+0)else nth [Bc] lM (i-(1+L.length)+0))) (pH p 110592 (1+L.length) fun i=>if i<1 then nth [lM] lM i else cu L (i-1+0)))))
   (aj (AS p) (fork (bN (cE (aJ p) ((1:Int):Rat))==0) (aj [0<1,qG<=ek,Sz ((1:Int):Rat) ag,1*6<=2^24,(L.length+1)*(112+1)*2<=2^47] (pH p 135168 (L.length+1) fun i=>if i<L.length then cu L i else nth [Bc] lM (i-L.length+0))) (pH p 69632 L.length fun i=>cu L i))))):=by subst hL;kernel_rfl
theorem Ww {d:Nat} {p:PP} {L:List (Rat×Rat)} (hL:L=bC (b7 (aJ p)) (bS (aJ p)) d 0 ((1:Int):Rat)):aH T (tQ false d) [14,26,35] 60 nQ (before oE [1,1,1,1,1,1,1,1,1,0,1]) ⟨aU 0 [aG p],[],0⟩=
  some (Ao p d (L=[]) L (fork (bN (cE (aJ p) 0)==0)
   (aj [1*6<=2^24,(1+0)*(112+1)*2<=2^47] (aj (AS p) (fork (bN (cE (aJ p) ((1:Int):Rat))==0) (aj [0<1,qG<=ek,Sz ((1:Int):Rat) ag,1*6<=2^24,(1+0+1)*(112+1)*2<=2^47] (pH p 155648 2 fun i=>if i<1+0 then if i<1 then nth [lM] lM i else nil else nth [Bc] lM (i-(1+0)+0))) (pH p 110592 1 fun i=>if i<1 then nth [lM] lM i else nil))))
   (aj (AS p) (fork (bN (cE (aJ p) ((1:Int):Rat))==0) (aj [0<1,qG<=ek,Sz ((1:Int):Rat) ag,1*6<=2^24,0<1/\1*(112+1)*2<=2^47] (pH p 135168 1 fun i=>nth [Bc] lM (i+0))) (leaf normal ([nil,int i64 0,aG (aJ p),nil,nil,int i64 0],[])))))):=by subst hL;kernel_rfl
theorem aan {d m i:Nat} {c:PP} {l:List (Rat×Rat)} {g:Nat->Nat}:aH T (tQ true d) [44] 60 nQ [part oE [1,1,1,1,1,1,1,1,1,0,1,0,0]] ⟨aB nQ (rK c m i),tL l g i,2⟩=
  let c13:AV:=rat 0 1;let c11:Nat×(Nat->Rat):=(c.fst,fun i=>aQ (rat (c.snd i) ag));let c9:AV:=int i64 0;let c8:AV:=own 0 6 0 m;let c4:AV:=ak 3 c.fst fun i=>rat (c.snd i) ag;let c3:Int:=(↑i:Int);let c2:Nat×ax:=(0,ax.mk true true 6 l.length fun i=>agg [rat (bO l i).fst ag,rat (bO l i).snd ag]);let c12:Int:=c3+1;let c10:Prop:=(0:Int)<=c3/\c3.toNat<m;let c7:Nat:=c3.toNat+0;let c1:Rat×Rat:=bO l c7;let c6:AV:=rat c1.snd ag;let c5:AV:=rat c1.fst ag;some (fork (decide (c3<(↑m:Int))) (aj [c10,c7<l.length,c10,c7<l.length,cZ (fun i=>rat (c.snd i) ag) c.fst ag,bg c5 (rat (aQ c5) ag),bg c6 (rat (aQ c6) ag),uM c11 (aQ c5) (aQ c6),(1:Nat)*7<=2^24,(i+1)*((120:Nat)+1)*2<=2^47] (aj [-(2:Int)^63<=c12/\c12<2^63] (leaf normal ([nil,c9,c4,c8,own 69634 7 0 (i+1),int i64 c12],[(69634,ax.mk true true 7 (i+1) fun i_1=>if i_1<i then jj l g i_1 else nth [agg [agg [c5,c6],int i64 (↑(iq c11 (aQ c5) (aQ c6) c.fst 0):Int)]] (agg [agg [c13,c13],c9]) (i_1-i+0)),c2])))) (leaf (exit 0) ([nil,c9,c4,c8,own 1 7 0 i,int i64 c3],[(1,ax.mk true true 7 i fun j=>agg [agg [rat (bO l j).fst ag,rat (bO l j).snd ag],int i64 (↑(g j):Int)]),c2]))):=ah
theorem ad0 {d m i:Nat} {c:PP} {l:List (Rat×Rat)} {g:Nat->Nat}:aH T (tQ false d) [44] 60 nQ [part oE [1,1,1,1,1,1,1,1,1,0,1,0,0]] ⟨aB nQ (rK c m i),tL l g i,2⟩=
  let c13:AV:=rat 0 1;let c11:Nat×(Nat->Rat):=(c.fst,fun i=>aQ (rat (c.snd i) ag));let c9:AV:=int i64 0;let c8:AV:=own 0 6 0 m;let c4:AV:=ak 3 c.fst fun i=>rat (c.snd i) ag;let c3:Int:=(↑i:Int);let c2:Nat×ax:=(0,ax.mk true true 6 l.length fun i=>agg [rat (bO l i).fst ag,rat (bO l i).snd ag]);let c12:Int:=c3+1;let c10:Prop:=(0:Int)<=c3/\c3.toNat<m;let c7:Nat:=c3.toNat+0;let c1:Rat×Rat:=bO l c7;let c6:AV:=rat c1.fst ag;let c5:AV:=rat c1.snd ag;some (fork (decide (c3<(↑m:Int))) (aj [c10,c7<l.length,c10,c7<l.length,cZ (fun i=>rat (c.snd i) ag) c.fst ag,bg c6 (rat (aQ c6) ag),bg c5 (rat (aQ c5) ag),uM c11 (aQ c6) (aQ c5),(1:Nat)*7<=2^24,(i+1)*((120:Nat)+1)*2<=2^47] (aj [-(2:Int)^63<=c12/\c12<2^63] (leaf normal ([nil,c9,c4,c8,own 69634 7 0 (i+1),int i64 c12],[(69634,ax.mk true true 7 (i+1) fun i_1=>if i_1<i then jj l g i_1 else nth [agg [agg [c6,c5],int i64 (↑(iq c11 (aQ c6) (aQ c5) c.fst 0):Int)]] (agg [agg [c13,c13],c9]) (i_1-i+0)),c2])))) (leaf (exit 0) ([nil,c9,c4,c8,own 1 7 0 i,int i64 c3],[(1,ax.mk true true 7 i fun j=>agg [agg [rat (bO l j).fst ag,rat (bO l j).snd ag],int i64 (↑(g j):Int)]),c2]))):=ah
theorem adL {d m i:Nat} {c:PP} {l:List (Rat×Rat)} {g:Nat->Nat}:cR T (tQ false d) [] 60 f19 [part oE [1,1,1,1,1,1,1,1,1,1]] ⟨aB nQ (rK c m i),tL l g i,2⟩=
  some (leaf ret [ak 7 i fun i=>agg [agg [rat (bO l (i+0)).fst ag,rat (bO l (i+0)).snd ag],int i64 (↑(g (i+0)):Int)],int i64 0]):=ah
theorem XT {d m i:Nat} {c:PP} {l:List (Rat×Rat)} {g:Nat->Nat}:cR T (tQ true d) [] 60 f19 [part oE [1,1,1,1,1,1,1,1,1,1]] ⟨aB nQ (rK c m i),tL l g i,2⟩=
  some (leaf ret [ak 7 i fun i=>agg [agg [rat (bO l (i+0)).fst ag,rat (bO l (i+0)).snd ag],int i64 (↑(g (i+0)):Int)],int i64 0]):=ah
theorem D0 {c:PP} (hc:dD c):∀e j x y,j+e=cz->1<=e->ju j x y->jP (b7 c) (bS c) e x y
 |0,_,_,_,_,h,_=>absurd h (by decide)
 |e+1,j,x,y,hj,he1,h=>by
  have hD:=pC
  have hW:=cY
  have hlk:=yQ hc (e+1) j x y hj he1 h
  have hlen:=jO.len hc (e+1) h.lt hlk
  have hle:=Jy hc.pz x y
  have sz:∀{z},cj ((2^j:Nat):Int) j z->Sz z ag:=fun hz=>(hz.sz (by have:=Nat.pow_pos (n:=j) (show 0<2 by decide);omega) (e:=j) (by rw[Int.natAbs_natCast];exact Nat.le_refl _)).more aa
  obtain⟨k1,k2,k3⟩:=hlk
  refine⟨h.lt,k1,k2,sz h.nx,sz h.ny,by rw[tO];exact hlen,aa,fun h0 h1=>?_⟩
  obtain⟨a,b⟩:=h.Hz
  rcases Nat.eq_zero_or_pos e with he|he
  ·rw[tO]at h0 h1
   rcases h.LU hc aa with h2|h2
   ·exact absurd h2 h0
   ·exact absurd h2 h1
  ·exact⟨D0 hc e (j+1) _ _ aa he a,D0 hc e (j+1) _ _ aa he b⟩
theorem JJ:bf P F2 63:=aei
theorem Sm:bU P B0:=jq (aL BE (aL JJ (aL HT (aL D9 (aL Oh iP)))))
theorem CQ {q:Rat}:bN q=0↔q=0:=by
 rcases vH q with h|h|h<;>unfold bN at h ⊢<;>grind
theorem Mi {c:PP} {x y:Rat} {j:Nat} (h:¬(1<(cA c j).1/\fN (cA c j) x y=true)) (f:Nat):iq c x y f j=j:=by
 cases f with
 |zero=>rfl
 |succ f=>
  unfold iq
  by_cases h1:1<(cA c j).1
  ·rw[if_pos h1,if_neg fun h2=>h ⟨h1,h2⟩]
  ·rw[if_neg h1]
theorem acz {c:PP} {x y:Rat} (h:uM c x y) (K:Nat):aS P 78 K [aG c,fJ x y ag] [] (aM (.int .i64 (iq c x y c.1 0:Nat)) []):=by
 have hW:=cY
 obtain⟨h30,hxy,hall⟩:=h
 refine iW (r:=aM (.int .i64 (iq c x y c.1 0:Nat)) []) hT Sm hm Z0 rfl aZ rfl [1,1,0] (i:=0) (y:=part zh [1,1,0,0,0]) (z:=part zh [1,1,1]) ah ah ah (f1:=[]) (f2:=[8,13,19,27]) (f3:=[]) 60 [0,3,5] 1
  (fun j:Nat=>EO c j) (fun _=>Gk x y) (fun j=>(cA c j).1+j<=c.1/\iq c x y (c.1-j) j=iq c x y c.1 0) (fun j=>j=iq c x y c.1 0) (fun j=>c.1-j) (fun _=>⟨⟨_,Sx,?_⟩,fun j ⟨j1,j2⟩=>⟨_,Uk,?_⟩,fun j hj=>⟨_,Qy,?_⟩⟩) K []
 ·simp only[af.all,az]
  exact⟨0,⟨aT,rfl⟩,[(0,0)],rfl,rfl,rfl,dx trivial⟩
 ·have hrd:∀i,i<b7 (cA c j)->bg (aG (bS (cA c j) i)) (aG (bV (aG (bS (cA c j) i)))):=fun i _=>.refl _
  have ex:∀{e:Prop},¬(1<(cA c j).1/\fN (cA c j) x y=true)->j=iq c x y c.1 0:=fun hn=>by rw[<-j2,Mi hn]
  simp only[af.all,az,bD,bI,bne_iff_ne,ne_eq,bne_eq_false_iff_eq,beq_iff_eq,beq_eq_false_iff_ne]
  refine⟨fun hl=>?_,fun hl=>⟨rfl,j,ex (e:=True) (fun hh=>hl (by have:=hh.1;omega)),[(0,0)],rfl,rfl,rfl,dx trivial⟩⟩
  have hl1:1<(cA c j).1:=aa
  obtain⟨t1,t2,t3,t4,t5,t6,t7,t8,t9⟩:=hall j hl1
  have hgl:=Hh t1 hl1
  have nx:fN (cA c j) x y=true->(cA c (j+1)).1+(j+1)<=c.1/\iq c x y (c.1-(j+1)) (j+1)=iq c x y c.1 0:=fun hh=>by
   refine⟨by have:(cA c (j+1)).1<(cA c j).1:=hgl;omega,?_⟩
   rw[<-j2,show c.1-j=(c.1-(j+1))+1 by omega]
   conv=>rhs;unfold iq
   rw[if_pos hl1,if_pos hh]
  have dl:(aW (cA c j)).1<=(cA c j).1-1:=AO
  have tl:∀{P1:Prop},fN (cA c j) x y=true->-(2:Int)^63<=(j:Int)+1/\(j:Int)+1<(2:Int)^63:=fun _=>aa
  refine⟨⟨aa,aa,aa,aa⟩,fun he=>?_,fun he=>?_⟩
  ·have hh:fN (cA c j) x y=decide (cE (cA c j) x=0):=if_pos he
   refine⟨⟨aa,eF (a:=cA c j),aa,aa,t3,aa⟩,fun hv=>⟨rfl,j,ex (e:=True) (fun h2=>hv (CQ.2 (of_decide_eq_true (hh▸h2.2)))),[(0,0)],rfl,rfl,rfl,dx trivial⟩,fun hv=>?_⟩
   have hh2:fN (cA c j) x y=true:=by rw[hh];exact decide_eq_true (CQ.1 hv)
   exact⟨aa,⟨eF (a:=cA c j),aa,t8,eF (a:=cA c j),eF (a:=aW (cA c j)),t2,by show(aW (cA c j)).1<_;omega,t1,dI,t9⟩,j+1,nx hh2,by dsimp only;omega,[(0,0)],rfl,by rw[show(j:Int)+1=((j+1:Nat):Int) by omega];rfl,rfl,dx trivial⟩
  ·have hh:fN (cA c j) x y=decide (eW (b7 (cA c j)) (bS (cA c j)) x y≠0):=if_neg he
   have hlt:x<y:=by grind
   refine⟨⟨eF (a:=cA c j),t4,aa,aa,hrd,aa,aa,Nat.succ_pos _,t5,hlt,t6,t7⟩,fun hv=>⟨rfl,j,ex (e:=True) (fun h2=>(of_decide_eq_true (hh▸h2.2):eW _ _ x y≠0) hv),[(0,0)],rfl,rfl,rfl,dx trivial⟩,fun hv=>?_⟩
   have hh2:fN (cA c j) x y=true:=by rw[hh];exact decide_eq_true hv
   exact⟨aa,⟨eF (a:=cA c j),aa,t8,eF (a:=cA c j),eF (a:=aW (cA c j)),t2,by show(aW (cA c j)).1<_;omega,t1,dI,t9⟩,j+1,nx hh2,by dsimp only;omega,[(0,0)],rfl,by rw[show(j:Int)+1=((j+1:Nat):Int) by omega];rfl,rfl,dx trivial⟩
 ·subst hj
  simp only[af.all,az]
  exact .refl _
theorem ahW:bf P P6 78:=dO fun⟨_,⟨_,_⟩,_⟩ K hn=>acz hn K
theorem O5 (b:Bool) (d:Nat):bU P (tQ b d):=jq (aL abE (aL JJ (aL (NP (Mv d) b b) (aL BE (aL ahW (aL Js iP))))))
def fB (d:Nat) (p:PP):List (Rat×Rat):=if(aJ p).1=0 then []else(if cE (aJ p) 0=0 then [(0,0)]else [])++bC (b7 (aJ p)) (bS (aJ p)) d 0 ((1:Int):Rat)++(if cE (aJ p) ((1:Int):Rat)=0 then [(((1:Int):Rat),((1:Int):Rat))]else [])
def mL (d:Nat) (p:PP) (i:Nat):Nat:=iq (aJ p) (bO (fB d p) i).1 (bO (fB d p) i).2 (aJ p).1 0
abbrev wk (d:Nat) (p:PP):AV:=.tuple [.ak 7 (fB d p).length (jj (fB d p) (mL d p)),.int .i64 (if(aJ p).1=0 then 3 else 0)]
def Cj (d:Nat) (p:PP):Prop:=mJ p/\((aJ p).1≠0->og (aJ p)/\b7 (aJ p)<2^30/\jP (b7 (aJ p)) (bS (aJ p)) d 0 ((1:Int):Rat)/\g9 (aJ p) 0/\g9 (aJ p) ((1:Int):Rat)/\(aJ p).1<2^30/\(fB d p).length<2^30/\∀i,i<(fB d p).length->uM (aJ p) (bO (fB d p) i).1 (bO (fB d p) i).2)
theorem vw {rl:List (Nat×Nat)} {v:AV} {l:List (Rat×Rat)} {i:Nat} (h:v=cu l i):ng rl v (cu l i):=by subst h;exact bK rfl rfl
theorem sB {c:PP} {l:List (Rat×Rat)} {g:Nat->Nat} {k m:Nat} {f:Nat->AV} (hk:iR 2 [(0,k)]=true) (hm:m=l.length) (hf:∀i,i<l.length->ng [(0,k)] (f i) (cu l i)):
  dP [] ([nil,int i64 0,aG c,own k 6 0 m,nil,int i64 0],[(k,ax.mk true true 6 m f)]) (rK c l.length 0) (tL l g 0) 2:=by
 subst hm
 exact⟨[(0,k)],by rw[hk];rfl,rfl,rfl,lF rfl aa aa (bk rfl (by simp[look]) rfl hf trivial)⟩
theorem C9 {rl:List (Nat×Nat)}:ng rl lM (fJ 0 0 ag):=.inr ⟨rfl,p8 ⟨dM rfl (by decide),dM rfl (by decide),trivial⟩⟩
theorem Om {z:Rat×Rat} {L:List (Rat×Rat)} {i:Nat}:bO ([z]++L) i=if i<1 then z else bO L (i-1):=by
 rw[sx]
 cases i with
 |zero=>rfl
 |succ i=>rfl
theorem ag7 {d:Nat} {p:PP} (h:Cj d p) (K:Nat):aS P 19 K [aG p] [] (aM (wk d p) []):=by
 have hW:=cY
 have hX:=uX
 obtain⟨hof,hall⟩:=h
 have hz1:Sz ((1:Int):Rat) ag:=(ze (y:=0) (by decide) (by decide)).more aa
 have hN:qG<=ag:=by rw[hW];decide
 have hN2:qG<=ek:=aa
 obtain⟨L,hL⟩:∃L,L=bC (b7 (aJ p)) (bS (aJ p)) d 0 ((1:Int):Rat):=⟨_,rfl⟩
 have hrd:∀i,i<b7 (aJ p)->bg (aG (bS (aJ p) i)) (aG (bV (aG (bS (aJ p) i)))):=fun i _=>.refl _
 have eL:(aJ p).1≠0->fB d p=(if cE (aJ p) 0=0 then [(0,0)]else [])++L++(if cE (aJ p) ((1:Int):Rat)=0 then [(((1:Int):Rat),((1:Int):Rat))]else []):=fun h0=>by rw[hL];exact if_neg h0
 by_cases hE:L=[]
 ·refine iW (r:=aM (wk d p) []) hT (O5 false d) hm KH rfl aZ rfl [1,1,1,1,1,1,1,1,1,0,1] (i:=0) (y:=part oE [1,1,1,1,1,1,1,1,1,0,1,0,0]) (z:=part oE [1,1,1,1,1,1,1,1,1,1]) ah ah ah (f1:=[14,26,35]) (f2:=[44]) (f3:=[]) 60 nQ 2
   (fun i:Nat=>rK (aJ p) (fB d p).length i) (fun i=>tL (fB d p) (mL d p) i) (fun i=>(aJ p).1≠0/\i<=(fB d p).length) (fun i=>(aJ p).1≠0/\i=(fB d p).length) (fun i=>(fB d p).length-i) (fun _=>⟨⟨_,Ww hL,?_⟩,fun i ⟨i1,i2⟩=>⟨_,ad0,?_⟩,fun i ⟨i1,i2⟩=>⟨_,adL,?_⟩⟩) K []
  ·unfold Ao pH
   simp only[af.all,az,beq_iff_eq,beq_eq_false_iff_ne,ne_eq,CQ]
   refine⟨⟨eF,hof⟩,fun h0=>?_,fun h0=>?_⟩
   ·have h0:(aJ p).1=0:=aa
    refine⟨[nil,int i64 3],ah,?_⟩
    have e:fB d p=[]:=if_pos h0
    have er:wk d p=.tuple [.ak 7 0 (jj [] (mL d p)),.int .i64 3]:=by
     show AV.tuple _=_
     rw[e,if_pos h0];rfl
    rw[er]
    exact⟨lS (by decide),.refl _,trivial⟩
   ·have h0:(aJ p).1≠0:=aa
    obtain⟨k1,k2,k3,k4,k5,k6,k7,k8⟩:=hall h0
    have e:=eL h0
    rw[hE]at e
    refine⟨⟨eF,k1⟩,⟨aa,aa,aa⟩,⟨aa,hrd,aa,hN2,Nat.succ_pos _,k2,k3,hE⟩,⟨eF,aa,aa,k4,aa⟩,fun z0=>?_,fun z0=>?_⟩
    ·refine⟨⟨aa,aa⟩,⟨aa,eF,hN,aa,k5,aa⟩,fun z1=>?_,fun z1=>?_⟩
     ·rw[if_pos z0,if_pos z1]at e
      refine⟨⟨aa,hN2,hz1,aa,aa⟩,0,⟨h0,Nat.zero_le _⟩,sB rfl (by rw[e];rfl) fun i hi=>?_⟩
      rw[e]at hi ⊢
      have hi:i<2:=hi
      rcases(show i=0\/i=1 by omega)with rfl|rfl
      ·exact C9
      ·exact vw rfl
     ·rw[if_pos z0,if_neg z1]at e
      refine⟨0,⟨h0,Nat.zero_le _⟩,sB rfl (by rw[e];rfl) fun i hi=>?_⟩
      rw[e]at hi ⊢
      have hi:i<1:=hi
      obtain rfl:i=0:=aa
      exact C9
    ·refine⟨⟨aa,eF,hN,aa,k5,aa⟩,fun z1=>?_,fun z1=>?_⟩
     ·rw[if_neg z0,if_pos z1]at e
      refine⟨⟨aa,hN2,hz1,aa,aa,aa⟩,0,⟨h0,Nat.zero_le _⟩,sB rfl (by rw[e];rfl) fun i hi=>?_⟩
      rw[e]at hi ⊢
      have hi:i<1:=hi
      obtain rfl:i=0:=aa
      exact vw rfl
     ·rw[if_neg z0,if_neg z1]at e
      refine⟨0,⟨h0,Nat.zero_le _⟩,?_⟩
      rw[e]
      exact⟨[],rfl,rfl,rfl,lF rfl aa aa (lF rfl aa aa trivial)⟩
  ·obtain⟨k1,k2,k3,k4,k5,k6,k7,k8⟩:=hall i1
   simp only[af.all,az,bD,bI,bG,Nat.add_zero]
   refine⟨fun hl=>⟨⟨⟨aa,aa⟩,aa,⟨aa,aa⟩,aa,eF,.refl _,.refl _,k8 i aa,aa,aa⟩,aa,i+1,⟨i1,aa⟩,by dsimp only;omega,[(0,0),(1,69634)],rfl,by rw[show(i:Int)+1=((i+1:Nat):Int) by omega];rfl,rfl,bk rfl rfl rfl (fun k hk=>?_) (bk rfl rfl rfl (fun k hk=>bK rfl rfl) trivial)⟩,fun hl=>⟨rfl,i,⟨i1,aa⟩,[(0,0),(1,1)],rfl,rfl,rfl,bk rfl rfl rfl (fun k hk=>bK rfl rfl) (bk rfl rfl rfl (fun k hk=>bK rfl rfl) trivial)⟩⟩
   by_cases hki:k<i
   ·rw[if_pos hki];exact bK rfl rfl
   ·obtain rfl:k=i:=aa
    rw[if_neg hki,Nat.sub_self];exact bK rfl rfl
  ·subst i2
   simp only[af.all,az]
   exact⟨.refl _,by show bg _ (.int .i64 (if _ then _ else _));rw[if_neg i1];exact .refl _,trivial⟩
 ·refine iW (r:=aM (wk d p) []) hT (O5 true d) hm KH rfl aZ rfl [1,1,1,1,1,1,1,1,1,0,1] (i:=0) (y:=part oE [1,1,1,1,1,1,1,1,1,0,1,0,0]) (z:=part oE [1,1,1,1,1,1,1,1,1,1]) ah ah ah (f1:=[14,26,35]) (f2:=[44]) (f3:=[]) 60 nQ 2
   (fun i:Nat=>rK (aJ p) (fB d p).length i) (fun i=>tL (fB d p) (mL d p) i) (fun i=>(aJ p).1≠0/\i<=(fB d p).length) (fun i=>(aJ p).1≠0/\i=(fB d p).length) (fun i=>(fB d p).length-i) (fun _=>⟨⟨_,abL hL,?_⟩,fun i ⟨i1,i2⟩=>⟨_,aan,?_⟩,fun i ⟨i1,i2⟩=>⟨_,XT,?_⟩⟩) K []
  ·unfold Ao pH
   simp only[af.all,az,beq_iff_eq,beq_eq_false_iff_ne,ne_eq,CQ]
   refine⟨⟨eF,hof⟩,fun h0=>?_,fun h0=>?_⟩
   ·have h0:(aJ p).1=0:=aa
    refine⟨[nil,int i64 3],ah,?_⟩
    have e:fB d p=[]:=if_pos h0
    have er:wk d p=.tuple [.ak 7 0 (jj [] (mL d p)),.int .i64 3]:=by
     show AV.tuple _=_
     rw[e,if_pos h0];rfl
    rw[er]
    exact⟨lS (by decide),.refl _,trivial⟩
   ·have h0:(aJ p).1≠0:=aa
    obtain⟨k1,k2,k3,k4,k5,k6,k7,k8⟩:=hall h0
    have e:=eL h0
    have e7:=k7
    rw[e,List.length_append,List.length_append]at e7
    have lL:L.length<2^30:=aa
    refine⟨⟨eF,k1⟩,⟨aa,aa,aa⟩,⟨aa,hrd,aa,hN2,Nat.succ_pos _,k2,k3,hE⟩,⟨eF,aa,aa,k4,aa⟩,fun z0=>?_,fun z0=>?_⟩
    ·refine⟨⟨aa,aa⟩,⟨aa,eF,hN,aa,k5,aa⟩,fun z1=>?_,fun z1=>?_⟩
     ·rw[if_pos z0,if_pos z1]at e
      refine⟨⟨aa,hN2,hz1,aa,aa⟩,0,⟨h0,Nat.zero_le _⟩,sB rfl (by rw[e];simp;omega) fun i hi=>?_⟩
      rw[e]at hi ⊢
      have hi:i<1+L.length+1:=by simp at hi;omega
      have hlen:([((0:Rat),(0:Rat))]++L).length=1+L.length:=by simp;omega
      unfold cu
      rw[sx,hlen]
      by_cases hi1:i<1+L.length
      ·rw[if_pos hi1,if_pos hi1,Om]
       by_cases hi2:i<1
       ·rw[if_pos hi2,if_pos hi2]
        obtain rfl:i=0:=aa
        exact C9
       ·rw[if_neg hi2,if_neg hi2];exact vw rfl
      ·rw[if_neg hi1,if_neg hi1,show i-(1+L.length)=0 by omega]
       exact bK rfl rfl
     ·rw[if_pos z0,if_neg z1,List.append_nil]at e
      refine⟨0,⟨h0,Nat.zero_le _⟩,sB rfl (by rw[e];simp;omega) fun i hi=>?_⟩
      rw[e]at hi ⊢
      unfold cu
      rw[Om]
      by_cases hi2:i<1
      ·rw[if_pos hi2,if_pos hi2]
       obtain rfl:i=0:=aa
       exact C9
      ·rw[if_neg hi2,if_neg hi2];exact vw rfl
    ·refine⟨⟨aa,eF,hN,aa,k5,aa⟩,fun z1=>?_,fun z1=>?_⟩
     ·rw[if_neg z0,if_pos z1,List.nil_append]at e
      refine⟨⟨aa,hN2,hz1,aa,aa⟩,0,⟨h0,Nat.zero_le _⟩,sB rfl (by rw[e];simp) fun i hi=>?_⟩
      rw[e]at hi ⊢
      have hi:i<L.length+1:=by simpa using hi
      unfold cu
      rw[sx]
      by_cases hi1:i<L.length
      ·rw[if_pos hi1,if_pos hi1];exact vw rfl
      ·rw[if_neg hi1,if_neg hi1,show i-L.length=0 by omega];exact bK rfl rfl
     ·rw[if_neg z0,if_neg z1,List.nil_append,List.append_nil]at e
      refine⟨0,⟨h0,Nat.zero_le _⟩,sB rfl (by rw[e]) fun i hi=>?_⟩
      rw[e];exact vw rfl
  ·obtain⟨k1,k2,k3,k4,k5,k6,k7,k8⟩:=hall i1
   simp only[af.all,az,bD,bI,bG,Nat.add_zero]
   refine⟨fun hl=>⟨⟨⟨aa,aa⟩,aa,⟨aa,aa⟩,aa,eF,.refl _,.refl _,k8 i aa,aa,aa⟩,aa,i+1,⟨i1,aa⟩,by dsimp only;omega,[(0,0),(1,69634)],rfl,by rw[show(i:Int)+1=((i+1:Nat):Int) by omega];rfl,rfl,bk rfl rfl rfl (fun k hk=>?_) (bk rfl rfl rfl (fun k hk=>bK rfl rfl) trivial)⟩,fun hl=>⟨rfl,i,⟨i1,aa⟩,[(0,0),(1,1)],rfl,rfl,rfl,bk rfl rfl rfl (fun k hk=>bK rfl rfl) (bk rfl rfl rfl (fun k hk=>bK rfl rfl) trivial)⟩⟩
   by_cases hki:k<i
   ·rw[if_pos hki];exact bK rfl rfl
   ·obtain rfl:k=i:=aa
    rw[if_neg hki,Nat.sub_self];exact bK rfl rfl
  ·subst i2
   simp only[af.all,az]
   exact⟨.refl _,by show bg _ (.int .i64 (if _ then _ else _));rw[if_neg i1];exact .refl _,trivial⟩
def OJ (d:Nat):Spec:=en (kC (kL ag) kN) (fun a=>wk d a.1) fun a=>[Cj d a.1]
theorem ZB (d:Nat):bf P (OJ d) 19:=dO fun⟨_,_⟩ K hn=>ag7 hn K
abbrev AF (a:(Rat×Rat)×Int):AV:=.agg [fJ a.1.1 a.1.2 ag,.int .i64 a.2]
def ri:AV->(Rat×Rat)×Int
 |.agg [.agg [x,y],.int .i64 t]=>((aQ x,aQ y),t)
 |_=>((0,0),0)
def qH:Kind (Nat×(Nat->(Rat×Rat)×Int)):=⟨fun v=>match v with
 |.ak 7 n f=>some ((n,fun i=>ri (f i)),[∀i,i<n->bg (f i) (AF (ri (f i)))])
 |_=>none,fun a=>.ak 7 a.1 fun i=>AF (a.2 i),fun {v a q} h hq=>by
  split at h
  ·simp only[ay,Prod.mk.injEq]at h
   obtain⟨rfl,rfl⟩:=h
   exact ir hq
  ·simp at h⟩
def xL (a b:Rat×Rat):Bool:=decide (a.1=b.1/\a.2=b.2)
def Pj:Spec:=en (kC (Ak ag) (kC (Ak ag) kN)) (fun a=>.bool (xL a.1 a.2.1)) fun _=>[]
def Bt:bz:=nG::(79,Pj)::[]
abbrev yz:Code:=aI f20
abbrev xO:List Nat:=[0,1,4,5]
abbrev DV (n m:Nat) (f g:Nat->(Rat×Rat)×Int) (i:Nat):List AV:=[qH.make (n,f),qH.make (m,g),.bool false,.int .i64 i]
def v8 (n:Nat) (f:Nat->(Rat×Rat)×Int) (m:Nat) (g:Nat->(Rat×Rat)×Int):Bool:=decide (n=m/\∀i,i<n->f i=g i)
def OS:Spec:=en (kC qH (kC qH kN)) (fun a=>.bool (v8 a.1.1 a.1.2 a.2.1.1 a.2.1.2)) fun a=>[a.1.1<2^40,a.2.1.1<2^40]
theorem afL:br 79 f79:=bu func79
theorem WW {x y z w:Rat}:cB T iK [10] 60 f79 (aI f79) ⟨aU 0 [fJ x y ag,fJ z w ag],[],0⟩=
  let c3:Bool:=decide (x=z);let c2:Prop:=0<1;let c1:Prop:=ag<2^41;some (fork c3 (aj [c2,c2,c1,c1,c3=true,c2,c2,c1,c1] (leaf ret [AV.bool (bif true then decide (y=w)else false)])) (aj [c2,c2,c1,c1,c3=false] (leaf ret [AV.bool false]))):=ah
theorem adQ:br 20 f20:=bu func20
theorem acR {n m:Nat} {f g:Nat->(Rat×Rat)×Int}:aH T Bt [10] 60 xO (before yz [1,1,0,1]) ⟨aU 0 [qH.make (n,f),qH.make (m,g)],[],0⟩=
  let c2:AV:=ak 7 m fun i=>agg [agg [rat (g i).fst.fst ag,rat (g i).fst.snd ag],int i64 (g i).snd];let c1:AV:=ak 7 n fun i=>agg [agg [rat (f i).fst.fst ag,rat (f i).fst.snd ag],int i64 (f i).snd];some (fork ((↑n:Int)!=(↑m:Int)) (leaf ret ([c1,c2,AV.bool false,tuple []],[])) (leaf normal ([c1,c2,AV.bool false,int i64 0],[]))):=ah
theorem ac9 {n m i:Nat} {f g:Nat->(Rat×Rat)×Int}:aH T Bt [14,28,41] 60 xO [part yz [1,1,0,1,0,0]] ⟨aB xO (DV n m f g i),[],0⟩=
  let c7:Int:=(↑i:Int);let c5:AV:=ak 7 m fun i=>agg [agg [rat (g i).fst.fst ag,rat (g i).fst.snd ag],int i64 (g i).snd];let c4:AV:=ak 7 n fun i=>agg [agg [rat (f i).fst.fst ag,rat (f i).fst.snd ag],int i64 (f i).snd];let c13:Int:=c7+1;let c6:Prop:=(0:Int)<=c7;let c3:Nat:=c7.toNat;let c1:List AV×aE:=([c4,c5,AV.bool false,int i64 c7],[]);let c12:AV:=rat (g c3).fst.fst ag;let c11:AV:=rat (f c3).fst.fst ag;let c10:AV:=rat (f c3).fst.snd ag;let c9:AV:=rat (g c3).fst.snd ag;let c8:Bool:=(f c3).snd !=(g c3).snd;let c2:af (List AV×aE):=aj [-(2:Int)^63<=c13/\c13<2^63] (leaf normal ([c4,c5,AV.bool false,int i64 c13],[]));some (fork (decide (c7<(↑n:Int))) (fork c8 (aj [c6/\c3<n,c6/\c3<m,c8=true] (fork true (leaf ret c1) c2)) (aj [c6/\c3<n,c6/\c3<m,c8=false,c6/\c3<n,c6/\c3<m,bg c11 (rat (aQ c11) ag),bg c10 (rat (aQ c10) ag),bg c12 (rat (aQ c12) ag),bg c9 (rat (aQ c9) ag)] (fork (bif false then true else !xL (aQ c11,aQ c10) (aQ c12,aQ c9)) (leaf ret c1) c2))) (leaf (exit 0) c1)):=ah
theorem ahu {n m i:Nat} {f g:Nat->(Rat×Rat)×Int}:cR T Bt [] 60 f20 [part yz [1,1,1]] ⟨aB xO (DV n m f g i),[],0⟩=
  some (leaf ret [AV.bool true]):=ah
theorem acP:bf P Pj 79:=dO fun⟨⟨x,y⟩,⟨z,w⟩,_⟩ K _=>by
 have hW:=cY
 refine cF hT iP hm afL rfl aZ rfl 60 WW (fun _=>?_) K []
 simp only[af.all,az,bD,bI,cond_true]
 refine⟨fun h=>⟨⟨aa,aa,aa,aa,h,aa,aa,aa,aa⟩,jS ?_⟩,fun h=>⟨⟨aa,aa,aa,aa,h⟩,jS ?_⟩⟩
 ·show decide (y=w)=decide (x=z/\y=w)
  by_cases h2:y=w
  ·rw[decide_eq_true h2,decide_eq_true ⟨h,h2⟩]
  ·rw[decide_eq_false h2,decide_eq_false fun h3=>h2 h3.2]
 ·exact(decide_eq_false fun h3:x=z/\y=w=>h h3.1).symm
theorem TF:bU P Bt:=jq (aL acP cG)
theorem RZ {n m:Nat} {f g:Nat->(Rat×Rat)×Int} (hn:n<2^40) (hm2:m<2^40) (K:Nat):aS P 20 K [qH.make (n,f),qH.make (m,g)] [] (aM (.bool (v8 n f m g)) []):=by
 refine iW (r:=aM (.bool (v8 n f m g)) []) hT TF hm adQ rfl aZ rfl [1,1,0,1] (i:=0) (y:=part yz [1,1,0,1,0,0]) (z:=part yz [1,1,1]) ah ah ah (f1:=[10]) (f2:=[14,28,41]) (f3:=[]) 60 xO 0
  (fun i:Nat=>DV n m f g i) (fun _=>[]) (fun i=>i<=n/\n=m/\∀j,j<i->f j=g j) (fun i=>i=n/\n=m/\∀j,j<i->f j=g j) (fun i=>n-i) (fun _=>⟨⟨_,acR,?_⟩,fun i ⟨h1,h2,h3⟩=>⟨_,ac9,?_⟩,fun i ⟨h1,h2,h3⟩=>⟨_,ahu,?_⟩⟩) K []
 ·simp only[af.all,bne_iff_ne,ne_eq,bne_eq_false_iff_eq]
  exact⟨fun h=>⟨[.bool false],ah,jS (decide_eq_false (fun hh=>h aa)).symm⟩,fun h=>⟨0,⟨aa,aa,fun j hj=>aa⟩,.vals rfl⟩⟩
 ·simp only[af.all,az,bD,bI,bG,bne_iff_ne,ne_eq,bne_eq_false_iff_eq,cond_false,Bool.not_eq_true',Bool.not_eq_false']
  have no:¬(f i=g i)->i<n->gJ [.bool false] (.bool (v8 n f m g)):=fun h hi=>jS (decide_eq_false (fun hh=>h (hh.2 i hi))).symm
  have st:f i=g i->∀j,j<i+1->f j=g j:=fun h j hj=>by
   by_cases hj2:j=i
   ·subst hj2;exact h
   ·exact h3 j aa
  refine⟨fun h=>⟨fun hb=>⟨⟨⟨aa,aa⟩,⟨aa,aa⟩,hb⟩,fun _=>⟨[.bool false],ah,no (fun e=>hb (by rw[e])) aa⟩,fun h=>by cases h⟩,fun hb=>⟨⟨⟨aa,aa⟩,⟨aa,aa⟩,hb,⟨aa,aa⟩,⟨aa,aa⟩,.refl _,.refl _,.refl _,.refl _⟩,fun hc=>⟨[.bool false],ah,no (fun e=>?_) aa⟩,fun hc=>⟨aa,i+1,⟨aa,h2,st ?_⟩,by dsimp only;omega,.vals rfl⟩⟩⟩,fun h=>⟨rfl,i,⟨aa,h2,h3⟩,.vals rfl⟩⟩
  ·have:xL (f i).1 (g i).1=true:=by rw[e];exact decide_eq_true ⟨rfl,rfl⟩
   rw[show xL (f i).1 (g i).1=false from hc]at this;cases this
  ·have hc:(f i).1.1=(g i).1.1/\(f i).1.2=(g i).1.2:=of_decide_eq_true (show xL (f i).1 (g i).1=true from hc)
   exact Prod.ext (Prod.ext hc.1 hc.2) hb
 ·subst h1
  exact jS (decide_eq_true ⟨h2,h3⟩).symm
theorem aeL:bf P OS 20:=dO fun⟨⟨_,_⟩,⟨_,_⟩,_⟩ K hn=>RZ hn.1 hn.2 K
theorem qf {c:PP} (h:dD c):∀j,dD (cA c j)
 |0=>h
 |j+1=>(qf h j).gcd
theorem Gl {c:PP}:∀j,cA c (j+1)=eH c j
 |0=>rfl
 |j+1=>by show bR (cA c (j+1)) (aW (cA c (j+1)))=bR (eH c j) (aW (eH c j));rw[Gl j]
theorem Dy.sz {z:Rat} (hz:Dy z):Sz z ag:=by
 obtain⟨j,h1,h2⟩:=hz
 have hD:=pC
 have hW:=cY
 exact(h2.sz (by have:=Nat.pow_pos (n:=j) (show 0<2 by decide);omega) (e:=j) (by rw[Int.natAbs_natCast];exact Nat.le_refl _)).more aa
theorem ac7 {a:PP} {s τ:Nat} {T:Int} {t:Rat} (h:Bd a s) (ht:cj T τ t) (hT:T.natAbs<=2^τ) (hT0:T≠0) (hl:a.1<=13) (hs:2*(s+13*(τ+1))+2<=ag):g9 a t:=by
 obtain⟨D,d1,d2,d3⟩:=h
 intro m hm
 have h1:=Gd d3 ht hT m hm
 have h2:=mI d2 (yw hT m)
 have h3:m*(τ+1)<=13*(τ+1):=Nat.mul_le_mul_right _ aa
 have h4:m*τ<=13*(τ+1):=Nat.mul_le_mul aa aa
 exact((h1.more (show s+m*(τ+1)<=s+13*(τ+1) by omega)).sz (Int.mul_ne_zero d1 (Int.pow_ne_zero hT0)) (Nat.le_trans h2 (Nat.pow_le_pow_right (by decide) (show s+m*τ<=s+13*(τ+1) by omega)))).more aa
theorem Dy.va {c:PP} (h:dD c) {z:Rat} (hz:Dy z):g9 c z:=by
 obtain⟨j,h1,h2⟩:=hz
 have hD:=pC
 have hW:=cY
 exact ac7 h.bd h2 (by rw[Int.natAbs_natCast];exact Nat.le_refl _) (by have:=Nat.pow_pos (n:=j) (show 0<2 by decide);omega) h.len aa
theorem aai {c:PP} (h:dD c):cN (c.1-1) (cO c.2)/\tY c (aW c):=⟨(wG h).2.2.2.2.1,((wG h).2.2.2.2.2 (by have:=h.p0;omega)).1⟩
theorem ace {c:PP} (h:dD c) {x y:Rat} (hx:Dy x) (hy:Dy y) (hxy:x<=y):uM c x y:=by
 refine⟨by have:=h.len;omega,hxy,fun j _=>?_⟩
 have hj:=qf h j
 have hs:=Ap hj
 exact⟨hj.tr,by have:=hj.len;omega,hx.va hj,(A6 hj).2,aa,hx.ch hj,hy.ch hj,aai hj⟩
theorem wX {c:PP} (h:dD c) {x:Rat}:cE (bS c 0) x=0↔cE c x=0:=by
 rw[show cE (bS c 0) x=aC (bh c) x from pD,show cE c x=aC c x from pD]
 constructor
 ·intro h0
  obtain⟨G,e,_,_,h1,_⟩:=rH h.tr h.p0
  rw[h1,h0,Rat.mul_zero]
 ·exact abP h.tr h.p0
theorem acs {c:PP} (h:dD c) {x y:Rat}:oJ (b7 c) (bS c) x y=fN c x y:=by
 unfold oJ fN
 split
 ·exact decide_eq_decide.2 (wX h)
 ·rw[tO]
  have:=h.pz.Ai x y
  exact decide_eq_decide.2 ⟨fun h=>aa,fun h=>aa⟩
theorem RK {c d:PP} (hc:dD c) (hd:dD d) (hv:Dv d c) {x y:Rat} (h:fN d x y=true):fN c x y=true:=by
 unfold fN at h ⊢
 split at h
 ·rename_i e
  rw[if_pos e]
  have h:=of_decide_eq_true h
  obtain⟨w,hw⟩:=hv
  refine decide_eq_true ?_
  rw[pD]at h ⊢
  show aC c x=0
  rw[hw,show aC d x=0 from h,Rat.zero_mul]
 ·rename_i e
  rw[if_neg e]
  have h:=of_decide_eq_true h
  refine decide_eq_true ?_
  rw[tO]at h ⊢
  have h1:=hd.pz.Ai x y
  have h2:=Vg hc.pz hd.pz (Us hc.tr hc.p0 hd.tr hd.p0 hv) x y
  omega
theorem Mq {c:PP} (hc:dD c) {x y:Rat} (h:fN c x y=true):1<c.1:=by
 refine Decidable.byContradiction fun hn=>?_
 have h1:c.1=1:=by have:=hc.p0;omega
 have hev:∀t,aC c t=c.2 0:=fun t=>by
  show ev c.1 c.2 t=_
  rw[h1]
  show 0+c.2 0*t^0=_
  rw[Rat.pow_zero];grind
 have hne:c.2 0≠0:=by
  rcases hc.tr with h2|h2
  ·omega
  ·rw[h1]at h2;exact h2
 have hf:∀t,aC (bh c) t≠0:=fun t h0=>by
  obtain⟨G,e,_,_,h2,_⟩:=rH hc.tr hc.p0
  have:=h2 t
  rw[hev,h0,Rat.mul_zero]at this
  exact hne this
 unfold fN at h
 split at h
 ·have h:=of_decide_eq_true h
  rw[pD,show ev c.1 c.2 x=aC c x from rfl,hev]at h
  exact hne h
 ·have h:=of_decide_eq_true h
  rw[tO]at h
  apply h
  have hk:cV c=0:=by
   have hl:=(bh c).1
   have:=(mY (s:=dQ c) mq.1 mq.2).1
   have h2:(dQ c).2.1<=(bh c).1-1:=fE
   obtain⟨G,e,_,_,h3,_⟩:=rH hc.tr hc.p0
   have h4:=Dv.len (h:=bh c) (g:=c) ⟨G,fun t=>by rw[h3,Rat.mul_comm]⟩ hc.p0 hc.tr kn
   have h5:cV c=eV (dQ c):=rfl
   omega
  unfold bt
  split
  ·rfl
  ·rw[if_neg (hf y)]
   unfold mV
   rw[hk]
   unfold vr
   rw[lz,lz]
   simp[bW]
theorem AP {c:PP} (hc:dD c):∀e {x y:Rat},x<y->∀s,s∈bC (b7 c) (bS c) e x y->s.1<=s.2/\fN c s.1 s.2=true/\x<=s.1/\s.2<=y
 |0,_,_,_=>fun s hs=>by cases hs
 |e+1,x,y,hxy=>fun s hs=>by
  unfold bC at hs
  obtain⟨m1,m2,_⟩:=Hl hxy
  have pt:cE (bS c 0) (aY x y)=0->fN c (aY x y) (aY x y)=true:=fun h=>by
   unfold fN;rw[if_pos rfl];exact decide_eq_true ((wX hc).1 h)
  split at hs
  ·cases hs
  ·split at hs
   ·rename_i h1
    rw[List.mem_singleton,show jc x y=x from if_neg (by grind),show jf x y=y from if_pos hxy]at hs
    subst hs
    refine⟨Rat.le_of_lt hxy,?_,Rat.le_refl,Rat.le_refl⟩
    unfold fN
    rw[if_neg (by grind),h1];rfl
   ·rcases List.mem_append.1 hs with hs|hs
    ·obtain⟨a,b,c1,d⟩:=AP hc e m1 s hs
     exact⟨a,b,c1,by grind⟩
    ·split at hs
     ·rename_i h2
      rcases List.mem_cons.1 hs with hs|hs
      ·subst hs
       exact⟨Rat.le_refl,pt h2,by grind,by grind⟩
      ·obtain⟨a,b,c1,d⟩:=AP hc e m2 s hs
       exact⟨a,b,by grind,d⟩
     ·obtain⟨a,b,c1,d⟩:=AP hc e m2 s hs
      exact⟨a,b,by grind,d⟩
theorem MA {c:PP} (hc:dD c) {s:Rat×Rat} (hs:s∈l5 cz (b7 c) (bS c)):s.1<=s.2/\fN c s.1 s.2=true:=by
 have pt:∀z,cE (bS c 0) z=0->fN c z z=true:=fun z h=>by unfold fN;rw[if_pos rfl];exact decide_eq_true ((wX hc).1 h)
 unfold l5 at hs
 rcases List.mem_append.1 hs with hs|hs
 ·rcases List.mem_append.1 hs with hs|hs
  ·split at hs
   ·rename_i h;rw[List.mem_singleton]at hs;subst hs;exact⟨Rat.le_refl,pt _ h⟩
   ·cases hs
  ·have:=AP hc cz (show(0:Rat)<1 by decide) s hs
   exact⟨this.1,this.2.1⟩
 ·split at hs
  ·rename_i h;rw[List.mem_singleton]at hs;subst hs;exact⟨Rat.le_refl,pt _ h⟩
  ·cases hs
theorem Ci {p:PP} (hg:(aJ p).1≠0->dD (aJ p)):fB cz p=fk cz p:=by
 have o1:((1:Int):Rat)=1:=rfl
 unfold fB fk l5
 by_cases h0:(aJ p).1=0
 ·rw[if_pos h0,if_pos h0]
 ·have hc:=hg h0
  rw[if_neg h0,if_neg h0,o1]
  have e:∀z:Rat,(if cE (aJ p) z=0 then [(z,z)]else [])=if cE (bS (aJ p) 0) z=0 then [(z,z)]else []:=fun z=>by
   by_cases h:cE (aJ p) z=0
   ·rw[if_pos h,if_pos ((wX hc).2 h)]
   ·rw[if_neg h,if_neg fun h2=>h ((wX hc).1 h2)]
  rw[e,e]
theorem P3 {c:PP} (hc:dD c) {x y:Rat}:∀f j,(cA c j).1<=f->j<=iq c x y f j/\(∀i,j<=i->i<iq c x y f j->fN (cA c i) x y=true)/\¬(1<(cA c (iq c x y f j)).1/\fN (cA c (iq c x y f j)) x y=true)
 |0,j,h=>⟨aT,fun i h1 h2=>by have:i<j:=h2;omega,fun h2=>by have:1<(cA c j).1:=h2.1;omega⟩
 |f+1,j,h=>by
  by_cases hh:1<(cA c j).1/\fN (cA c j) x y=true
  ·have e:iq c x y (f+1) j=iq c x y f (j+1):=by
    conv=>lhs;unfold iq
    rw[if_pos hh.1,if_pos hh.2]
   have hgl:=Hh (qf hc j).tr hh.1
   obtain⟨a,b,d⟩:=P3 hc (x:=x) (y:=y) f (j+1) (by show(bR _ _).1<=f;omega)
   rw[e]
   refine⟨aa,fun i h1 h2=>?_,d⟩
   rcases Nat.eq_or_lt_of_le h1 with h3|h3
   ·rw[<-h3];exact hh.2
   ·exact b i h3 h2
  ·rw[Mi hh]
   exact⟨aT,fun i h1 h2=>aa,hh⟩
theorem agv {c:PP} (hc:dD c) (j:Nat):Dv (cA c (j+1)) (cA c j):=by
 show Dv (bR (cA c j) (aW (cA c j))) (cA c j)
 exact(rR (qf hc j).tr dI).1
theorem Tl {c:PP} (hc:dD c) {x y:Rat} (j:Nat) (h:fN (cA c (j+1)) x y=true):fN (cA c j) x y=true:=RK (qf hc j) (qf hc (j+1)) (agv hc j) h
theorem ab0 {c:PP} (hc:dD c) {x y:Rat} {i:Nat} (m:Nat) (h:fN (cA c (i+m)) x y=true):fN (cA c i) x y=true:=by
 induction m with
 |zero=>exact h
 |succ m ih=>exact ih (Tl hc (i+m) h)
theorem SR {c:PP} (hc:dD c) {l:List (Rat×Rat)} {i:Nat} (h0:fN c (bO l i).1 (bO l i).2=true):kg c l (kD c c.1 0) i=iq c (bO l i).1 (bO l i).2 c.1 0:=by
 obtain⟨J,hJ⟩:∃J,J=iq c (bO l i).1 (bO l i).2 c.1 0:=⟨_,rfl⟩
 obtain⟨_,j2,j3⟩:=P3 hc (x:=(bO l i).1) (y:=(bO l i).2) c.1 0 aT
 rw[<-hJ]at j2 j3 ⊢
 have j3:fN (cA c J) (bO l i).1 (bO l i).2≠true:=fun h=>j3 ⟨Mq (qf hc J) h,h⟩
 have hJ1:1<=J:=by
  refine Decidable.byContradiction fun hn=>j3 ?_
  rw[show J=0 by omega];exact h0
 have iff:∀k,fN (cA c k) (bO l i).1 (bO l i).2=true↔k<J:=fun k=>by
  constructor
  ·intro h
   refine Decidable.byContradiction fun hn=>j3 ?_
   exact ab0 hc (k-J) (by rw[show J+(k-J)=k by omega];exact h)
  ·exact fun h=>j2 k (Nat.zero_le _) h
 have cnt:∀k,kg c l k i=1+min k (J-1):=by
  intro k
  induction k with
  |zero=>show 1=_;rw[Nat.zero_min]
  |succ k ih=>
   have e:oJ (b7 (eH c k)) (bS (eH c k)) (bO l i).1 (bO l i).2=fN (cA c (k+1)) (bO l i).1 (bO l i).2:=by rw[Gl];exact acs (GK hc k)
   show(if oJ (b7 (eH c k)) (bS (eH c k)) (bO l i).1 (bO l i).2=true then _ else _)=_
   rw[e,ih]
   by_cases h:k+1<J
   ·rw[if_pos ((iff _).2 h)];omega
   ·rw[if_neg fun h2=>h ((iff _).1 h2)];omega
 rw[cnt]
 have hN:J-1<=kD c c.1 0:=by
  obtain⟨n1,_,_⟩:=Ex hc.tr c.1 0 (BP hc.tr 0)
  refine Decidable.byContradiction fun hn=>?_
  have h1:=(iff (J-1)).2 aa
  have h2:=Mq (qf hc (J-1)) h1
  rw[show J-1=(J-2)+1 by omega,Gl]at h2
  have mono:∀m,(eH c (kD c c.1 0+m)).1<=1:=by
   intro m
   induction m with
   |zero=>exact n1
   |succ m ih=>exact Nat.le_trans (ya (s9 hc.tr _)) ih
  have:=mono (J-2-kD c c.1 0)
  rw[show kD c c.1 0+(J-2-kD c c.1 0)=J-2 by omega]at this
  omega
 omega
theorem aci {p:PP} (hof:mJ p) (hg:(aJ p).1≠0->dD (aJ p)):Cj cz p:=by
 refine⟨hof,fun h0=>?_⟩
 have hc:=hg h0
 have hs:=Ap hc
 have o1:((1:Int):Rat)=1:=rfl
 have e:fB cz p=l5 cz (b7 (aJ p)) (bS (aJ p)):=by rw[Ci hg];exact if_neg h0
 rw[e,o1]
 have hl:=HL hc
 refine⟨(A6 hc).2,aa,D0 hc cz 0 0 1 (Nat.zero_add _) (by have:=pC;omega) ju.zero,CN.va hc,Bf.va hc,by have:=hc.len;omega,aa,fun i hi=>?_⟩
 obtain⟨a,b⟩:=Ic (BG hi)
 exact ace hc a b (MA hc (BG hi)).1
theorem ahC {p:PP} (hg:(aJ p).1≠0->dD (aJ p)) {i:Nat} (hi:i<(fk cz p).length):kJ cz p i=mL cz p i:=by
 unfold kJ mL
 rw[Ci hg]
 by_cases h0:(aJ p).1=0
 ·rw[show fk cz p=[]from if_pos h0]at hi;exact absurd hi (Nat.not_lt_zero _)
 ·have hc:=hg h0
  have e:fk cz p=l5 cz (b7 (aJ p)) (bS (aJ p)):=if_neg h0
  refine SR hc ?_
  have hm:=BG hi
  rw[e]at hm ⊢
  exact(MA hc hm).2
end Go.Am.B
