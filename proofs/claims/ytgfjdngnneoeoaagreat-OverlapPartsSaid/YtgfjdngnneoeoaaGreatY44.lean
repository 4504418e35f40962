/- The common part of two segments in the other order; the points of a line. -/
import Derived.Test.YtgfjdngnneoeoaaGreatY42
import Derived.Test.YtgfjdngnneoeoaaGreatZ2
set_option linter.unusedVariables false
noncomputable section
namespace Go.Am.B
open Go Go.Am.N AV ag aq IntKind Proofs.Tryz
def gi (c:Cu) (t:Rat):V3:=iU (c.f 0).n (fZ ((t-c.k 0)/(c.k 3-c.k 0)) (bV (c.f 1).n (c.f 0).n))
def jG (c:Cu):Prop:=er c/\c.k 0=c.k 1/\c.k 2=c.k 3/\c.k 0<c.k 3/\(c.f 0).d=1/\(c.f 1).d=1
def MH:Spec:=cF (kC (gk 1000 1000) (kC (dQ iI) kN)) (fun a=>.tuple [vA (gi a.1 a.2.1) sE,.int .i64 0]) fun a=>[jG a.1,a.1.k 0<=a.2.1,a.2.1<=a.1.k 3,Sz a.2.1 sK]
theorem jG.kn {c:Cu} (h:jG c):Kn c.n c.p.toNat c.k:=by
 obtain⟨⟨h1,h2,h3⟩,h4,h5,h6,_⟩:=h
 rw[h1,h2]
 refine⟨aR,aR,fun i hi=>?_,fun i hi=>?_,fun i hi hi2=>?_,fun i hi hi2=>?_⟩
 ·match i,hi with
  |0,_=>rw[h4];exact Rat.le_refl
  |1,_=>show c.k 1<=c.k 2;rw[h5,<-h4];exact Rat.le_of_lt h6
  |2,_=>rw[h5];exact Rat.le_refl
 ·match i,hi with
  |0,_=>rfl
  |1,_=>exact h4.symm
 ·have hi:4<=i+1+1:=hi
  match i,hi,hi2 with
  |2,_,_=>exact h5
  |3,_,_=>rfl
 ·have hi2:i+1+1<4:=hi2
  obtain rfl:i=1:=aa
  show c.k 1<c.k 2
  rw[h5,<-h4];exact h6
theorem jG.bY {c:Cu} (h:jG c) {t:Rat} (ht:c.k 0<=t):bY c.n c.k t=1:=by
 obtain⟨⟨h1,h2,h3⟩,h4,h5,h6,_⟩:=h
 rw[h2]
 have e1:c.k 1<c.k 2:=by rw[h5,<-h4];exact h6
 have e2:c.k 1<=t:=by rw[<-h4];exact ht
 have e3:¬c.k 2<c.k 3:=by rw[h5];grind
 unfold Go.Am.B.bY
 simp[k7,e1,e2,e3]
theorem jG.ev {c:Cu} (h:jG c) {t:Rat} (ht:c.k 0<=t) (ht2:t<=c.k 3):rK c t=gi c t/\g9 c.n c.k t=0:=by
 have hi:=h.bY ht
 obtain⟨⟨h1,h2,h3⟩,h4,h5,h6,h7,h8⟩:=h
 have ho:¬fk c.n c.k t:=by
  unfold fk
  rw[h2,show 4-1=3 from rfl]
  rintro(g|g)<;>grind
 refine⟨?_,if_neg ho⟩
 unfold rK
 rw[if_neg ho]
 unfold rQ
 rw[hi,h1]
 have v0:vB c.k 1 t 1 0=1-(t-c.k 0)/(c.k 3-c.k 0):=by
  simp[vB,fr,<-h4,h5,Rat.zero_add,Rat.add_zero,Rat.one_mul,Rat.mul_one]
 have v1:vB c.k 1 t 1 1=(t-c.k 0)/(c.k 3-c.k 0):=by
  simp[vB,fr,<-h4,h5,Rat.zero_add,Rat.add_zero,Rat.one_mul,Rat.mul_one]
 unfold gi
 generalize (t-c.k 0)/(c.k 3-c.k 0)=s at*
 show tR (tw c (vB c.k 1 t 1) 0 2)=_
 have hs:tw c (vB c.k 1 t 1) 0 2=⟨iU (c.f 0).n (fZ s (bV (c.f 1).n (c.f 0).n)),1⟩:=by
  unfold tw
  simp only[nh,Nat.zero_add,v0,v1,h7,h8,iU,fZ,bV]
  refine congr (congrArg Pl.mk (lN ?_ ?_ ?_)) ?_<;>first|(dsimp only;grind)|grind
 rw[hs]
 unfold tR
 rw[show(((1:Int):Rat)/1)=1 by decide+kernel]
 exact lN (Rat.one_mul _) (Rat.one_mul _) (Rat.one_mul _)
theorem Yl {P:Program} {f:FuncId} {K:Nat} {args us vs:List AV} {l l':List Prop} (hf:aN P f K args [] ⟨.tuple us,[],l⟩) (hl:au l'->au l) (hk:bI us=[]) (hle:dA us vs):aN P f K args [] ⟨.tuple vs,[],l'⟩:=by
 intro need
 obtain⟨h1,h2⟩:=hf (hl need)
 refine⟨fun k o ho=>by simp[look]at ho,fun c D D' β w vs hw0 hMw hrel hD hK hv=>(h2 c D D' β w vs hw0 hMw hrel hD hK hv).mono ?_⟩
 rintro x w' ⟨β',g1,g2,xs,rfl,g3⟩
 exact⟨β',g1,g2,xs,rfl,(sw hle (g3.bt hk)).mono (fun b o h1 h2=>⟨h2,h1⟩) (β':=β') fun k x hx=>by simp[bt]at hx⟩
theorem agR:bf P MH 12:=cC fun⟨c,t,_⟩ K hn=>by
 obtain⟨hl,h1,h2,h3⟩:jG c/\c.k 0<=t/\t<=c.k 3/\Sz t sK:=hn
 obtain⟨e1,e2⟩:=hl.ev h1 h2
 have hk:=hl.kn
 obtain⟨⟨l1,l2,l3⟩,_⟩:=id hl
 have r1:bQ (fun i=>.rat (c.k i) sK) c.n sK:=cV aR
 have r3:ej (fun i=>aJ (c.f i) sK) c.m sK:=jt aR
 have hf:=Xh K [bk c sK sK,.rat t sK] [] _ rfl
 dsimp only
 refine eR (args':=[bk c sK sK,.rat t sK]) (Yl (us:=[vA (rK c t) sE,.int .i64 (g9 c.n c.k t)]) hf (fun _=>?_) rfl ?_) rfl (show dA [bk c 1000 1000,.rat t iI] [bk c sK sK,.rat t sK]from⟨?_,en rfl h3,trivial⟩) []
 ·simp only[List.nil_append,List.cons_append,List.append_nil,au]
  (repeat' with_reducible refine And.intro ?_ ?_)
  all_goals first|exact hk|exact r1|exact r3|(with_reducible exact Nat.le_refl _)|(show(0:Int)<=c.p;omega)|(show c.p<=6;omega)|(show c.n<2^40;omega)|(show(c.m:Int)=(c.n:Int)-c.p-1;omega)|(with_reducible exact bp.refl _)|exact trivial|skip
 ·rw[e1,e2];exact⟨.refl _,.refl _,trivial⟩
 ·exact cj ⟨.refl _,dB fun i _=>eE (by decide),dB fun i _=>cj ⟨cj ⟨eE (by decide),eE (by decide),eE (by decide),trivial⟩,eE (by decide),trivial⟩,trivial⟩
theorem Af {c d:Cu} (h1:iG c=true) (h2:iG d=true) (h3:iO (c.f 0).n (c.f 1).n (d.f 0).n=true) (h4:iO (c.f 0).n (c.f 1).n (d.f 1).n=true):
  ir c d≠hH c d/\hH d c=cI (hH c d) (ir c d) 0/\ir d c=cI (hH c d) (ir c d) 1/\iO (d.f 0).n (d.f 1).n (c.f 0).n=true/\iO (d.f 0).n (d.f 1).n (c.f 1).n=true:=
 PE (wV h1).2 (wV h2).2 h3 h4
theorem adY {c d:Cu} (h:kj c d=true):kj d c=true:=by
 unfold kj at*
 simp only[Bool.and_eq_true]at*
 obtain⟨h1,h2,h3,h4⟩:=h
 obtain⟨_,_,_,h5,h6⟩:=Af h1 h2 h3 h4
 exact⟨h2,h1,h5,h6⟩
theorem Hp {c d:Cu} (h:dO c d=true):dO d c=true:=by
 unfold dO at*
 rw[Bool.and_eq_true]at*
 obtain⟨hb,hx⟩:=h
 refine⟨adY hb,?_⟩
 unfold kj at hb
 simp only[Bool.and_eq_true]at hb
 obtain⟨h1,h2,h3,h4⟩:=hb
 obtain⟨hne,e1,e2,_⟩:=Af h1 h2 h3 h4
 have hc:=(IN hne).2.2
 rw[bz]at*
 unfold cW at*
 rw[e1,e2]
 exact hc.1 hx
theorem F3 {c d:Cu}:dO d c=dO c d:=by
 cases h:dO c d with
 |true=>exact Hp h
 |false=>
  cases g:dO d c with
  |true=>rw[Hp g]at h;exact h
  |false=>rfl
theorem L7 {c d:Cu} (hd:d.k 0<d.k 3):ic c d=e9 d c:=by
 unfold ic e9
 rw[F3 (c:=c) (d:=d)]
 cases h:dO c d with
 |false=>rfl
 |true=>
  rw[if_pos rfl,if_pos rfl]
  unfold dO at h
  rw[Bool.and_eq_true]at h
  obtain⟨hb,hx⟩:=h
  unfold kj at hb
  simp only[Bool.and_eq_true]at hb
  obtain⟨h1,h2,h3,h4⟩:=hb
  obtain⟨hne,e1,e2,_⟩:=Af h1 h2 h3 h4
  obtain⟨m1,m2,_⟩:=IN hne
  rw[Ao hd,Ao hd]
  unfold cW
  rw[e1,e2,m1,m2]
theorem XV:aX 51 f51:=aM func51
theorem YN:aX 14 f14:=aM func14
def kP2 (s:Nat):Kind (V3×V3):=⟨fun v=>match v with
 |.ak 9 2 f=>match(lF s).read (f 0),(lF s).read (f 1)with
  |some (a,q),some (b,p)=>some ((a,b),q++p)
  |_,_=>none
 |_=>none,fun a=>.ak 9 2 (fun i=>vA (if i=0 then a.1 else a.2) s),fun {v a q} h hq=>by
  split at h
  ·split at h
   ·rename_i h1 h2
    simp only[ax,Prod.mk.injEq]at h
    obtain⟨rfl,rfl⟩:=h
    obtain⟨q1,q2⟩:=dN.1 hq
    refine dB fun i hi=>?_
    match i,hi with
    |0,_=>exact(lF s).ok h1 q1
    |1,_=>exact(lF s).ok h2 q2
   ·simp at h
  ·simp at h⟩
def Cq:Spec:=cF (kC (kP2 1000) kN) (fun _=>.tuple [.agg [.agg [.rat 0 1,.rat 0 1,.rat 0 1],.rat 0 1],.bool false]) fun _=>[]
def Mb:Spec:=cF (kC (gk 1000 1000) kN) (fun _=>.bool true) fun a=>[er a.1]
def F2:aV:=sG::(103,HW dV dV dV Gx (b3 34))::oJ
def BY:aV:=sG::(52,cQ T (sG::oJ) [] 60 f52)::(51,Cq)::[]
theorem ag5 {f:Nat->V3}:bF T F2 [21,41] 60 f51 (aF f51) ⟨aS 0 [.ak 9 2 (fun i=>vA (f i) 1000)],[],0⟩=
  let c6:AV:=rat 0 1;let c2:Nat:=(i64.wrap ((0:Int)+1)).toNat;let c1:Nat:=Int.toNat (0:Int);let c9:Rat:=(f c1).x;let c8:Rat:=(f c1).y;let c7:Rat:=(f c1).z;let c5:V3:=f (c1+c2);let c3:ag (List AV):=aj [(0:Nat)<1] (leaf ret [agg [agg [c6,c6,c6],c6],AV.bool false]);let c4:V3:=V3.mk c9 c8 c7;some (fork (dY c4 c4) (fork (dY (V3.mk (f c2).x (f c2).y (f c2).z) c4) c3 c3) (fork (uk c4 c4 (V3.mk c5.x c5.y c5.z)==0) (aj [(0:Nat)<1] (leaf ret [agg [agg [rat ((c8-c8)*(c5.z-c7)-(c7-c7)*(c5.y-c8)) 27019,rat ((c7-c7)*(c5.x-c9)-(c9-c9)*(c5.z-c7)) 27019,rat ((c9-c9)*(c5.y-c8)-(c8-c8)*(c5.x-c9)) 27019],rat (dot (uM c4 c4 (V3.mk c5.x c5.y c5.z)) c4) 27019],AV.bool true])) c3)):=ah
theorem ac5 {k:Nat->Rat} {f:Nat->Pl}:bF T BY [] 60 f14 (aF f14) ⟨aS 0 [bk (aU k f) 1000 1000],[],0⟩=
  let c1:Prop:=1000<=1000;some (aj [(0:Nat)<1/\1*((168:Nat)+1)*2<=2^47,((1:Nat)+1)*((168:Nat)+1)*2<=2^47,c1,c1,c1,c1,c1,c1] (leaf ret [AV.bool true])):=ah
theorem ahA:bg P F2:=cB (aE (ada fun a b c K hn=>aeX a b c K (Wf hn)) pg)
theorem Y9 (h:∀K args pre r,Cq K args pre=some r->aN P 51 K args pre r):bg P BY:=cB (aE (cT hT (cB pg) hm (aM func52) _ _) (aE h bD))
theorem P6:bf P Cq 51:=cC fun⟨⟨a,b⟩,_⟩ K _=>by
 refine bM (r:=aH (.tuple [.agg [.agg [.rat 0 1,.rat 0 1,.rat 0 1],.rat 0 1],.bool false]) []) hT ahA hm XV rfl aW rfl 60 (ag5 (f:=fun i=>if i=0 then a else b)) (fun _=>?_) K []
 have hs:∀v:V3,dY v v=true:=fun v=>lX.2 rfl
 simp only[ag.all,au,hs,reduceCtorEq,false_implies,and_true,true_implies]
 exact⟨fun _=>⟨Nat.zero_lt_one,.refl _⟩,fun _=>⟨Nat.zero_lt_one,.refl _⟩⟩
theorem acu:bg P BY:=Y9 P6
theorem Pt:bf P Mb 14:=cC fun⟨c,_⟩ K hn=>by
 show aN P 14 K [bk c 1000 1000] [] _
 rw[pL (show er c from hn)]
 refine bM (r:=aH (.bool true) []) hT acu hm YN rfl aW rfl 60 ac5 (fun _=>?_) K []
 simp only[ag.all,au]
 (repeat' with_reducible refine And.intro ?_ ?_)
 all_goals first|omega|exact .refl _|exact trivial|exact Nat.le_refl _|skip
def Tj (s:Nat):Kind Mp:=⟨fun v=>match DD v with
 |some (a,q)=>some (a.1,(a.2<=s)::q)
 |none=>none,fun a=>mT a s,fun {v a q} h hq=>by
  split at h
  ·rename_i a q h1
   simp only[ax,Prod.mk.injEq]at h
   obtain⟨rfl,rfl⟩:=h
   obtain⟨q1,q2⟩:=(dN (a:=[_]) (b:=q)).1 hq
   exact(Qj h1 q2).trans (S9 rfl q1)
  ·simp at h⟩
def jd (r v:V3) (t:Rat):Rat:=0+r.x*v.x+r.y*v.y+r.z*v.z+t
def apM (m:Mp) (v:V3):V3:=⟨jd m.m.a v m.t.x,jd m.m.b v m.t.y,jd m.m.c v m.t.z⟩
def yg (m:Mp) (p:Pl):Pl:=⟨apM m p.n,p.d⟩
def CZ (m:Mp) (c:Cu):Cu:=⟨c.p,c.n,c.k,c.m,fun j=>yg m (c.f j)⟩
theorem ahk:aX 149 f149:=aM func149
abbrev yV (y m:Nat) (k:Nat->Rat):az:=⟨true,true,3,m,fun i=>.rat (k i) y⟩
abbrev vt:Code:=aF f149
abbrev wY:List Nat:=[3,9,10,11]
abbrev B6 (x n:Nat) (k:Nat->Rat) (i:Nat):List AV:=[.own 0 3 0 i,bq k n x,.int .i64 n,.int .i64 i]
def x4:aV:=nG::eV
theorem Pd {x n:Nat} {k:Nat->Rat}:aL T x4 [] 60 wY (before vt [1,1,0,1]) ⟨aS 0 [bq k n x],[],0⟩=
  let c1:Int:=(↑n:Int);some (aj [(0:Int)<=0/\(0:Int)<=c1/\c1<=2^47/\c1*(↑(56:Nat):Int)<=2^47] (leaf normal ([own 12288 3 0 0,ak 3 n fun i=>rat (k i) x,int i64 c1,int i64 0],[(12288,az.mk true true 3 0 fun x=>rat 0 1)]))):=ah
theorem TP {x y n i:Nat} {k:Nat->Rat}:aL T x4 [12] 60 wY [part vt [1,1,0,1,0,0]] ⟨aG wY (B6 x n k i),[(0,yV y i k)],1⟩=
  let c4:Int:=(↑n:Int);let c2:AV:=ak 3 n fun i=>rat (k i) x;let c1:Int:=(↑i:Int);let c3:Int:=c1+1;some (fork (decide (c1<c4)) (aj [(0:Int)<=c1/\c1.toNat<n,(0:Nat)<1] (aj [(0:Nat)<1,x<2^42,(1:Nat)<2^42,(1:Nat)*3<=2^24,(i+1)*((56:Nat)+1)*2<=2^47] (aj [-(2:Int)^63<=c3/\c3<2^63] (leaf normal ([own 40961 3 0 (i+1),c2,int i64 c4,int i64 c3],[(40961,az.mk true true 3 (i+1) fun i_1=>if i_1<i then rat (k i_1) y else nth [rat (k c1.toNat+0) (x+1+1)] (rat 0 1) (i_1-i+0))]))))) (leaf (exit 0) ([own 0 3 0 i,c2,int i64 c4,int i64 c1],[(0,az.mk true true 3 i fun i=>rat (k i) y)]))):=ah
theorem afD {x y n i:Nat} {k:Nat->Rat}:cP T x4 [] 60 f149 [part vt [1,1,1]] ⟨aG wY (B6 x n k i),[(0,yV y i k)],1⟩=
  some (leaf ret [ak 3 i fun i=>rat (k (i+0)) y]):=ah
theorem Z3:bg P x4:=eP fB
theorem YR {x y n:Nat} {k:Nat->Rat} (hxy:x+10<=y) (hy:y<2^40) (hn:n<2^40) (K:Nat):aN P 149 K [bq k n x] [] (aH (bq k n y) []):=by
 refine iu (r:=aH (bq k n y) []) hT Z3 hm ahk rfl aW rfl [1,1,0,1] (i:=0) (y:=part vt [1,1,0,1,0,0]) (z:=part vt [1,1,1]) ah ah ah (f1:=[]) (f2:=[12]) (f3:=[]) 60 wY 1
  (fun i:Nat=>B6 x n k i) (fun i=>[(0,yV y i k)]) (fun i=>i<=n) (fun i=>i=n) (fun i=>n-i) (fun _=>⟨⟨_,Pd,?_⟩,fun i hi=>⟨_,TP,?_⟩,fun i hi=>⟨_,afD,?_⟩⟩) K []
 ·simp only[ag.all,au]
  exact⟨aa,0,Nat.zero_le _,[(0,12288)],rfl,rfl,rfl,cJ rfl rfl rfl (fun i hi=>absurd hi (Nat.not_lt_zero i)) trivial⟩
 ·simp only[ag.all,au,bz,bG,br,Nat.add_zero]
  exact⟨fun h2=>⟨aa,aa,aa,i+1,aa,by dsimp only;omega,[(0,40961)],rfl,rfl,rfl,cJ rfl rfl rfl (fun j hj=>m8 (fun _ _=>rfl) (Rat.add_zero _) aR aa hj) trivial⟩,fun h2=>⟨rfl,i,aa,[(0,0)],rfl,rfl,rfl,cJ rfl rfl rfl (fun j hj=>eJ rfl rfl) trivial⟩⟩
 ·subst hi
  simp only[ag.all,au]
  exact tO rfl fun j hj=>rfl
def Du (x y:Nat):Spec:=cF (kC (kL x) kN) (fun a=>bq a.1.2 a.1.1 y) fun a=>[x+10<=y,y<2^40,a.1.1<2^40]
theorem NM (x y:Nat):bf P (Du x y) 149:=cC fun⟨⟨n,k⟩,_⟩ K hn=>YR hn.1 hn.2.1 hn.2.2 K
theorem XU:aX 110 f110:=aM func110
def CV:aV:=[(127,cQ T eV [] 60 f127),(76,cQ T eV [] 60 f76)]
def NF:aV:=[(166,cQ T CV [] 60 f166),(182,cQ T CV [] 60 f182)]
def Lk:aV:=[(150,cQ T NF [] 60 f150)]
def AK (x y:Nat):aV:=nG::(149,Du x y)::(Lk++eV)
abbrev vO:List Nat:=[3,4,5,15,16,17]
abbrev E2 (c:Cu) (r i:Nat):List AV:=[.ptr 1 0 36 0 [],.ptr 2 0 3 0 [],.ptr 3 0 3 0 [],pM c.f c.m r,.int .i64 c.m,.int .i64 i]
abbrev BZ (c:Cu) (m:Mp) (y w s i:Nat):aD:=[(4,⟨true,true,12,i,fun j=>aJ (yg m (c.f j)) w⟩),(3,⟨false,true,3,1,fun _=>.agg [.int .i64 c.p,bq c.k c.n y,.own 4 12 0 i]⟩),(2,⟨false,true,3,1,fun _=>.agg [.int .i64 0,.nil,.nil]⟩),(1,⟨false,true,36,1,fun _=>mT m s⟩)]
abbrev wL:Code:=aF f110
theorem ZQ {x y r s:Nat} {c:Cu} {m:Mp}:aL T (AK x y) [] 60 vO (before wL [1,1,0,1]) ⟨aS 0 [bk c x r,mT m s],[],0⟩=
  let c2:Prop:=0<1;let c1:AV:=agg [int i64 0,nil,nil];some (aj [c2,c2,bQ (fun i=>rat (c.k i) x) c.n x,x+10<=y,y<2^40,c.n<2^40,c2] (aj [c2] (leaf normal ([ptr 4096 0 (bE (mT m s)).size 0 [],ptr 8192 0 3 0 [],ptr 36864 0 3 0 [],ak 12 c.m fun i=>agg [agg [rat (c.f i).n.x r,rat (c.f i).n.y r,rat (c.f i).n.z r],rat (c.f i).d r],int i64 (↑c.m:Int),int i64 0],[((36864:Nat),bL fun j=>if(j==0)=true then bE (agg ((c1.kids.set 0 (bE (int i64 c.p))).set 1 (bE (bq (fun i=>aC (rat (c.k i) x)) c.n y))))else c1),((8192:Nat),bL fun x=>c1),(4096,az.mk false true (bE (mT m s)).size 1 fun x=>agg [agg [agg [rat m.m.a.x s,rat m.m.a.y s,rat m.m.a.z s],agg [rat m.m.b.x s,rat m.m.b.y s,rat m.m.b.z s],agg [rat m.m.c.x s,rat m.m.c.y s,rat m.m.c.z s]],agg [rat m.t.x s,rat m.t.y s,rat m.t.z s]])])))):=ah
theorem PJ {x y r s w i:Nat} {c:Cu} {m:Mp}:aL T (AK x y) [18] 60 vO [part wL [1,1,0,1,0,0]] ⟨aG vO (E2 c r i),BZ c m y w s i,5⟩=
  let c25:Int:=(↑c.m:Int);let c24:Int:=(↑(3:Nat):Int);let bK:AV:=own 4 12 0 i;let c19:AV:=ptr 2 0 3 0 [];let c18:AV:=ptr 3 0 3 0 [];let c17:AV:=ptr 1 0 36 0 [];let c15:AV:=rat 0 1;let c14:Int:=(↑i:Int);let c12:Nat:=1+(s+r)+1;let c11:Int:=i64.wrap ((0:Int)+1);let c9:AV:=ak 12 c.m fun i=>agg [agg [rat (c.f i).n.x r,rat (c.f i).n.y r,rat (c.f i).n.z r],rat (c.f i).d r];let c6:List (Nat×az):=[((2:Nat),bL fun x=>agg [int i64 0,nil,nil]),(1,az.mk false true 36 1 fun x=>agg [agg [agg [rat m.m.a.x s,rat m.m.a.y s,rat m.m.a.z s],agg [rat m.m.b.x s,rat m.m.b.y s,rat m.m.b.z s],agg [rat m.m.c.x s,rat m.m.c.y s,rat m.m.c.z s]],agg [rat m.t.x s,rat m.t.y s,rat m.t.z s]])];let c4:Nat:=2^42;let c1:Prop:=0<1;let c28:Int:=i64.wrap (c11+1);let c27:Int:=c14+1;let c26:Prop:=r<c4;let c23:Prop:=s<c4;let c22:Prop:=1<c4;let c16:Prop:=s+r<c4;let c13:AV:=agg [int i64 c.p,bq c.k c.n y,bK];let c8:V3:=(c.f c14.toNat).n;let c7:Nat:=c12+(s+r)+1;let c5:Prop:=(0:Int)<=0/\(0:Int)<c24;let c3:Prop:=(0:Int)<=c11/\c11<c24;let c10:Nat:=c7+(s+r)+1;let c2:Prop:=(0:Int)<=c28/\c28<c24;let c21:Nat:=c10+s+1;some (fork (decide (c14<c25)) (aj [(0:Int)<=c14/\c14.toNat<c.m,c1] (aj [c1,c1,c1,c1,c1,c1,c5,c1,c1,c1,c1,c5,c1,c5,c1,c23,c26,c22,c16,c1,c1,c3,c1,c3,c1,c23,c26,c12<c4,c16,c1,c1,c2,c1,c2,c1,c23,c26,c7<c4,c16,c1,c1,c1,c1,c5,c1,c3,c1,c1,c1,c1,c5,c1,c5,c1,c23,c26,c22,c16,c1,c1,c3,c1,c3,c1,c23,c26,c12<c4,c16,c1,c1,c2,c1,c2,c1,c23,c26,c7<c4,c16,c1,c1,c1,c1,c3,c1,c2,c1,c1,c1,c1,c5,c1,c5,c1,c23,c26,c22,c16,c1,c1,c3,c1,c3,c1,c23,c26,c12<c4,c16,c1,c1,c2,c1,c2,c1,c23,c26,c7<c4,c16,c1,c1,c1,c1,c2,c1,c1,c1,c1,c1,c1,c1,c5,c1,c5,c1,c10<c4,c23,c5,c1,c3,c1,c3,c1,c10<c4,c23,c3,c1,c2,c1,c2,c1,c10<c4,c23,c2,c1,c1,c1,c1,c1,c1,c1,c1,c1,c26,c22,(1:Nat)*12<=2^24,(i+1)*((224:Nat)+1)*2<=2^47,c1] (aj [-(2:Int)^63<=c27/\c27<2^63] (leaf normal ([c17,c19,c18,c9,int i64 c25,int i64 c27],(69637,az.mk true true 12 (i+1) fun i_1=>if i_1<i then aJ (yg m (c.f i_1)) w else nth [agg [agg [rat ((0:Rat)+m.m.a.x*c8.x+m.m.a.y*c8.y+m.m.a.z*c8.z+m.t.x) c21,rat ((0:Rat)+m.m.b.x*c8.x+m.m.b.y*c8.y+m.m.b.z*c8.z+m.t.y) c21,rat ((0:Rat)+m.m.c.x*c8.x+m.m.c.y*c8.y+m.m.c.z*c8.z+m.t.z) c21],rat ((c.f c14.toNat).d+0) (r+1+1)]] (agg [agg [c15,c15,c15],c15]) (i_1-i+0))::((3:Nat),bL fun j=>if(j==0)=true then agg (c13.kids.set 2 (bE (own (nat_lit 69636+1) 12 0 (i+1))))else c13)::c6))))) (leaf (exit 0) ([c17,c19,c18,c9,int i64 c25,int i64 c14],(4,az.mk true true 12 i fun j=>agg [agg [rat (jd m.m.a (c.f j).n m.t.x) w,rat (jd m.m.b (c.f j).n m.t.y) w,rat (jd m.m.c (c.f j).n m.t.z) w],rat (c.f j).d w])::((3:Nat),bL fun x=>agg [int i64 c.p,ak 3 c.n fun i=>rat (c.k i) y,bK])::c6))):=ah
theorem PW {x y r s w i:Nat} {c:Cu} {m:Mp}:cP T (AK x y) [] 60 f110 [part wL [1,1,1]] ⟨aG vO (E2 c r i),BZ c m y w s i,5⟩=
  let c1:Prop:=0<1;some (aj [c1,c1] (aj [c1] (leaf ret [agg [int i64 c.p,ak 3 c.n fun i=>rat (c.k i) y,ak 12 i fun i=>agg [agg [rat (jd m.m.a (c.f (i+0)).n m.t.x) w,rat (jd m.m.b (c.f (i+0)).n m.t.y) w,rat (jd m.m.c (c.f (i+0)).n m.t.z) w],rat (c.f (i+0)).d w]]]))):=ah
theorem Fq:bg P CV:=aE (cT hT fB hm (aM func127) _ _) (aE (cT hT fB hm (aM func76) _ _) bD)
theorem Zh:bg P NF:=aE (cT hT Fq hm (aM func166) _ _) (aE (cT hT Fq hm (aM func182) _ _) bD)
theorem ad8:bg P Lk:=aE (cT hT Zh hm (aM func150) _ _) bD
theorem Z7 {x y:Nat}:bg P (AK x y):=eP (aE (NM x y) (iK ad8 fB))
theorem Nh {rl:List (Nat×Nat)} {c:Cu} {y a i:Nat} (h:bA rl 4=some a):iz rl (.agg [.int .i64 c.p,bq c.k c.n y,.own a 12 0 i]) (.agg [.int .i64 c.p,bq c.k c.n y,.own 4 12 0 i]):=
 mC ⟨aP,aP,⟨rfl,dx h rfl rfl⟩,trivial⟩
theorem abu (m:Mp) (s:Nat):(bE (mT m s)).size=36:=ah
theorem Ua {x y r s w:Nat} {c:Cu} {m:Mp} (hx:x+10<=y) (hy:y<2^40) (hw:4*s+3*r+10<=w) (hw2:w<2^40) (hn:c.n<2^30) (hm2:c.m<2^30) (K:Nat):aN P 110 K [bk c x r,mT m s] [] (aH (bk (CZ m c) y w) []):=by
 refine iu (r:=aH (bk (CZ m c) y w) []) hT (Z7 (x:=x) (y:=y)) hm XU rfl aW rfl [1,1,0,1] (i:=0) (y:=part wL [1,1,0,1,0,0]) (z:=part wL [1,1,1]) ah ah ah (f1:=[]) (f2:=[18]) (f3:=[]) 60 vO 5
  (fun i:Nat=>E2 c r i) (fun i=>BZ c m y w s i) (fun i=>i<=c.m) (fun i=>i=c.m) (fun i=>c.m-i) (fun _=>⟨⟨_,ZQ,?_⟩,fun i hi=>⟨_,PJ,?_⟩,fun i hi=>⟨_,PW,?_⟩⟩) K []
 ·simp only[ag.all,au]
  rw[abu m s]
  exact⟨⟨aa,aa,cV aR,aa,aa,aa,aa⟩,aa,0,Nat.zero_le _,[(1,4096),(2,8192),(3,36864)],rfl,rfl,rfl,lO rfl aa aa (fj rfl rfl (mC ⟨aP,aP,⟨rfl,oO aa⟩,trivial⟩) (aY (aY trivial)))⟩
 ·set_option maxRecDepth 10000 in simp only[ag.all,au,bz,bG,br,Nat.add_zero]
  refine⟨fun h=>?_,fun h=>⟨rfl,i,aa,[(1,1),(2,2),(3,3),(4,4)],rfl,rfl,rfl,mI (fj rfl rfl (Nh rfl) (aY (aY trivial)))⟩⟩
  have w1:i64.wrap (0+1)=1:=by decide
  have w2:i64.wrap (i64.wrap (0+1)+1)=2:=by decide
  rw[w2,w1]
  refine⟨aa,?_,aa,i+1,aa,by dsimp only;omega,[(1,1),(2,2),(3,3),(4,69637)],rfl,rfl,rfl,cJ rfl rfl rfl (fun k hk=>EW (y:=fun j=>yg m (c.f j)) (fun _ _=>rfl) (s':=w) ?_ rfl aR aR hk) (fj rfl rfl (Nh rfl) (aY (aY trivial)))⟩
  ·(repeat' with_reducible refine And.intro ?_ ?_)<;>omega
  ·exact cj ⟨cj ⟨bC rfl aa,bC rfl aa,bC rfl aa,trivial⟩,bC (Rat.add_zero _) aa,trivial⟩
 ·subst hi
  simp only[ag.all,au]
  exact⟨aa,aa,.refl _⟩
abbrev K0:FuncId:=164
abbrev zg:FuncId:=198
abbrev tM:Code:=aF f198
theorem TR:aX K0 f164:=aM func164
theorem CG:aX zg f198:=aM func198
theorem K7:aX 119 f119:=aM func119
def loadT (o:Oper):Nat:=match o.op with
 |.load t _=>t
 |_=>0
def GI (o:Oper):Nat:=match o.op with
 |.binOp _ t _ _ _=>t
 |_=>0
abbrev FC:Nat:=loadT (dF tM [0] 0)
abbrev Mv:Nat:=loadT (dF tM [1,0,0,1,0,0,0] 5)
abbrev Pv:Nat:=GI (dF tM [0] 2)
def Iq (o:Oper):Array TypeId:=match o.op with
 |.call c=>c.argTypes
 |_=>#[]
def Gn (o:Oper):Nat:=match o.op with
 |.unOp _ t _=>t
 |_=>0
theorem adG:CC tM FC Mv Pv:=⟨ah,⟨ah,ah,ah⟩,⟨ah,ah,ah⟩,⟨ah,ah,ah⟩,⟨ah,ah,ah⟩,⟨ah,ah,ah⟩,⟨ah,ah,ah⟩,⟨ah,ah,ah⟩,⟨ah,ah,ah⟩,⟨ah,ah,ah⟩,⟨ah,ah,ah⟩,⟨ah,ah,ah⟩,⟨ah,ah,ah⟩,
 ⟨Iq (dF tM [1,0,0,1,0,0,0] 6),ah,ah,ah⟩,⟨Gn (dF tM [1,0,0,1,0,0,0] 7),ah,ah,ah⟩,⟨ah,ah,ah⟩,⟨ah,ah,ah⟩,⟨ah,ah,ah⟩⟩
theorem Y8 {n s:Nat} {k:Nat->Rat} (hn:n<2^62):uS P zg [.bn (bq k n s)] n (fun i=>.int .i64 ((n:Int)-1-i)) (fun i=>.rat (k (n-1-i)) s):=
 Gp hT (tiS:=(look FC T).getD ⟨.bool,0,0,.nil⟩) (tiE:=(look Mv T).getD ⟨.bool,0,0,.nil⟩) ah ah ah ah CG.get CG.body ah ah adG (f:=fun i=>.rat (k i) s) hn ah fun i hi=>⟨rfl,rfl⟩
def vH:aV:=nG::(K0,cQ T [sG] [] 20 f164)::eV
abbrev uN:List Nat:=[1,3,7]
abbrev D3 (n:Nat) (k:Nat->Rat) (s:Nat):List AV:=[.ptr 0 0 1 0 [],.ptr 1 0 1 0 [],.func zg [.bn (bq k n s)]]
abbrev wh (n:Nat) (k:Nat->Rat) (s i:Nat) (x:Nat->Rat) (w:Nat):aD:=[(2,nP i x w),(1,⟨false,true,1,1,fun _=>.own 2 3 0 i⟩),(0,⟨false,true,1,1,fun _=>bq k n s⟩)]
abbrev Df:List Nat:=[1,3,7,5]
abbrev LZ (n:Nat) (k:Nat->Rat) (s:Nat):List AV:=[.ptr 0 0 1 0 [],.ptr 1 0 1 0 [],.func zg [.bn (bq k n s)],.ptr 3 0 3 0 []]
abbrev rF:Code:=aF f119
def yl:Code->Code×Code
 |.block _ (.rangeFunc _ _ x y)=>(x,y)
 |_=>(.skip,.skip)
abbrev LS:Code:=(yl (part rF [1,1,0,1])).1
abbrev Ls:Code:=(yl (part rF [1,1,0,1])).2
theorem SH {n s:Nat} {k:Nat->Rat}:aL T vH [] 60 uN (before rF [1,1,0,1]) ⟨aS 0 [bq k n s],[],0⟩=
  let c1:AV:=ak 3 n fun i=>rat (k i) s;some (aj [(0:Nat)<1] (leaf normal ([ptr 0 0 (bE (bq k n s)).size 0 [],ptr 8192 0 1 0 [],func 198 [c1.bn]],[(8192,az.mk false true 1 1 fun x=>nil),(0,az.mk false true (bE (bq k n s)).size 1 fun x=>c1)]))):=ah
theorem RM {n s w i:Nat} {k x:Nat->Rat} {u:Int} {v:Rat}:aL T vH [] 60 Df [LS] ⟨aG (uN++[8,9]) (D3 n k s++[.int .i64 u,.rat v s]),wh n k s i x w,3⟩=
  let c1:AV:=ak 3 n fun i=>rat (k i) s;some (aj [(0:Nat)<1] (leaf normal ([ptr 0 0 1 0 [],ptr 1 0 1 0 [],func 198 [c1.bn],ptr 3 0 3 0 []],[(2,az.mk true true 3 i fun i=>rat (x i) w),((3:Nat),bL fun j=>if(j==0)=true then bE (rat v s)else rat 0 1),(1,az.mk false true 1 1 fun x=>own 2 3 0 i),(0,az.mk false true 1 1 fun x=>c1)]))):=ah
theorem Zf {n s w i:Nat} {k x:Nat->Rat} {v:Rat}:aL T vH [] 60 uN [Ls] ⟨aG Df (LZ n k s),(3,tP v s)::wh n k s i x w,4⟩=
  let c4:AV:=ak 3 n fun i=>rat (k i) s;let c3:Nat:=2^42;let c2:Int:=(↑n:Int)-1;let c1:Prop:=0<1;some (aj [c1,c1,(0:Int)<=0/\Int.toNat (0:Int)<n,c1,c1,-(2:Int)^63<=c2/\c2<2^63,(0:Int)<=c2/\c2.toNat<n,s<c3,s<c3,c1,s+s+1<c3,s<c3,(1:Nat)*3<=2^24,(i+1)*((56:Nat)+1)*2<=2^47,c1] (leaf normal ([ptr 0 0 1 0 [],ptr 1 0 1 0 [],func 198 [c4.bn]],[(57348,az.mk true true 3 (i+1) fun i_1=>if i_1<i then rat (x i_1) w else nth [rat (k (Int.toNat (0:Int))+k c2.toNat-v) (s+s+1+s+1)] (rat 0 1) (i_1-i+0)),(1,az.mk false true 1 1 fun j=>if(j==0)=true then bE (own (nat_lit 57347+1) 3 0 (i+1))else own 2 3 0 i),(0,az.mk false true 1 1 fun x=>c4)]))):=ah
theorem aeu {n s w i:Nat} {k x:Nat->Rat}:cP T vH [] 60 f119 [part rF [1,1,1]] ⟨aG uN (D3 n k s),wh n k s i x w,3⟩=
  some (aj [(0:Nat)<1] (leaf ret [ak 3 i fun i=>rat (x (i+0)) w])):=ah
theorem MP:bg P vH:=eP (aE (cT hT (cB bD) hm TR _ _) fB)
theorem Sn {n s w:Nat} {k:Nat->Rat} (h:3*s+2<=w) (hw:w<2^40) (hn:n<2^40) (K:Nat):aN P 119 K [bq k n s] [] (aH (bq (gO n k) n w) []):=by
 refine Mn (r:=aH (bq (gO n k) n w) []) hT K7 rfl aW rfl (fun _ cx hro hk=>?_) K []
 refine ay.I4 hT MP hm (x:=rF) (assign:=LS) (body:=Ls) (g:=7) (p0:=8) (p1:=9) [1,1,0,1] (i:=0) ah ah K7.dst hro hk CG.enters (Y8 (s:=s) (k:=k) aa) aW aW (by decide) (f1:=[]) (f2:=[]) (f3:=[])
  60 uN Df (D3 n k s) (fun _=>rfl) rfl (fun i=>wh n k s i (gO n k) w) 3 4 (fun _=>LZ n k s) (fun i=>(3,tP (k (n-1-i)) s)::wh n k s i (gO n k) w) [0,1] ⟨_,SH,?_⟩ (fun i hi=>⟨_,RM,?_⟩) (fun i hi=>⟨_,Zf,?_⟩) ?_
 ·simp only[ag.all,au]
  exact⟨aa,trivial,[(0,0),(1,8192)],rfl,rfl,rfl,lO rfl aa aa (fj rfl rfl (.inl (.inl ⟨rfl,rfl⟩)) (aY trivial))⟩
 ·simp only[ag.all,au]
  exact⟨aa,trivial,[(0,0),(1,1),(2,2),(3,3)],rfl,rfl,rfl,aY (mI (fj rfl rfl (.inl (.inl ⟨rfl,rfl⟩)) (aY trivial)))⟩
 ·simp only[ag.all,au,Int.toNat_zero]
  refine⟨aa,trivial,[(0,0),(1,1),(2,57348)],rfl,rfl,rfl,cJ rfl rfl rfl (fun j hj=>m8 (fun _ _=>rfl) ?_ aR aa hj) (fj rfl rfl (.inl (.inl ⟨rfl,rfl⟩)) (aY trivial))⟩
  rw[show((n:Int)-1).toNat=n-1 by omega];rfl
 ·rw[show behind rF [1,1,0,1]=[part rF [1,1,1]]from by kernel_rfl]
  exact(aI.fin hT MP hm 60 aeu ah (by simp only[ag.all,au];exact⟨aa,.refl _⟩)).mono fun _ _ h=>.inl h
theorem ah8 {s w:Nat} (h:3*s+2<=w) (hw:w<2^40):bf P (zw s w) 119:=cC fun⟨⟨n,k⟩,_⟩ K hn=>Sn h hw hn K
abbrev JT:FuncId:=120
abbrev yP:FuncId:=165
abbrev sX:Code:=aF f165
theorem TY:aX JT f120:=aM func120
theorem Cm:aX yP f165:=aM func165
theorem HJ:aX 63 f63:=aM func63
theorem QL:aX 22 f22:=aM func22
abbrev Oo:Nat:=loadT (dF sX [0] 0)
abbrev M9:Nat:=loadT (dF sX [1,0,0,1,0,0,0] 5)
abbrev bpI:Nat:=GI (dF sX [0] 2)
theorem Xd:CC sX Oo M9 bpI:=⟨ah,⟨ah,ah,ah⟩,⟨ah,ah,ah⟩,⟨ah,ah,ah⟩,⟨ah,ah,ah⟩,⟨ah,ah,ah⟩,⟨ah,ah,ah⟩,⟨ah,ah,ah⟩,⟨ah,ah,ah⟩,⟨ah,ah,ah⟩,⟨ah,ah,ah⟩,⟨ah,ah,ah⟩,⟨ah,ah,ah⟩,
 ⟨Iq (dF sX [1,0,0,1,0,0,0] 6),ah,ah,ah⟩,⟨Gn (dF sX [1,0,0,1,0,0,0] 7),ah,ah,ah⟩,⟨ah,ah,ah⟩,⟨ah,ah,ah⟩,⟨ah,ah,ah⟩⟩
theorem afW {n s:Nat} {f:Nat->Pl} (hn:n<2^62):uS P yP [.bn (pM f n s)] n (fun i=>.int .i64 ((n:Int)-1-i)) (fun i=>aJ (f (n-1-i)) s):=
 Gp hT (tiS:=(look Oo T).getD ⟨.bool,0,0,.nil⟩) (tiE:=(look M9 T).getD ⟨.bool,0,0,.nil⟩) ah ah ah ah Cm.get Cm.body ah ah Xd (f:=fun i=>aJ (f i) s) hn ah fun i hi=>⟨rfl,rfl⟩
def ri (c:Cu):Cu:=⟨c.p,c.n,gO c.n c.k,c.m,fun j=>c.f (c.m-1-j)⟩
def MF:aV:=[(127,cQ T (sG::eV) [] 60 f127)]
def Oy:aV:=[(166,cQ T (sG::MF) [] 60 f166)]
def Jl:aV:=[(121,cQ T (sG::(Oy++eV)) [] 60 f121)]
def vF (s w:Nat):aV:=nG::(JT,cQ T [sG] [] 20 f120)::(119,zw s w)::Jl
def AA (s w:Nat):aV:=nG::(64,zw s w)::[]
abbrev wq:List Nat:=[1,2,3,14]
abbrev BJ (c:Cu) (r:Nat):List AV:=[.ptr 0 0 3 0 [],.ptr 1 0 3 0 [],.ptr 2 0 3 0 [],.func yP [.bn (pM c.f c.m r)]]
abbrev oS (c:Cu) (s r y w i:Nat):aD:=[(3,⟨true,true,12,i,fun j=>aJ (c.f (c.m-1-j)) w⟩),(2,⟨false,true,3,1,fun _=>.agg [.int .i64 c.p,bq (gO c.n c.k) c.n y,.own 3 12 0 i]⟩),(1,⟨false,true,3,1,fun _=>.agg [.int .i64 0,.nil,.nil]⟩),(0,⟨false,true,3,1,fun _=>bk c s r⟩)]
abbrev DN:List Nat:=[1,2,3,14,5]
abbrev IE (c:Cu) (r:Nat):List AV:=[.ptr 0 0 3 0 [],.ptr 1 0 3 0 [],.ptr 2 0 3 0 [],.func yP [.bn (pM c.f c.m r)],.ptr 4 0 12 0 []]
abbrev qS:Code:=aF f63
abbrev FG:Code:=(yl (part qS [1,1,0,1])).1
abbrev M4:Code:=(yl (part qS [1,1,0,1])).2
abbrev FW (p:Pl) (s:Nat):az:=⟨false,true,12,1,fun _=>aJ p s⟩
abbrev uD:List Nat:=[1,2,3,4]
abbrev xF (i:Int):List AV:=[.ptr 0 0 3 0 [],.ptr 1 0 3 0 [],.ptr 2 0 3 0 [],.int .i64 i]
abbrev wA:Code:=aF f22
theorem Sx {c:Cu} {s r y:Nat}:aL T (vF s y) [] 60 wq (before qS [1,1,0,1]) ⟨aS 0 [bk c s r],[],0⟩=
  let c3:Prop:=0<1;let c2:AV:=agg [int i64 0,nil,nil];let c1:AV:=ak 12 c.m fun i=>agg [agg [rat (c.f i).n.x r,rat (c.f i).n.y r,rat (c.f i).n.z r],rat (c.f i).d r];some (aj [c3,c3,bQ (fun i=>rat (c.k i) s) c.n s,c.n<2^40,c3] (aj [c3] (leaf normal ([ptr 0 0 (bE (bk c s r)).size 0 [],ptr 4096 0 3 0 [],ptr 32768 0 3 0 [],func 165 [c1.bn]],[((32768:Nat),bL fun j=>if(j==0)=true then bE (agg ((c2.kids.set 0 (bE (int i64 c.p))).set 1 (bE (bq (gO c.n fun i=>aC (rat (c.k i) s)) c.n y))))else c2),((4096:Nat),bL fun x=>c2),(0,az.mk false true (bE (bk c s r)).size 1 fun x=>agg [int i64 c.p,ak 3 c.n fun i=>rat (c.k i) s,c1])])))):=ah
theorem TJ {c:Cu} {s r y w i:Nat} {u:Int} {v:Pl}:aL T (vF s y) [] 60 DN [FG] ⟨aG (wq++[15,16]) (BJ c r++[.int .i64 u,aJ v r]),oS c s r y w i,4⟩=
  let c3:Nat:=c.m-1;let c2:AV:=rat 0 1;let c1:AV:=ak 12 c.m fun i=>agg [agg [rat (c.f i).n.x r,rat (c.f i).n.y r,rat (c.f i).n.z r],rat (c.f i).d r];some (aj [(0:Nat)<1] (leaf normal ([ptr 0 0 3 0 [],ptr 1 0 3 0 [],ptr 2 0 3 0 [],func 165 [c1.bn],ptr 4 0 12 0 []],[(3,az.mk true true 12 i fun j=>agg [agg [rat (c.f (c3-j)).n.x w,rat (c.f (c3-j)).n.y w,rat (c.f (c3-j)).n.z w],rat (c.f (c3-j)).d w]),(4,az.mk false true 12 1 fun j=>if(j==0)=true then bE (aJ v r)else agg [agg [c2,c2,c2],c2]),((2:Nat),bL fun x=>agg [int i64 c.p,ak 3 c.n fun i=>rat (gO c.n c.k i) y,own 3 12 0 i]),((1:Nat),bL fun x=>agg [int i64 0,nil,nil]),((0:Nat),bL fun x=>agg [int i64 c.p,ak 3 c.n fun i=>rat (c.k i) s,c1])]))):=ah
theorem ac1 {c:Cu} {s r y w i:Nat} {v:Pl}:aL T (vF s y) [] 60 wq [M4] ⟨aG DN (IE c r),(4,FW v r)::oS c s r y w i,5⟩=
  let c6:AV:=rat 0 1;let c5:Nat:=r+1+1;let c4:AV:=agg [int i64 c.p,bq (gO c.n c.k) c.n y,own 3 12 0 i];let c3:Prop:=0<1;let c2:AV:=ak 12 c.m fun i=>agg [agg [rat (c.f i).n.x r,rat (c.f i).n.y r,rat (c.f i).n.z r],rat (c.f i).d r];let c1:Nat:=2^42;let c7:Prop:=1<c1;some (aj [c3,c3,r<c1,c7,r<c1,c7,r<c1,c7,c3,c3,r<c1,c7,c3,(1:Nat)*12<=2^24,(i+1)*((224:Nat)+1)*2<=2^47,c3] (leaf normal ([ptr 0 0 3 0 [],ptr 1 0 3 0 [],ptr 2 0 3 0 [],func 165 [c2.bn]],[(20485,az.mk true true 12 (i+1) fun i_1=>if i_1<i then aJ (c.f (c.m-1-i_1)) w else nth [agg [agg [rat (v.n.x+0) c5,rat (v.n.y+0) c5,rat (v.n.z+0) c5],rat (v.d+0) c5]] (agg [agg [c6,c6,c6],c6]) (i_1-i+0)),((2:Nat),bL fun j=>if(j==0)=true then agg (c4.kids.set 2 (bE (own (nat_lit 20484+1) 12 0 (i+1))))else c4),((1:Nat),bL fun x=>agg [int i64 0,nil,nil]),((0:Nat),bL fun x=>agg [int i64 c.p,ak 3 c.n fun i=>rat (c.k i) s,c2])]))):=ah
theorem Q2 {c:Cu} {s r y w i:Nat}:cP T (vF s y) [] 60 f63 [part qS [1,1,1]] ⟨aG wq (BJ c r),oS c s r y w i,4⟩=
  let c2:Prop:=0<1;let c1:Nat:=c.m-1;some (aj [c2,c2] (aj [c2] (leaf ret [agg [int i64 c.p,ak 3 c.n fun i=>rat (gO c.n c.k i) y,ak 12 i fun i=>agg [agg [rat (c.f (c1-(i+0))).n.x w,rat (c.f (c1-(i+0))).n.y w,rat (c.f (c1-(i+0))).n.z w],rat (c.f (c1-(i+0))).d w]]]))):=ah
theorem acY {c:Cu} {s r y:Nat}:aL T (AA s y) [] 60 uD (before wA [1,1,0,1]) ⟨aS 0 [bk c s r],[],0⟩=
  let c3:Int:=(↑c.m:Int)-1;let c2:Prop:=0<1;let c1:AV:=agg [int i64 0,nil,nil];some (aj [c2,c2,bQ (fun i=>rat (c.k i) s) c.n s,c.n<2^40,c2] (aj [c2,-(2:Int)^63<=c3/\c3<2^63] (leaf normal ([ptr 0 0 (bE (bk c s r)).size 0 [],ptr 4096 0 3 0 [],ptr 32768 0 3 0 [],int i64 c3],[((32768:Nat),bL fun j=>if(j==0)=true then bE (agg ((c1.kids.set 0 (bE (int i64 c.p))).set 1 (bE (bq (gO c.n fun i=>aC (rat (c.k i) s)) c.n y))))else c1),((4096:Nat),bL fun x=>c1),(0,az.mk false true (bE (bk c s r)).size 1 fun x=>agg [int i64 c.p,ak 3 c.n fun i=>rat (c.k i) s,ak 12 c.m fun i=>agg [agg [rat (c.f i).n.x r,rat (c.f i).n.y r,rat (c.f i).n.z r],rat (c.f i).d r]])])))):=ah
theorem RA {c:Cu} {s r y w i:Nat} {j:Int}:aL T (AA s y) [16] 60 uD [part wA [1,1,0,1,0,0]] ⟨aG uD (xF j),oS c s r y w i,4⟩=
  let c10:Pl:=c.f j.toNat;let c9:AV:=own 3 12 0 i;let c8:Prop:=0<1;let c7:AV:=ptr 2 0 3 0 [];let c6:AV:=ptr 1 0 3 0 [];let c5:AV:=ptr 0 0 3 0 [];let c4:Nat:=c.m-1;let c3:AV:=rat 0 1;let c1:List (Nat×az):=[((1:Nat),bL fun x=>agg [int i64 0,nil,nil]),((0:Nat),bL fun x=>agg [int i64 c.p,ak 3 c.n fun i=>rat (c.k i) s,ak 12 c.m fun i=>agg [agg [rat (c.f i).n.x r,rat (c.f i).n.y r,rat (c.f i).n.z r],rat (c.f i).d r]])];let c2:AV:=agg [int i64 c.p,bq (gO c.n c.k) c.n y,c9];some (fork (decide (j>=0)) (aj [c8,c8,(0:Int)<=j/\j.toNat<c.m,(1:Nat)*12<=2^24,(i+1)*((224:Nat)+1)*2<=2^47,c8] (aj [-(2:Int)^63<=j-1/\j-1<(2:Int)^63] (leaf normal ([c5,c6,c7,int i64 (j-1)],(40964,az.mk true true 12 (i+1) fun i_1=>if i_1<i then aJ (c.f (c4-i_1)) w else nth [agg [agg [rat c10.n.x r,rat c10.n.y r,rat c10.n.z r],rat c10.d r]] (agg [agg [c3,c3,c3],c3]) (i_1-i+0))::((2:Nat),bL fun j=>if(j==0)=true then agg (c2.kids.set 2 (bE (own (nat_lit 40963+1) 12 0 (i+1))))else c2)::c1)))) (leaf (exit 0) ([c5,c6,c7,int i64 j],(3,az.mk true true 12 i fun j=>agg [agg [rat (c.f (c4-j)).n.x w,rat (c.f (c4-j)).n.y w,rat (c.f (c4-j)).n.z w],rat (c.f (c4-j)).d w])::((2:Nat),bL fun x=>agg [int i64 c.p,ak 3 c.n fun i=>rat (gO c.n c.k i) y,c9])::c1))):=ah
theorem Sf {c:Cu} {s r y w i:Nat} {j:Int}:cP T (AA s y) [] 60 f22 [part wA [1,1,1]] ⟨aG uD (xF j),oS c s r y w i,4⟩=
  let c2:Prop:=0<1;let c1:Nat:=c.m-1;some (aj [c2,c2] (aj [c2] (leaf ret [agg [int i64 c.p,ak 3 c.n fun i=>rat (gO c.n c.k i) y,ak 12 i fun i=>agg [agg [rat (c.f (c1-(i+0))).n.x w,rat (c.f (c1-(i+0))).n.y w,rat (c.f (c1-(i+0))).n.z w],rat (c.f (c1-(i+0))).d w]]]))):=ah
theorem aa8:bg P MF:=aE (cT hT (cB fB) hm (aM func127) _ _) bD
theorem Qn:bg P Oy:=aE (cT hT (cB aa8) hm (aM func166) _ _) bD
theorem aej:bg P Jl:=aE (cT hT (cB (iK Qn fB)) hm (aM func121) _ _) bD
theorem Ic {s y:Nat} (h:3*s+2<=y) (hy:y<2^40):bg P (vF s y):=eP (aE (cT hT (cB bD) hm TY _ _) (aE (ah8 h hy) aej))
theorem acS {s y:Nat} (h:3*s+2<=y) (hy:y<2^40):bg P (AA s y):=eP (aE (aef h hy) bD)
theorem JW (c:Cu) (s r:Nat):(bE (bk c s r)).size=3:=ah
theorem zX {rl:List (Nat×Nat)} {c:Cu} {y a i:Nat} (h:bA rl 3=some a):iz rl (.agg [.int .i64 c.p,bq (gO c.n c.k) c.n y,.own a 12 0 i]) (.agg [.int .i64 c.p,bq (gO c.n c.k) c.n y,.own 3 12 0 i]):=
 mC ⟨aP,aP,⟨rfl,dx h rfl rfl⟩,trivial⟩
def Np (s r y w:Nat):Spec:=cF (kC (gk s r) kN) (fun a=>bk (ri a.1) y w) fun a=>[a.1.n<2^30,a.1.m<2^30]
theorem abb {c:Cu} {s r y w:Nat} (h1:3*s+2<=y) (hy:y<2^40) (h2:r+2<=w) (hw:w<2^40) (hn:c.n<2^30) (hm2:c.m<2^30) (K:Nat):aN P 63 K [bk c s r] [] (aH (bk (ri c) y w) []):=by
 refine Mn (r:=aH (bk (ri c) y w) []) hT HJ rfl aW rfl (fun _ cx hro hk=>?_) K []
 refine ay.I4 hT (Ic h1 hy) hm (x:=qS) (assign:=FG) (body:=M4) (g:=14) (p0:=15) (p1:=16) [1,1,0,1] (i:=0) ah ah HJ.dst hro hk Cm.enters (afW (s:=r) (f:=c.f) aa) aW aW (by decide) (f1:=[]) (f2:=[]) (f3:=[])
  60 wq DN (BJ c r) (fun _=>rfl) rfl (fun i=>oS c s r y w i) 4 5 (fun _=>IE c r) (fun i=>(4,FW (c.f (c.m-1-i)) r)::oS c s r y w i) [0,1,2] ⟨_,Sx,?_⟩ (fun i hi=>⟨_,TJ,?_⟩) (fun i hi=>⟨_,ac1,?_⟩) ?_
 ·simp only[ag.all,au]
  rw[JW c s r]
  exact⟨⟨aa,aa,cV aR,aa,aa⟩,aa,trivial,[(0,0),(1,4096),(2,32768)],rfl,rfl,rfl,lO rfl aa aa (fj rfl rfl (mC ⟨aP,aP,⟨rfl,oO aa⟩,trivial⟩) (aY (aY trivial)))⟩
 ·simp only[ag.all,au]
  exact⟨aa,trivial,[(0,0),(1,1),(2,2),(3,3),(4,4)],rfl,rfl,rfl,aY (mI (fj rfl rfl (zX rfl) (aY (aY trivial))))⟩
 ·simp only[ag.all,au,Int.toNat_zero]
  refine⟨?_,trivial,[(0,0),(1,1),(2,2),(3,20485)],rfl,rfl,rfl,cJ rfl rfl rfl (fun k hk=>EW (y:=fun j=>c.f (c.m-1-j)) (fun _ _=>rfl) (s':=w) ?_ rfl aR aR hk) (fj rfl rfl (zX rfl) (aY (aY trivial)))⟩
  ·(repeat' with_reducible refine And.intro ?_ ?_)<;>omega
  ·exact cj ⟨cj ⟨bC (Rat.add_zero _) aa,bC (Rat.add_zero _) aa,bC (Rat.add_zero _) aa,trivial⟩,bC (Rat.add_zero _) aa,trivial⟩
 ·rw[show behind qS [1,1,0,1]=[part qS [1,1,1]]from by kernel_rfl]
  exact(aI.fin hT (Ic h1 hy) hm 60 Q2 ah (by simp only[ag.all,au];exact⟨aa,aa,.refl _⟩)).mono fun _ _ h=>.inl h
theorem abB {c:Cu} {s r y:Nat} (h1:3*s+2<=y) (hy:y<2^40) (hn:c.n<2^30) (hm2:c.m<2^30) (K:Nat):aN P 22 K [bk c s r] [] (aH (bk (ri c) y r) []):=by
 refine iu (r:=aH (bk (ri c) y r) []) hT (acS h1 hy) hm QL rfl aW rfl [1,1,0,1] (i:=0) (y:=part wA [1,1,0,1,0,0]) (z:=part wA [1,1,1]) ah ah ah (f1:=[]) (f2:=[16]) (f3:=[]) 60 uD 4
  (fun i:Nat=>xF ((c.m:Int)-1-i)) (fun i=>oS c s r y r i) (fun i=>i<=c.m) (fun i=>i=c.m) (fun i=>c.m-i) (fun _=>⟨⟨_,acY,?_⟩,fun i hi=>⟨_,RA,?_⟩,fun i hi=>⟨_,Sf,?_⟩⟩) K []
 ·simp only[ag.all,au]
  rw[JW c s r]
  exact⟨⟨aa,aa,cV aR,aa,aa⟩,⟨aa,aa⟩,0,aa,[(0,0),(1,4096),(2,32768)],rfl,by show _=(xF ((c.m:Int)-1-((0:Nat):Int))).map _;rw[show(c.m:Int)-1-((0:Nat):Int)=(c.m:Int)-1 by omega];rfl,rfl,lO rfl aa aa (fj rfl rfl (mC ⟨aP,aP,⟨rfl,oO aa⟩,trivial⟩) (aY (aY trivial)))⟩
 ·simp only[ag.all,au,bz,bG,br,Nat.add_zero,Int.toNat_zero]
  refine⟨fun h1=>⟨⟨aa,aa,aa,aa,aa,aa⟩,aa,i+1,aa,by dsimp only;omega,[(0,0),(1,1),(2,2),(3,40964)],rfl,by show _=(xF ((c.m:Int)-1-((i+1:Nat):Int))).map _;rw[show(c.m:Int)-1-((i+1:Nat):Int)=(c.m:Int)-1-i-1 by omega];rfl,rfl,cJ rfl rfl rfl (fun k hk=>EW (y:=fun j=>c.f (c.m-1-j)) (fun _ _=>rfl) (s':=r) ?_ rfl aR aR hk) (fj rfl rfl (zX rfl) (aY (aY trivial)))⟩,
   fun h1=>⟨rfl,i,aa,[(0,0),(1,1),(2,2),(3,3)],rfl,rfl,rfl,mI (fj rfl rfl (zX rfl) (aY (aY trivial)))⟩⟩
  rw[show((c.m:Int)-1-i).toNat=c.m-1-i by omega]
  exact .refl _
 ·subst hi
  simp only[ag.all,au]
  exact⟨aa,aa,.refl _⟩
theorem Z8 {s r y:Nat} (h1:3*s+2<=y) (hy:y<2^40):bf P (Np s r y r) 22:=cC fun⟨c,_⟩ K hn=>abB h1 hy hn.1 hn.2 K
def EG (c d:Cu):Prop:=er c/\er d/\(∀i,i<4->c.k i=bh i/\d.k i=bh i)/\c.f 0=⟨⟨0,0,0⟩,1⟩/\c.f 1=⟨⟨2,0,0⟩,1⟩/\d.f 0=⟨⟨2,0,0⟩,1⟩/\d.f 1=⟨⟨0,0,0⟩,1⟩
def zL:Spec:=cF (kC (gk 1000 1000) (kC (gk 1000 1000) kN)) (fun _=>.tuple [.bool false,.bool true]) fun a=>[EG a.1 a.2.1]
def LN:Spec:=bX fun l=>match l with
 |[.rat q _]=>match decide (q=1/4),decide (q=1/2)with
  |true,_=>some (aH (.str [49,47,52]) [])
  |false,true=>some (aH (.str [49,47,50]) [])
  |_,_=>none
 |_=>none
def CU:aV:=[(103,cQ T (sG::oJ) [] 60 f103),(104,cQ T (sG::oJ) [] 60 f104)]
def Cp:aV:=[(51,cQ T (sG::(CU++oJ)) [21,41] 200 f51),(52,cQ T (sG::oJ) [] 200 f52)]
def JF:aV:=[(53,cQ T (sG::(Cp++CU)) [20,25] 200 f53)]
def JS:aV:=[(15,cQ T (sG::(JF++Cp)) [] 60 f15)]
def L4:aV:=sG::(9,A9)::(21,zL)::(22,Np 64 300 1000 300)::(23,LN)::(18,cQ T (sG::(EX++jU)) [] 200 f18)::(JS++(Lj++((19,cQ T (sG::jU) [] 60 f19)::(Io++jU))))
theorem Yx:bF T L4 [100042,100048,100051,100057,100063,100067] 400 f6 (aF f6) ⟨aS 0 [],[],0⟩=
  let c53:List UInt8:=[(49:UInt8),(47:UInt8),(52:UInt8)];let c52:List UInt8:=[(49:UInt8),(47:UInt8),(50:UInt8)];let c51:Nat:=2^47;let c49:Nat:=168+1;let c45:Nat:=Max.max 1 (bN (Int.natAbs (2:Int)));let c44:Nat:=Max.max 1 (bN (Int.natAbs (5:Int)));let c43:Bool:=(9:Int)==0;let c40:Bool:=(0:Int)==0;let c33:AV:=int i64 0;let c32:AV:=rat 0 1;let c24:Nat:=Max.max 1 (bN (Int.natAbs (1:Int)));let c23:Prop:=0<1;let c9:Rat:=(↑(1:Int):Rat);let c8:Rat:=(↑(0:Int):Rat);let c55:V3:=V3.mk c8 c9 c8;let c54:AV:=rat c9 c24;let c48:Rat:=(c8-c8)*(c8-c9)-(c9-c9)*(c8-c8);let c47:Rat:=(c9-c8)*(c8-c8)-(c8-c8)*(c9-c8);let c46:Rat:=(c9-c9)*(c9-c8)-(c9-c8)*(c8-c9);let c35:AV:=rat ((↑(2:Int):Rat)*0) (c45+1);let c34:AV:=rat ((↑(5:Int):Rat)*0) (c44+1);let c16:V3:=V3.mk c9 c8 c8;let c13:Rat:=bif c43 then 0 else bif c43 then 0 else 0;let c12:List AV:=[c33,c33,int i64 1,int i64 1];let c11:AV:=agg [agg [c32,c32,c32],c32];let c50:Bool:=dY c16 c16;let c36:Bool:=dY (V3.mk c9 c9 c8) c16;let c29:Prop:=aC (rat (↑(intOf (nth c12 c33 ((0:Nat)+0+0))):Rat) 64)<aC (rat (↑(intOf (nth c12 c33 ((3:Nat)+0+0))):Rat) 64);let c25:Prop:=bQ (fun i=>rat (↑(intOf (nth c12 c33 (i+0+0))):Rat) 64) 4 1000;let c15:Rat:=bif dY c55 c16 then 0 else 0;let c10:List AV:=[agg [agg [c54,c32,c32],c54],agg [agg [rat ((↑(5:Int):Rat)*c9) (c44+c24),c34,c34],c54]];let c7:List AV:=[agg [agg [c32,c32,c32],c54],agg [agg [rat ((↑(2:Int):Rat)*c9) (c45+c24),c35,c35],c54]];let c42:Prop:=ej (fun i=>nth c7 c11 (i+0)) 2 1000;let c31:Cu:=Cu.mk (1:Int) 4 (fun i=>aC (rat (↑(intOf (nth c12 c33 (i+0+0))):Rat) 64)) 2 fun i=>aT (nth c10 c11 (i+0));let c21:Rat:=bif c50 then bif c36 then c15 else bif c40 then c48 else 0 else c13;let bK:Rat:=bif c50 then bif c36 then c15 else bif c40 then c46 else 0 else c13;let c19:Rat:=bif c50 then bif c36 then c15 else bif c40 then c47 else 0 else c13;let c18:Cu:=Cu.mk (1:Int) 4 (fun i=>aC (rat (↑(intOf (nth c12 c33 (i+0+0))):Rat) 64)) 2 fun i=>aT (nth c7 c11 (i+0));let c3:Bool:=bif c50 then bif c36 then bif dY c55 c16 then false else false else bif c40 then true else false else bif c43 then true else bif c43 then true else false;let c2:Rat:=bif c50 then bif c36 then c15 else bif c40 then dot (V3.mk c47 c48 c46) c16 else 0 else c13;let c1:V3:=V3.mk c19 c21 bK;let c30:Bool:=bif true then dn (dot c1 c55) c2 !=(0:Int)else false;let c22:Bool:=bif true then dn (dot c1 c16) c2 !=(0:Int)else false;let c14:Bool:=bif true then dn (dot c1 (V3.mk c9 c9 c8)) c2 !=(0:Int)else false;let c17:Bool:=bif c3 then bif c30 then false else c3 else bif false then false else c3;let c6:Rat:=bif c3 then bif c30 then 0 else bK else bif false then 0 else bK;let c5:Rat:=bif c3 then bif c30 then 0 else c19 else bif false then 0 else c19;let c4:Rat:=bif c3 then bif c30 then 0 else c21 else bif false then 0 else c21;let c41:Bool:=bif c3 then bif c14 then false else c17 else bif false then false else c17;let c39:Rat:=bif c3 then bif c14 then 0 else c4 else bif false then 0 else c4;let c38:Rat:=bif c3 then bif c14 then 0 else c6 else bif false then 0 else c6;let c37:Rat:=bif c3 then bif c14 then 0 else c5 else bif false then 0 else c5;let c28:Rat:=bif c3 then bif c22 then 0 else c38 else bif false then 0 else c38;let c27:Rat:=bif c3 then bif c22 then 0 else c37 else bif false then 0 else c37;let c26:Rat:=bif c3 then bif c22 then 0 else c39 else bif false then 0 else c39;some (aj [c23,c23,c23,c23,c23,c23,c23,c23/\1*c49*2<=c51,((1:Nat)+1)*c49*2<=c51,((1:Nat)+1+1)*c49*2<=c51,c50=true->au [c36=true->au [dY c55 c16=true->au ([c23]++([]++[])++[]),dY c55 c16=false->au ([c23]++([]++[])++[])],c36=false->au ([]++([]++([]++([]++([]++([c23]++([]++[])++[]++([]++([]++([]++([]++([]++([]++[])))))))))))++[c40=true->au ([c23]++([]++[])++[]),c40=false->au ([c23]++([]++[])++[])])],c50=false->au ([]++([]++([]++([]++([]++([c23]++([]++[])++[]++([]++([]++([]++([]++([]++([]++[])))))))))))++[c43=true->au ([c23]++([]++[])++[]),c43=false->au ([]++([]++([]++([]++([]++([c23]++([]++[])++[]++([]++([]++([]++([]++([]++([]++[])))))))))))++[c43=true->au ([c23]++([]++[])++[]),c43=false->au ([c23]++([]++[])++[])])]),c3=true->au ([]++([c3=true]++([]++([]++([]++([]++([]++[]))))))++[c22=true->au ([c23]++([]++[])++[]),c22=false->au [c3=true->au ([]++([c3=true]++([]++([]++([]++([]++([]++[]))))))++[c14=true->au ([c23]++([]++[])++[]),c14=false->au [c3=true->au ([]++([c3=true]++([]++([]++([]++([]++([]++[]))))))++[c30=true->au ([c23]++([]++[])++[]),c30=false->au ([c23]++([]++[])++[])]),c3=false->au ([]++([c3=false]++([]++([]++([]++([]++([]++[]))))))++[false=true->au ([c23]++([]++[])++[]),false=false->au ([c23]++([]++[])++[])])]]),c3=false->au ([]++([c3=false]++([]++([]++([]++([]++([]++[]))))))++[false=true->au ([c23]++([]++[])++[]),false=false->au [c3=true->au ([]++([c3=true]++([]++([]++([]++([]++([]++[]))))))++[c30=true->au ([c23]++([]++[])++[]),c30=false->au ([c23]++([]++[])++[])]),c3=false->au ([]++([c3=false]++([]++([]++([]++([]++([]++[]))))))++[false=true->au ([c23]++([]++[])++[]),false=false->au ([c23]++([]++[])++[])])]])]]),c3=false->au ([]++([c3=false]++([]++([]++([]++([]++([]++[]))))))++[false=true->au ([c23]++([]++[])++[]),false=false->au [c3=true->au ([]++([c3=true]++([]++([]++([]++([]++([]++[]))))))++[c14=true->au ([c23]++([]++[])++[]),c14=false->au [c3=true->au ([]++([c3=true]++([]++([]++([]++([]++([]++[]))))))++[c30=true->au ([c23]++([]++[])++[]),c30=false->au ([c23]++([]++[])++[])]),c3=false->au ([]++([c3=false]++([]++([]++([]++([]++([]++[]))))))++[false=true->au ([c23]++([]++[])++[]),false=false->au ([c23]++([]++[])++[])])]]),c3=false->au ([]++([c3=false]++([]++([]++([]++([]++([]++[]))))))++[false=true->au ([c23]++([]++[])++[]),false=false->au [c3=true->au ([]++([c3=true]++([]++([]++([]++([]++([]++[]))))))++[c30=true->au ([c23]++([]++[])++[]),c30=false->au ([c23]++([]++[])++[])]),c3=false->au ([]++([c3=false]++([]++([]++([]++([]++([]++[]))))))++[false=true->au ([c23]++([]++[])++[]),false=false->au ([c23]++([]++[])++[])])]])]]),c23] (aj [c23] (aj [c23,c23,c23,c23,c23,c23,c23,c23] (aj [c25,c42,c25,ej (fun i=>nth c10 c11 (i+0)) 2 1000,er c18,er c31,c29,c29] (aj [bQ (fun i=>rat (↑(intOf (nth c12 c33 (i+0+0))):Rat) 64) 4 64,ej (fun i=>nth c7 c11 (i+0)) 2 300,(4:Nat)<2^30,(2:Nat)<2^30,c25,c42,bQ (fun i=>rat (gO 4 (fun i=>aC (rat (↑(intOf (nth c12 c33 (i+0+0))):Rat) 64)) i) 1000) 4 1000,ej (fun i=>aJ (aT (nth c7 c11 ((2:Nat)-1-i+0))) 300) 2 1000,EG c18 (Cu.mk (1:Int) 4 (fun i=>aC (rat (gO 4 (fun i=>aC (rat (↑(intOf (nth c12 c33 (i+0+0))):Rat) 64)) i) 1000)) 2 fun i=>aT (aJ (aT (nth c7 c11 ((2:Nat)-1-i+0))) 300))] (aj [(bif c3 then bif c22 then false else c41 else bif false then false else c41)=true,c23,decide (c27=0)=true,(bif true then decide (c26=0)else false)=true,(bif true then bif true then decide (c28=c9)else false else false)=true,(bif true then dO c18 c31 else false)=true,(bif true then c52==c52 else false)=true,(bif true then c53==c53 else false)=true,(bif true then !false else false)=true] (leaf ret [AV.bool true]))))))):=ah
theorem Sj:bf P LN 23:=by
 refine cM fun K args r hk hs _=>?_
 have fin:∀{q:Rat} {n a b:Nat} {t:ag (List AV)} {l:List UInt8},kids (.rat q n)=[.bool false,.mag a,.mag b]->bF T x9 [] 60 f23 (aF f23) ⟨aS 0 [.agg [.bool false,.mag a,.mag b]],[],0⟩=some t->(t.all fun _ us=>fA us (.str l))->aN P 23 K [.rat q n] [] (aH (.str l) []):=fun h0 h1 h2=>
  eR (bM (r:=aH _ []) hT Vr hm Zc rfl aW rfl 60 h1 (fun _=>h2) K []) rfl (show dA [_] [_]from⟨by rw[<-h0];exact Ib,trivial⟩) []
 split at hs
 ·rename_i q n
  split at hs
  all_goals simp only[ax,reduceCtorEq]at hs
  all_goals subst hs
  ·obtain rfl:q=1/4:=of_decide_eq_true ‹_›
   exact fin ah ae8 (.refl _)
  ·obtain rfl:q=1/2:=of_decide_eq_true ‹decide (q=1/2)=true›
   exact fin ah SN (.refl _)
 ·simp at hs
theorem LK:bg P CU:=aE (cT hT (cB pg) hm (aM func103) _ _) (aE (cT hT (cB pg) hm (aM func104) _ _) bD)
theorem Ln:bg P Cp:=aE (cT hT (cB (iK LK pg)) hm (aM func51) _ _) (aE (cT hT (cB pg) hm (aM func52) _ _) bD)
theorem WL:bg P JF:=aE (cT hT (cB (iK Ln LK)) hm (aM func53) _ _) bD
theorem Ty:bg P JS:=aE (cT hT (cB (iK WL Ln)) hm (aM func15) _ _) bD
theorem Uy (hE:∀K args pre r,zL K args pre=some r->aN P 21 K args pre r):bg P L4:=cB (aE Nr (aE hE (aE (Z8 (by decide) (by decide)) (aE Sj (aE (cT hT (cB (iK Fp j8)) hm He _ _) (iK Ty (iK U0 (aE (cT hT (cB j8) hm (aM func19) _ _) (iK Pz j8)))))))))
theorem aaf {x y z d:Rat} {a b c e w:Nat} {q:Pl} (h1:x=q.n.x) (h2:y=q.n.y) (h3:z=q.n.z) (h4:d=q.d) (ka:a<=w) (kb:b<=w) (kc:c<=w) (ke:e<=w):bp (.agg [.agg [.rat x a,.rat y b,.rat z c],.rat d e]) (aJ q w):=
 cj ⟨cj ⟨bC h1 ka,bC h2 kb,bC h3 kc,trivial⟩,bC h4 ke,trivial⟩
theorem vU {p q:Pl} (h1:p.n.x=q.n.x) (h2:p.n.y=q.n.y) (h3:p.n.z=q.n.z) (h4:p.d=q.d):p=q:=by
 obtain⟨⟨a,b,c⟩,d⟩:=p
 obtain⟨⟨x,y,z⟩,w⟩:=q
 dsimp only at h1 h2 h3 h4
 subst h1 h2 h3 h4;rfl
set_option maxHeartbeats 2000000 in
theorem SS (hE:∀K args pre r,zL K args pre=some r->aN P 21 K args pre r) (K:Nat):aN P 6 K [] [] (aH (.bool true) []):=by
 refine bM (r:=aH (.bool true) []) hT (Uy hE) hm (aM func6) rfl aW rfl 400 Yx (fun _=>?_) K []
 simp only[ag.all,au,List.append_nil,List.nil_append]
 (repeat' with_reducible first|refine And.intro ?_ ?_)
 all_goals first|omega|(with_reducible exact .refl _)|(with_reducible decide+kernel)|skip
 all_goals first|exact jz|exact bp.refl _|(intro i hi;match i,hi with|0,_|1,_|2,_|3,_=>exact bC rfl (by decide+kernel))|(intro i hi;match i,hi with|0,_|1,_=>exact aaf rfl rfl rfl rfl (by decide+kernel) (by decide+kernel) (by decide+kernel) (by decide+kernel))|skip
 all_goals first|(refine⟨jz,jz,fun i hi=>?_,vU (by decide+kernel) (by decide+kernel) (by decide+kernel) (by decide+kernel),vU (by decide+kernel) (by decide+kernel) (by decide+kernel) (by decide+kernel),vU (by decide+kernel) (by decide+kernel) (by decide+kernel) (by decide+kernel),vU (by decide+kernel) (by decide+kernel) (by decide+kernel) (by decide+kernel)⟩;match i,hi with|0,_|1,_|2,_|3,_=>exact⟨by decide+kernel,by decide+kernel⟩)|skip
 all_goals first|(simp+contextual only[au,List.cons_append,List.nil_append,Nat.zero_lt_one,implies_true,and_true,true_and,and_self];done)|skip
 all_goals (intro h;simp only[h,au,List.cons_append,List.nil_append,Nat.zero_lt_one,implies_true,and_true,true_and,and_self,reduceCtorEq,false_implies,true_implies,eq_self])
abbrev two (p q:Rat) (n m:Nat) (i:Nat):AV:=if i=0 then .rat p n else .rat q m
def ER:Spec:=oF fun K l=>match l with
 |[.ak 3 2 f]=>match iD (f 0),iD (f 1)with
  |some (p,n),some (q,m)=>some ⟨jx [.own K 3 0 2],[(K,⟨true,true,3,2,two p q (n+2) (m+2)⟩)],[n<2^40,m<2^40]⟩
  |_,_=>none
 |_=>none
def JA:aV:=[(205,cQ T (zG::(206,ER)::gy) [] 400 f205),(161,cQ T (sG::gy) [] 60 f161)]
def Jf:aV:=zG::(206,ER)::(JA++gy)
def Oi:aV:=[(204,cQ T (sG::gy) [100010] 60 f204)]
def Bb:aV:=[(193,cQ T (sG::(Oi++(A8++gy))) [200020] 200 f193),(159,cQ T (sG::(187,cQ T (sG::gy) [] 60 f187)::gy) [] 200 f159),(194,cQ T Jf [100024] 400 f194),(188,cQ T (sG::gy) [] 100 f188)]
def Lt:aV:=sG::(Bb++gy)
def KW:aV:=zG::eV
theorem Qf {p q:Rat} {n m:Nat}:aL T KW [] 200 [2] [aF f206] ⟨aS 0 [.ak 3 2 (two p q n m)],[],0⟩=
  let c6:Prop:=0<1;let c5:Nat:=2^42;let c4:Int:=(2:Int)^63;let c3:Nat:=Int.toNat (0:Int);let c2:Int:=(↑(2:Nat):Int);let c1:Int:=(0:Int)+1;let c8:Nat:=c3+0;let c7:Nat:=c1.toNat+0;some (aj [(0:Int)<=c2/\c2<=c2/\c2<=2^47/\c2*(↑(56:Nat):Int)<=2^47] (aj [(0:Int)<=0/\c3<2,c6] (aj [c6,n<c5,(1:Nat)<c5,(0:Int)<=0/\c3<c2.toNat,c8<c2.toNat] (aj [-c4<=c1/\c1<c4] (aj [(0:Int)<=c1/\c1.toNat<2,c6] (aj [c6,m<c5,(1:Nat)<c5,(0:Int)<=c1/\c1.toNat<c2.toNat,c7<c2.toNat] (aj [-c4<=c1+1/\c1+1<c4] (leaf ret ([own 12288 3 0 2],[(12288,az.mk true true 3 2 fun j=>rat (bif j==c7 then q+0 else bif j==c8 then p+0 else 0) (bif j==c7 then m+1+1 else bif j==c8 then n+1+1 else 1))]))))))))):=ah
theorem UJ:aX 206 f206:=aM func206
theorem Tp:bg P KW:=Bq fB
theorem F4:bf P ER 206:=by
 refine qd fun K args r hk hs=>?_
 split at hs
 ·rename_i f
  split at hs
  ·rename_i p n q m h0 h1
   simp only[ax]at hs
   subst hs
   refine DK hT UJ (args0:=[.ak 3 2 (two p q n m)]) (fun _=>rT hk rfl ⟨dB fun i hi=>?_,trivial⟩) aW fun need c hkp=>?_
   ·match i,hi with
    |0,_=>exact jf h0
    |1,_=>exact jf h1
   ·obtain⟨b1,b2⟩:n<2^40/\m<2^40:=need
    refine ay.bH hT Tp hm 200 [2] Qf ah ?_
    simp only[ag.all,au]
    (repeat' with_reducible refine And.intro ?_ ?_)
    all_goals first|omega|decide|skip
    intro s' hs'
    refine⟨.inr trivial,[2],_,[.own 12288 3 0 2],_,12288,_,hs',ah,⟨⟨rfl,dx (by simp[bA,look]) rfl rfl⟩,trivial⟩,rfl,jm rfl fun i hi=>?_⟩
    match i,hi with
    |0,_|1,_=>exact lg rfl (bC (Rat.add_zero _) (by simp))
  ·simp at hs
 ·simp at hs
theorem abD {f:Nat->Pl}:bF T Lt [200046] 400 f158 (aF f158) ⟨aS 0 [bk (aU bh f) 64 64,.rat 0 1,.rat 1 1],[],0⟩=
  let c59:Int:=(2:Int)^47;let c55:Nat:=64+1+1;let c49:Int:=(↑(2:Nat):Int);let c46:Nat:=Max.max 1 (bN (Int.natAbs (1:Int)));let c40:Nat:=2^40;let c30:Prop:=1*3<=2^24;let c29:AV:=rat 0 1;let c28:Nat:=64+64+2;let c25:Nat:=56+1;let c23:Nat:=2^47;let c22:Int:=(0:Int)+1;let bK:Nat:=1+1;let c17:Int:=(2:Int)^63;let c12:Prop:=0<1;let c8:Rat:=bh (i64.wrap ((↑(4:Nat):Int)-1)).toNat;let c6:Nat:=Int.toNat (0:Int);let c4:Nat:=1+Max.max 64 64+1+(Max.max 64 64+Max.max 64 64+1);let c60:Rat:=cq (bh c6) c8;let c58:Prop:=c22.toNat+0<2;let c51:Prop:=(0:Int)<=c22/\c22.toNat<2;let c50:Prop:=(c6+1)*c25*2<=c23;let c48:Rat:=cr (bh c6) c8;let c45:Prop:=-c17<=c22/\c22<c17;let c44:Prop:=bK*c25*2<=c23;let c43:Nat:=bK+1;let c42:Prop:=(c6+1+1)*c25*2<=c23;let c38:Prop:=c12/\1*c25*2<=c23;let c37:Prop:=(0:Int)<=0/\(0:Int)<=(↑bK:Int)/\(↑bK:Int)<=c59/\(↑bK:Int)*(↑(56:Nat):Int)<=c59;let c24:Nat:=c55+2;let c21:Prop:=(0:Int)<=0/\c6<2;let c19:Int:=c49-1;let c18:Nat:=c6+0;let c16:Nat:=c46+c4+1;let c10:Pl:=f (i64.wrap c22).toNat;let c56:Nat:=c16+c24+(c4+c24)+1;let c54:Nat:=c16+c28+(c4+c28)+1;let c52:Nat:=c4+c4+1+c16;let c47:Prop:=-c17<=c19-1/\c19-1<c17;let c41:Prop:=c18<2;let c39:Prop:=-c17<=c19-1-(1:Int)/\c19-1-(1:Int)<c17;let c35:Rat:=c60-c48;let c34:Bool:=1+0==c18;let c27:Bool:=0+0==c18;let c57:Bool:=!(if c35=0 then(3:Int)else(0:Int))==0;let c11:Nat:=bif c27 then c54 else c28;let c9:List Prop:=[(0:Int)<=0/\(0:Int)<=c49/\c49<=c59/\c49*(↑(56:Nat):Int)<=c59,-c17<=c19/\c19<c17,c21,c41,c30,c50,c12,c21,c41,c12,c45,c51,c58,c21,c41,c45,c47,c21,c41,c30,c42,c39];let c7:Nat:=bif c27 then c56 else c24;let c1:Rat:=((0:Rat)-c48)/c35;let c36:Nat:=c11+2+1+1+(c7+2+1+1);let c26:Rat:=(↑(1:Int):Rat)-c1;let c13:Nat:=(bif c18==c18 then c46+c52+1+(c7+2)+(c52+((bif c34 then c56 else c24)+2))+1 else c7+2)+1+1;let c33:Rat:=bif c27 then c26*((f c6).d*(f c6).n.y)+c1*(c10.d*c10.n.y)else(f c6).d*(f c6).n.y;let c32:Rat:=bif c27 then c26*((f c6).d*(f c6).n.x)+c1*(c10.d*c10.n.x)else(f c6).d*(f c6).n.x;let c31:Rat:=bif c27 then c26*((f c6).d*(f c6).n.z)+c1*(c10.d*c10.n.z)else(f c6).d*(f c6).n.z;let c15:Rat:=(((1:Rat)-c48)/c35-c1)/c26;let c14:Rat:=bif c27 then c26*((f c6).d+0)+c1*(c10.d+0)else(f c6).d+0;let c3:List Prop:=c12::c12::c12::c12::c12::((eO c26 !=(0:Int))=true)::c12::c12::c12::((64:Nat)+64<c40)::((64:Nat)+64<c40)::c37::(-c17<=c19/\c19<c17)::c21::c41::c30::c50::c12::c21::c41::c12::c45::c51::c58::c21::c41::c45::c47::c21::c41::c30::c42::c39::c12::c12::c12::c12::c12::c12::(c11<c40)::((bif c34 then c54 else c28)<c40)::c9;let c2:Nat:=(bif c18==c18 then c46+c52+1+(c11+2)+(c52+((bif c34 then c54 else c28)+2))+1 else c11+2)+1+1+c13;let c53:Rat:=(↑(1:Int):Rat)-c15;let c5:Rat:=(bif c18==c18 then c53*c14+c15*bif c34 then c26*((f c6).d+0)+c1*(c10.d+0)else c10.d+0 else c14)+0;some (aj [c12,c12,decide (dn c48 0<=(0:Int))=true,(bif c49==0 then true else !bif true then decide (dn 0 c60<=0)else false)=false,c12,c12,c12] (aj [c12,c12,decide (dn c48 1<=(0:Int))=true,(bif c49==0 then true else !bif true then decide (dn 1 c60<=0)else false)=false,c12,c12,c12] (aj [(bif bif c57 then true else c57 then true else decide (dn 0 1>=(0:Int)))=false] (aj [c12,c38,c38,c38,c38,c12,c44,c44,c44,c44,c12] (aj c3 (aj c3 (aj c3 (aj (c12::c12::c12::c12::c12::((eO c26 !=(0:Int))=true)::c12::c12::c12::(c55<c40)::(c55<c40)::c37::(-c17<=c19/\c19<c17)::c21::c41::c30::c50::c12::c21::c41::c12::c45::c51::c58::c21::c41::c45::c47::c21::c41::c30::c42::c39::c12::c12::c12::c12::c12::c12::(c7<c40)::((bif c34 then c56 else c24)<c40)::c9) (aj [c38] (aj [c44] (aj [c43*c25*2<=c23] (aj [(c43+1)*c25*2<=c23] (aj [c12,c12/\1*((224:Nat)+1)*2<=c23] (aj [c12,bK*((224:Nat)+1)*2<=c23] (aj [c12] (leaf ret [agg [int i64 1,ak 3 4 fun i=>if i+0<c43 then if i+0<bK then if i+0<1 then nth [rat ((0:Rat)+0) c43] c29 (i+0+0)else nth [rat ((0:Rat)+0) c43] c29 (i+0-1+0)else nth [rat ((1:Rat)+0) c43] c29 (i+0-bK+0)else nth [rat ((1:Rat)+0) c43] c29 (i+0-c43+0),ak 12 2 fun i=>if i+0<1 then nth [agg [agg [rat ((c32+0)/(c14+0)) c36,rat ((c33+0)/(c14+0)) c36,rat ((c31+0)/(c14+0)) c36],rat (c14+0+0) (c7+2+1+1+1+1)]] (agg [agg [c29,c29,c29],c29]) (i+0+0)else nth [agg [agg [rat (((bif c18==c18 then c53*c32+c15*bif c34 then c26*((f c6).d*(f c6).n.x)+c1*(c10.d*c10.n.x)else c10.d*c10.n.x else c32)+0)/c5) c2,rat (((bif c18==c18 then c53*c33+c15*bif c34 then c26*((f c6).d*(f c6).n.y)+c1*(c10.d*c10.n.y)else c10.d*c10.n.y else c33)+0)/c5) c2,rat (((bif c18==c18 then c53*c31+c15*bif c34 then c26*((f c6).d*(f c6).n.z)+c1*(c10.d*c10.n.z)else c10.d*c10.n.z else c31)+0)/c5) c2],rat (c5+0) (c13+1+1)]] (agg [agg [c29,c29,c29],c29]) (i+0-1+0)],int i64 0])))))))))))))))):=ah
theorem OJ:aX 187 f187:=aM func187
theorem abN:aX 188 f188:=aM func188
theorem Yq:aX 155 f155:=aM func155
theorem YT:aX 154 f154:=aM func154
def dg (p:Pl):Pl:=⟨⟨p.d*p.n.x,p.d*p.n.y,p.d*p.n.z⟩,p.d⟩
def iq (h:Pl):Pl:=⟨⟨h.n.x/h.d,h.n.y/h.d,h.n.z/h.d⟩,h.d⟩
abbrev p5 (f:Nat->Pl) (n s:Nat):AV:=.ak 12 n (fun i=>b7 (f i) s)
abbrev fF (c:Cu) (s r:Nat):AV:=.agg [.int .i64 c.p,bq c.k c.n s,p5 c.f c.m r]
def MQ:aV:=nG::eV
def x5:aV:=nG::(187,cQ T MQ [] 80 f187)::eV
abbrev wB:List Nat:=[2,3,12,13,14]
abbrev E5 (c:Cu) (r i:Nat):List AV:=[.ptr 0 0 3 0 [],.ptr 1 0 3 0 [],pM c.f c.m r,.int .i64 c.m,.int .i64 i]
abbrev Cw (c:Cu) (x w i:Nat):aD:=[(2,⟨true,true,12,i,fun j=>b7 (dg (c.f j)) w⟩),(1,⟨false,true,3,1,fun _=>.agg [.int .i64 c.p,bq c.k c.n x,.own 2 12 0 i]⟩),(0,⟨false,true,3,1,fun _=>.agg [.int .i64 0,.nil,.nil]⟩)]
abbrev xO:Code:=aF f155
def Gy:aV:=nG::(37,fL kR kR rq nX)::eV
abbrev AJ (c:Cu) (r:Nat):az:=⟨false,true,3,1,fun _=>fF c sK r⟩
def qD:AV->Pl
 |.agg [x,y,z,w]=>⟨⟨aC x,aC y,aC z⟩,aC w⟩
 |_=>⟨⟨0,0,0⟩,0⟩
def qx (f:Nat->AV) (n s:Nat):Prop:=∀i,i<n->bp (f i) (b7 (qD (f i)) s)
theorem XW {v:AV} {n s:Nat} {f:Nat->AV} (h:tU v=some (n,f)) (ha:qx f n s):bp v (p5 (fun i=>qD (f i)) n s):=by
 unfold tU at h
 split at h
 ·simp only[ax,Prod.mk.injEq]at h
  obtain⟨rfl,rfl⟩:=h
  exact dB ha
 ·simp only[ax,Prod.mk.injEq]at h
  obtain⟨rfl,rfl⟩:=h
  exact lf aa
 ·simp at h
theorem Ue {h:Pl} {s:Nat}:bF T Gy [] 80 f188 (aF f188) ⟨aS 0 [b7 h s],[],0⟩=
  let c8:Int:=(↑(3:Nat):Int);let c7:Int:=(↑(4:Nat):Int);let c5:Int:=(2:Int)^63;let c4:Prop:=s<2^42;let c2:Prop:=0<1;let c1:Int:=(0:Int)+1;let c6:Int:=c1+1;let c3:Prop:=(0:Int)<=3/\(3:Int)<c7;some (aj [c3,c2,c4,(1:Nat)<2^42,c2] (aj [(0:Int)<=0/\(0:Int)<c7,c2,c3,c2,c4,c4,(0:Int)<=0/\(0:Int)<c8,c2] (aj [-c5<=c1/\c1<c5] (aj [(0:Int)<=c1/\c1<c7,c2,c3,c2,c4,c4,(0:Int)<=c1/\c1<c8,c2] (aj [-c5<=c6/\c6<c5] (aj [(0:Int)<=c6/\c6<c7,c2,c3,c2,c4,c4,(0:Int)<=c6/\c6<c8,c2] (aj [-c5<=c6+1/\c6+1<c5] (aj [c2,c2] (aj [c2] (leaf ret [agg [agg [rat (h.n.x/h.d) (s+s),rat (h.n.y/h.d) (s+s),rat (h.n.z/h.d) (s+s)],rat (h.d+0) (s+1+1)]])))))))))):=ah
theorem WT {c:Cu} {x r:Nat}:aL T x5 [] 60 wB (before xO [1,1,0,1]) ⟨aS 0 [bk c x r],[],0⟩=
  let c2:Prop:=0<1;let c1:AV:=agg [int i64 0,nil,nil];some (aj [c2,c2,c2] (aj [c2] (leaf normal ([ptr 4096 0 3 0 [],ptr 28672 0 3 0 [],ak 12 c.m fun i=>aJ (c.f i) r,int i64 (↑c.m:Int),int i64 0],[((28672:Nat),bL fun j=>if(j==0)=true then bE (agg ((c1.kids.set 0 (bE (int i64 c.p))).set 1 (bE (bq c.k c.n x))))else c1),((4096:Nat),bL fun x=>c1)])))):=ah
theorem acz {c:Cu} {x r w i:Nat}:aL T x5 [15] 60 wB [part xO [1,1,0,1,0,0]] ⟨aG wB (E5 c r i),Cw c x w i,3⟩=
  let c17:Int:=(↑c.m:Int);let c16:Int:=(↑(3:Nat):Int);let c15:AV:=own 2 12 0 i;let c14:AV:=ptr 1 0 3 0 [];let c13:AV:=ptr 0 0 3 0 [];let c12:Int:=(↑(4:Nat):Int);let c11:Int:=(↑i:Int);let c10:AV:=rat 0 1;let c7:Nat×az:=((0:Nat),bL fun x=>agg [int i64 0,nil,nil]);let c5:AV:=ak 12 c.m fun i=>aJ (c.f i) r;let c4:Int:=(2:Int)^63;let c3:Prop:=r<2^42;let c2:Int:=(0:Int)+1;let c1:Prop:=0<1;let c18:Int:=c11+1;let c9:AV:=agg [int i64 c.p,bq c.k c.n x,c15];let c8:Int:=c2+1;let c6:Pl:=c.f c11.toNat;some (fork (decide (c11<c17)) (aj [(0:Int)<=c11/\c11.toNat<c.m,c1] (aj [c1,c1,c1,(0:Int)<=0/\(0:Int)<c16,c1,c1,c1,c3,c3,(0:Int)<=0/\(0:Int)<c12,c1,-c4<=c2/\c2<c4,(0:Int)<=c2/\c2<c16,c1,c1,c1,c3,c3,(0:Int)<=c2/\c2<c12,c1,-c4<=c8/\c8<c4,(0:Int)<=c8/\c8<c16,c1,c1,c1,c3,c3,(0:Int)<=c8/\c8<c12,c1,-c4<=c8+1/\c8+1<c4,c1,c3,(1:Nat)<2^42,(0:Int)<=3/\(3:Int)<c12,c1,c1,c1,c1,(1:Nat)*12<=2^24,(i+1)*((224:Nat)+1)*2<=2^47,c1] (aj [-c4<=c18/\c18<c4] (leaf normal ([c13,c14,c5,int i64 c17,int i64 c18],[(40963,az.mk true true 12 (i+1) fun i_1=>if i_1<i then b7 (dg (c.f i_1)) w else nth [agg [rat (c6.d*c6.n.x) (r+r),rat (c6.d*c6.n.y) (r+r),rat (c6.d*c6.n.z) (r+r),rat (c6.d+0) (r+1+1)]] (agg [c10,c10,c10,c10]) (i_1-i+0)),((1:Nat),bL fun j=>if(j==0)=true then agg (c9.kids.set 2 (bE (own (nat_lit 40962+1) 12 0 (i+1))))else c9),c7]))))) (leaf (exit 0) ([c13,c14,c5,int i64 c17,int i64 c11],[(2,az.mk true true 12 i fun j=>b7 (dg (c.f j)) w),((1:Nat),bL fun x_1=>agg [int i64 c.p,ak 3 c.n fun i=>rat (c.k i) x,c15]),c7]))):=ah
theorem VF {c:Cu} {x r w i:Nat}:cP T x5 [] 60 f155 [part xO [1,1,1]] ⟨aG wB (E5 c r i),Cw c x w i,3⟩=
  let c1:Prop:=0<1;some (aj [c1,c1] (aj [c1] (leaf ret [agg [int i64 c.p,ak 3 c.n fun i=>rat (c.k i) x,ak 12 i fun i=>b7 (dg (c.f (i+0))) w]]))):=ah
theorem agN:bg P MQ:=eP fB
theorem ae3:bg P x5:=eP (aE (cT hT agN hm OJ _ _) fB)
theorem YS:bg P Gy:=eP (aE (fQ fun _ _ K hn=>uG hn.1 hn.2 K) fB)
theorem yu {rl:List (Nat×Nat)} {l i:Nat} {f g:Nat->AV} {v z:AV} (hf:∀i,i<l->f i=g i/\keys (f i)=[]) (hk:keys v=[]) (hv:bp v (g l)) (hi:i<l+1):iz rl (if i<l then f i else nth [v] z (i-l+0)) (g i):=by
 by_cases h:i<l
 ·rw[if_pos h];exact eJ (hf i h).2 (hf i h).1
 ·have:i=l:=aa
  subst this
  rw[if_neg h,Nat.sub_self]
  exact .inr ⟨hk,hv⟩
theorem uA {rl:List (Nat×Nat)} {p:Int} {v:AV} {a b i:Nat} (hv:keys v=[]) (ht:v.isTuple=false) (h:bA rl b=some a):iz rl (.agg [.int .i64 p,v,.own a 12 0 i]) (.agg [.int .i64 p,v,.own b 12 0 i]):=
 mC ⟨aP,⟨ht,gu hv⟩,⟨rfl,dx h rfl rfl⟩,trivial⟩
theorem La {h h':Pl} {s s':Nat} (e:h=h') (hs:s<=s'):bp (b7 h s) (b7 h' s'):=e▸cj ⟨bC rfl hs,bC rfl hs,bC rfl hs,bC rfl hs,trivial⟩
theorem QU {h:Pl} {s w:Nat} (hs:s<2^40) (h1:s+s<=w) (h2:s+2<=w) (K:Nat):aN P 188 K [b7 h s] [] (aH (aJ (iq h) w) []):=by
 refine bM (r:=aH (aJ (iq h) w) []) hT YS hm abN rfl aW rfl 80 Ue (fun _=>?_) K []
 simp only[ag.all,au]
 (repeat' with_reducible refine And.intro ?_ ?_)
 all_goals first|omega|skip
 exact cj ⟨cj ⟨bC rfl h1,bC rfl h1,bC rfl h1,trivial⟩,bC (Rat.add_zero _) aa,trivial⟩
theorem UL {c:Cu} {x r w:Nat} (h1:r+r<=w) (h2:r+2<=w) (hw:w<2^40) (hn:c.n<2^40) (hm2:c.m<2^30) (K:Nat):aN P 155 K [bk c x r] [] (aH (.agg [.int .i64 c.p,bq c.k c.n x,p5 (fun i=>dg (c.f i)) c.m w]) []):=by
 refine iu (r:=aH (.agg [.int .i64 c.p,bq c.k c.n x,p5 (fun i=>dg (c.f i)) c.m w]) []) hT ae3 hm Yq rfl aW rfl [1,1,0,1] (i:=0) (y:=part xO [1,1,0,1,0,0]) (z:=part xO [1,1,1]) ah ah ah (f1:=[]) (f2:=[15]) (f3:=[]) 60 wB 3
  (fun i:Nat=>E5 c r i) (fun i=>Cw c x w i) (fun i=>i<=c.m) (fun i=>i=c.m) (fun i=>c.m-i) (fun _=>⟨⟨_,WT,?_⟩,fun i hi=>⟨_,acz,?_⟩,fun i hi=>⟨_,VF,?_⟩⟩) K []
 ·simp only[ag.all,au]
  exact⟨aa,aa,0,Nat.zero_le _,[(0,4096),(1,28672)],rfl,rfl,rfl,lO rfl aa aa (fj rfl rfl (mC ⟨aP,aP,⟨rfl,oO aa⟩,trivial⟩) (aY trivial))⟩
 ·set_option maxRecDepth 10000 in simp only[ag.all,au,bz,bG,br,Nat.add_zero]
  refine⟨fun h=>⟨aa,aa,aa,i+1,aa,by dsimp only;omega,[(0,0),(1,1),(2,40963)],rfl,rfl,rfl,cJ rfl rfl rfl (fun j hj=>yu (g:=fun j=>b7 (dg (c.f j)) w) (fun _ _=>⟨rfl,rfl⟩) rfl (cj ⟨bC rfl h1,bC rfl h1,bC rfl h1,bC (Rat.add_zero _) aa,trivial⟩) hj) (fj rfl rfl (uA rfl rfl rfl) (aY trivial))⟩,
   fun h=>⟨rfl,i,aa,[(0,0),(1,1),(2,2)],rfl,rfl,rfl,mI (fj rfl rfl (uA rfl rfl rfl) (aY trivial))⟩⟩
 ·subst hi
  simp only[ag.all,au]
  exact⟨aa,aa,.refl _⟩
def xW (s r:Nat):Kind Cu:=⟨fun v=>match v with
 |.agg [p,k,f]=>match kI.read p,(kL s).read k,tU f with
  |some (p,q1),some ((n,k),q2),some (m,f)=>some (⟨p,n,k,m,fun i=>qD (f i)⟩,q1++(q2++[qx f m r]))
  |_,_,_=>none
 |_=>none,fun a=>fF a s r,fun {v a q} h hq=>by
  split at h
  ·split at h
   ·rename_i h1 h2 h3
    simp only[ax,Prod.mk.injEq]at h
    obtain⟨rfl,rfl⟩:=h
    obtain⟨q1,hq⟩:=dN.1 hq
    obtain⟨q2,q3⟩:=dN.1 hq
    exact cj ⟨kI.ok h1 q1,(kL s).ok h2 q2,XW h3 q3,trivial⟩
   ·simp at h
  ·simp at h⟩
def qF (c:Cu):Prop:=Kn c.n c.p.toNat c.k/\1<=c.p/\c.p<=6/\c.n<=c.p.toNat+41/\(c.m:Int)=(c.n:Int)-c.p-1
def Fu:aV:=nG::(185,Ki)::(186,Ar)::[]
def MA:Spec:=cF (kC (gk sJ sJ) kN) (fun _=>.bool true) fun a=>[qF a.1]
theorem aay {c:Cu}:bF T Fu [100009] 60 f154 (aF f154) ⟨aS 0 [bk c sJ sJ],[],0⟩=
  let c2:Prop:=c.n<2^40;let c1:Prop:=0<1;some (aj [c1,c1,bQ (fun i=>rat (c.k i) sJ) c.n sJ,c2,(iN c.n (fun i=>aC (rat (c.k i) sJ)) c.p==0)=true,c1,c1,c1,bQ (fun i=>rat (c.k i) sJ) c.n sK,c2,-(2:Int)^40<c.p,c.p<2^40] (leaf ret [AV.bool (bif true then(↑c.m:Int)==(↑c.n:Int)-c.p-1 else false)])):=ah
theorem ZW:bg P Fu:=eP (aE agH (aE BG bD))
theorem abq:bf P MA 154:=cC fun⟨c,_⟩ K hn=>by
 obtain⟨h1,h2,h3,h4,h5⟩:qF c:=hn
 refine bM (r:=aH (.bool true) []) hT ZW hm YT rfl aW rfl 60 aay (fun _=>?_) K []
 have hc0:iN c.n c.k c.p=0:=by have:=h1.Tg aa h4;rwa [Int.toNat_of_nonneg aa]at this
 simp only[ag.all,au]
 exact⟨⟨aa,aa,cV aR,aa,beq_iff_eq.2 hc0,aa,aa,aa,cV (by decide),aa,aa,aa⟩,gZ (beq_iff_eq.2 h5)⟩
theorem div_one {a b:Rat}:a/b=((1:Int):Rat)/b*a:=by
 rw[Rat.div_def,Rat.div_def,show((1:Int):Rat)=1 from rfl,Rat.one_mul,Rat.mul_comm]
abbrev kK (m:Nat) (c:Nat->Rat):az:=⟨true,true,3,m,fun i=>.rat (c i) sK⟩
abbrev oA:List Nat:=[10,11,2,4,0,1,3,12,66,67,68]
abbrev tf (n:Nat) (k:Nat->Rat) (p m:Nat) (a:Nat->Rat) (i:Nat) (r:Nat):List AV:=[.ptr 1 0 3 0 [],.int .i64 0,.own 0 3 0 m,ls a p,ls k n,.int .i64 p,.int .i64 i,.own 2 3 0 (p+1),ls a p,.int .i64 p,.int .i64 r]
abbrev mY (p m:Nat) (c:Nat->Rat) (x:Nat->Rat) (s:Nat->Nat):aD:=[(2,Ad (p+1) x s),(1,zO),(0,kK m c)]
abbrev xK:List Nat:=[10,11,2,4,0,1,3,12,66,67,68,13,14,15]
abbrev B8 (n:Nat) (k:Nat->Rat) (p m:Nat) (a:Nat->Rat) (i:Nat) (r j:Nat):List AV:=[.ptr 1 0 3 0 [],.int .i64 0,.own 0 3 0 m,ls a p,ls k n,.int .i64 p,.int .i64 i,.own 2 3 0 (p+1),ls a p,.int .i64 p,.int .i64 r,.int .i64 r,.ptr 3 0 3 0 [],.int .i64 j]
theorem Qz {n m p l:Nat} {k c a:Nat->Rat} {i:Int}:aL T qf [18,25,36,42,32] 60 oA (before yx [1,1,1,1,0,1]) ⟨aS 0 [ls k n,.int .i64 p,.own 0 3 0 m,.int .i64 i,ls a l],[(0,kK m c)],1⟩=
  let c28:Prop:=n<2^40;let c27:Prop:=sK<2^42;let c26:Prop:=bQ (fun i=>rat (k i) sK) n sK;let c25:AV:=own 0 3 0 m;let c24:Int:=i+1;let c23:AV:=ak 3 n fun i=>rat (k i) 4096;let bK:Int:=(2:Int)^40;let c19:AV:=rat 0 1;let c17:Nat×az:=(0,az.mk true true 3 m fun i=>rat (c i) 4096);let c15:AV:=ptr 1 0 3 0 [];let c14:AV:=ak 3 l fun i=>rat (a i) 4096;let c13:Int:=(2:Int)^63;let c12:Int:=(↑m:Int);let c5:Int:=(↑p:Int);let c21:Bool:=decide (i<c5);let c18:Bool:=c12 !=(↑n:Int)-c5-1;let c16:Bool:=bif false then true else decide (i>=c12);let c11:Int:=c5+1;let c10:Int:=dn (k i.toNat) (k c24.toNat);let c8:List AV:=[c25,c14,c23,int i64 c5,int i64 i,tuple [],tuple [],tuple [],tuple []];let c7:List Prop:=[(0:Int)<=i/\i.toNat<n,-c13<=c24/\c24<c13,(0:Int)<=c24/\c24.toNat<n,c27,c27];let c6:List (Nat×az):=[c17,((1:Nat),bL fun j=>if(j==0)=true then bE (agg c19.kids)else c19)];let c22:Bool:=bif false then true else decide (c10>=0);let c9:Nat:=0+Min.min (c12.toNat-(i-c5).toNat) c11.toNat;let c4:ag (List AV×aD):=aj [(0:Nat)<1] (leaf ret (c15::int i64 1::c8,c6));let c2:ag (List AV×aD):=aj [(0:Nat)<1] (leaf ret (c15::int i64 7::c8,c6));let c1:ag (List AV×aD):=aj [-c13<=c11/\c11<c13,(0:Int)<=c11/\c11<=c11/\c11<=2^47/\c11*(↑(56:Nat):Int)<=2^47] (aj [-c13<=i-c5/\i-c5<c13,(0:Int)<=i-c5/\i-c5<=c12/\c12<=c12/\c12<=c12] (leaf normal ([c15,int i64 0,c25,c14,c23,int i64 c5,int i64 i,own 163841 3 0 c11.toNat,c14,int i64 (↑l:Int),int i64 0],[(163841,az.mk true true 3 c11.toNat fun i_1=>if 0<=i_1/\i_1<c9 then rat (c (i_1-0+((0:Nat)+(i-c5).toNat))) sK else c19),c17,((1:Nat),bL fun x=>c19)])));let c3:ag (List AV×aD):=fork c21 (fork true (aj [c21=true,true=true] (fork true c2 c1)) (aj ((c21=true)::(true=false)::c7) (fork c22 c2 c1))) (fork c16 (aj [c21=false,c16=true] (fork true c2 c1)) (aj ((c21=false)::(c16=false)::c7) (fork c22 c2 c1)));some (fork c18 (aj [c26,c28,-bK<c5,c5<bK,c18=true] (fork true c4 c3)) (aj [c26,c28,-bK<c5,c5<bK,c18=false] (fork (bif false then true else(↑l:Int)!=c5) c4 c3))):=ah
theorem YM {e:Int} {m:Nat} {c:Nat->Rat}:wm T f211 .ret ⟨aG [10,11,2] [.ptr 1 0 3 0 [],.int .i64 e,.own 0 3 0 m],[(0,kK m c),(1,⟨false,true,3,1,fun j=>if(j==0)=true then bE (agg (kids (.rat 0 1)))else .rat 0 1⟩)],2⟩=
  some (aj [(0:Nat)<1] (leaf ret ([agg [AV.bool false,mag 0,mag 0],int i64 e],some (az.mk true true 3 m fun i=>rat (c i) 4096)))):=ah
theorem Wq {n p m i r:Nat} {k a c x:Nat->Rat} {s:Nat->Nat}:aL T qf [69] 60 oA (before qn [1,1,0]) ⟨aG oA (tf n k p m a i r),mY p m c x s,3⟩=
  let c3:Int:=(↑p:Int);let c2:AV:=ak 3 p fun i=>rat (a i) 4096;let c1:List AV×aD:=([ptr 1 0 3 0 [],int i64 0,own 0 3 0 m,c2,ak 3 n fun i=>rat (k i) 4096,int i64 c3,int i64 (↑i:Int),own 2 3 0 (p+1),c2,int i64 c3,int i64 (↑r:Int)],[(2,az.mk true true 3 (p+1) fun i=>rat (x i) (s i)),(0,az.mk true true 3 m fun i=>rat (c i) 4096),((1:Nat),bL fun x=>rat 0 1)]);some (fork (decide ((↑r:Int)<c3)) (leaf normal c1) (leaf (exit 1) c1)):=ah
theorem P4 {n p m i r:Nat} {k a c x:Nat->Rat} {s:Nat->Nat}:aL T qf [] 60 xK (before vM [1,1]) ⟨aG oA (tf n k p m a i r),mY p m c x s,3⟩=
  let c4:AV:=rat 0 1;let c3:Int:=(↑r:Int);let c2:AV:=int i64 (↑p:Int);let c1:AV:=ak 3 p fun i=>rat (a i) 4096;some (aj [(0:Int)<=c3/\c3.toNat<p,(0:Nat)<1] (leaf normal ([ptr 1 0 3 0 [],int i64 0,own 0 3 0 m,c1,ak 3 n fun i=>rat (k i) 4096,c2,int i64 (↑i:Int),own 2 3 0 (p+1),c1,c2,int i64 c3,int i64 c3,ptr 12291 0 3 0 [],c2],[((12291:Nat),bL fun j=>if(j==0)=true then bE (rat (a c3.toNat) sK)else c4),(2,az.mk true true 3 (p+1) fun i=>rat (x i) (s i)),(0,az.mk true true 3 m fun i=>rat (c i) 4096),((1:Nat),bL fun x=>c4)]))):=ah
theorem S7 {n p m i r j:Nat} {k a c x:Nat->Rat} {s:Nat->Nat} {t:Rat}:aL T qf [76] 60 xK [part vM [1,1,0,0]] ⟨aG xK (B8 n k p m a i r j),(3,tP t sK)::mY p m c x s,4⟩=
  let c27:Int:=(↑r:Int);let c23:Int:=(↑i:Int);let c21:AV:=own 0 3 0 m;let c19:Prop:=0<1;let c17:AV:=ptr 3 0 3 0 [];let c16:AV:=ptr 1 0 3 0 [];let c15:AV:=ak 3 n fun i=>rat (k i) 4096;let c13:Int:=(↑p:Int);let c12:Int:=(↑j:Int);let c11:Nat×az:=((3:Nat),bL fun x=>rat t 4096);let c10:Nat:=2^42;let c8:Nat:=p+1;let c7:AV:=ak 3 p fun i=>rat (a i) 4096;let c6:List (Nat×az):=[(0,az.mk true true 3 m fun i=>rat (c i) 4096),((1:Nat),bL fun x=>rat 0 1)];let c3:Int:=(2:Int)^63;let c26:AV:=int i64 c13;let c24:Prop:=(0:Int)<=c12/\c12.toNat<c8;let bK:AV:=own 2 3 0 c8;let c14:AV:=int i64 c27;let c4:Nat:=c12.toNat+0;let c2:Int:=c23-c13+c12;let c1:Int:=c12-1;let c25:Prop:=(0:Int)<=c1/\c1.toNat<c8;let c22:Prop:=-c3<=c1/\c1<c3;let c9:Int:=c2+c13-c27;let c5:Nat:=c1.toNat+0;let c18:Nat:=s c4+s c5+1;some (fork (decide (c12>c27)) (aj [-c3<=c23-c13/\c23-c13<c3,-c3<=c2/\c2<c3] (aj [(0:Int)<=c2/\c2.toNat<n,-c3<=c2+c13/\c2+c13<c3,-c3<=c9/\c9<c3,(0:Int)<=c9/\c9.toNat<n,c19,sK<=sK,sK<=sK,sK<=sK,c19] (aj [c22,c25,c5<c8,c19,c24,c4<c8,c22,c25,c5<c8,s c4<c10,s c5<c10,sF<c10,c18<c10,s c5<c10,sF+c18<c10,c24,c4<c8] (aj [c22] (leaf normal ([c16,int i64 0,c21,c7,c15,c26,int i64 c23,bK,c7,c26,c14,c14,c17,int i64 c1],c11::(2,az.mk true true 3 c8 fun j=>rat (bif j==c4 then x c5+fr (k c2.toNat) (k c9.toNat) t*(x c4-x c5)else x j) (bif j==c4 then s c5+(sF+c18)+1 else s j))::c6)))))) (leaf (exit 3) ([c16,int i64 0,c21,c7,c15,c26,int i64 c23,bK,c7,c26,c14,c14,c17,int i64 c12],c11::(2,az.mk true true 3 c8 fun i=>rat (x i) (s i))::c6))):=ah
theorem PZ {n p m i r j:Nat} {k a c x:Nat->Rat} {s:Nat->Nat} {t:Rat}:aL T qf [] 60 oA [part qn [1,1,1]] ⟨aG xK (B8 n k p m a i r j),(3,tP t sK)::mY p m c x s,4⟩=
  let c2:Int:=(↑r:Int)+1;let c1:AV:=ak 3 p fun i=>rat (a i) 4096;some (aj [-(2:Int)^63<=c2/\c2<2^63] (leaf normal ([ptr 1 0 3 0 [],int i64 0,own 0 3 0 m,c1,ak 3 n fun i=>rat (k i) 4096,int i64 (↑p:Int),int i64 (↑i:Int),own 2 3 0 (p+1),c1,int i64 (↑p:Int),int i64 c2],[(2,az.mk true true 3 (p+1) fun i=>rat (x i) (s i)),(0,az.mk true true 3 m fun i=>rat (c i) 4096),((1:Nat),bL fun x=>rat 0 1)]))):=ah
theorem To {n p m i r:Nat} {k a c x:Nat->Rat} {s:Nat->Nat}:EH T qf [] 60 f211 [part yx [1,1,1,1,1]] ⟨aG oA (tf n k p m a i r),mY p m c x s,3⟩=
  let c1:Nat:=(↑p:Int).toNat+0;some (aj [(0:Int)<=(↑p:Int)/\(↑p:Int).toNat<p+1,c1<p+1,s c1<2^42,(1:Nat)<2^42,(0:Nat)<1] (aj [(0:Nat)<1] (leaf ret ([rat (x c1+0) (s c1+1+1),int i64 0],some (az.mk true true 3 m fun i=>rat (c i) 4096))))):=ah
theorem W5 {n p m l:Nat} {k c a:Nat->Rat} {i:Int} (hp1:1<=p) (hp6:p<=6) (hn:n<2^40) (hm2:m<2^40) (hi:-2^40<i) (hi2:i<2^40) (cx:Ctx) (hk:Kept [0] cx):
  ay P cx f211.ntmps (aF f211) ⟨aS 0 [ls k n,.int .i64 p,.own 0 3 0 m,.int .i64 i,ls a l],[(0,kK m c)],1⟩ (eU cx (wu T f211 [.rat (mS n k p m c i l a) sB,.int .i64 (jg n k p m l i)] (kK m c))):=by
 obtain⟨b,hb⟩:∃b,b=i.toNat-p:=⟨_,rfl⟩
 obtain⟨x,hx⟩:∃x:Nat->Nat->Rat,x=fun r=>bR k b p a (fun j=>c (b+j)) r:=⟨_,rfl⟩
 have hx0:x 0=fun j=>c (b+j):=by rw[hx];rfl
 have hxS:∀r,x (r+1)=gW k b p r (a r) (x r):=fun r=>by rw[hx];rfl
 have hSF:=Ip
 have hSK:sK=4096:=rfl
 have hSV:sV=268435456:=rfl
 have hrow:∀(l:Nat) (a:Nat->Rat) (w:Bool) (ρ:Nat->Option Nat),eA ρ ⟨true,w,3,l,fun i=>.rat (a i) sK⟩ ⟨true,w,3,l,fun i=>.rat (a i) sK⟩:=fun l a w ρ=>jm rfl fun _ _=>gu rfl
 refine ay.C7 hT uK hm [1,1,1,1,0,1] (i:=1) (y:=qn) (z:=part yx [1,1,1,1,1]) ah ah ah HB.dst hk (f1:=[18,25,36,42,32]) 60 oA 3 (fun r:Nat=>tf n k p m a i.toNat r) (fun r=>mY p m c (x r) fun _=>SB r)
  (fun r=>r<=p/\jg n k p m l i=0) (fun r=>r=p/\jg n k p m l i=0) (fun r=>p-r) (AF T f211 [10,11,2] [.rat (mS n k p m c i l a) sB,.int .i64 (jg n k p m l i)] (kK m c)) ⟨_,Qz,?_⟩ (fun r ⟨hr,he⟩=>?_) (fun r ⟨hr,he⟩=>?_) (fun v s' hv hs'=>hv.fin (L1:=[4,0,1,3,12,66,67,68]) hk hs')
 ·simp only[ag.all,au,k8,bne_iff_ne,ne_eq,bne_eq_false_iff_eq,br,cond_false,bz,bG,ta]
  have ret:∀{e:Int} {us:List AV},jg n k p m l i=e->e≠0->bI us=[]->AF T f211 [10,11,2] [.rat (mS n k p m c i l a) sB,.int .i64 (jg n k p m l i)] (kK m c) ([ptr 1 0 3 0 [],int i64 e,own 0 3 0 m]++us,[((0:Nat),kK m c),((1:Nat),bL fun j=>if(j==0)=true then bE (agg (kids (.rat 0 1)))else .rat 0 1)]):=fun {e us} h1 h2 h3=>
   ⟨[_,_,_],us,2,_,rfl,rfl,h3,YM,rfl,⟨⟨aa,fun i _=>rfl⟩,⟨aa,fun i _=>Ef rfl rfl⟩,trivial⟩,aa,Nat.zero_lt_one,rfl,rfl,SJ h1 h2,⟨_,rfl,hrow _ _ _⟩⟩
  (repeat' with_reducible first|refine And.intro ?_ ?_|intro _)
  all_goals first|omega|exact cV aR|exact absurd ‹true=false› (by decide)|assumption|skip
  all_goals first|exact ret (Nl (.inl ‹_›)) (by decide) rfl|exact ret (Nl (.inr aa)) (by decide) rfl|skip
  all_goals first|exact ret (BA aa aa (.inl aa)) (by decide) rfl|exact ret (BA aa aa (.inr (.inl aa))) (by decide) rfl|skip
  all_goals have e1:(i+1).toNat=i.toNat+1:=aa
  ·exact ret (BA aa aa (.inr (.inr (by rw[<-e1];assumption)))) (by decide) rfl
  ·rename_i h1
   rw[e1]at h1
   have hlp:l=p:=aa
   subst hlp
   refine⟨0,⟨aa,MY aa rfl (by rintro(h|h|h)<;>first|omega|exact h1 h)⟩,[(0,0),(1,1),(2,163841)],rfl,?_,rfl,cJ rfl rfl aa (fun j hj=>?_) (aY (cJ rfl rfl rfl (fun j hj=>eJ rfl rfl) trivial))⟩
   ·rw[show((l:Int)+1).toNat=l+1 by omega]
    show _=[_,_,_,_,_,_,AV.int i64 ((i.toNat:Nat):Int),_,_,_,_]
    rw[show((i.toNat:Nat):Int)=i by omega]
    rfl
   ·rw[if_pos aa,hx0,show(i-(l:Int)).toNat=b by omega,Nat.sub_zero,Nat.zero_add,Nat.add_comm j b]
    exact .inr ⟨rfl,bC rfl (show sK<=SB 0 by decide)⟩
 ·have hin:(m:Int)=(n:Int)-p-1/\p<=i.toNat/\i.toNat<m/\i.toNat=b+p/\l=p:=by
   unfold jg at he
   split at he
   ·omega
   ·split at he
    ·omega
    ·omega
  obtain⟨i1,i2,i3,i4,i5⟩:=hin
  subst i5
  have hr4:∀{s:Nat->Nat} {y:Nat->Rat},jM 3 [(0,0),(1,1),(2,2)] [(2,az.mk true true 3 (l+1) fun i=>rat (y i) (s i)),((0:Nat),kK m c),((1:Nat),bL fun x=>rat 0 1)] (mY l m c y s):=cJ rfl rfl rfl (fun j hj=>eJ rfl rfl) (aY (cJ rfl rfl rfl (fun j hj=>eJ rfl rfl) trivial))
  refine ay.uZ hT uK hm (y:=qn) (x1:=vM) (zb:=part qn [1,1,1]) [1,1,0] (j:=2) ah ah ah ah hk (f1:=[69]) 60 oA 3 (fun _:Unit=>tf n k l m a i.toNat r) (fun _=>mY l m c (x r) fun _=>SB r) (fun _=>r<l) ⟨_,Wq,?_⟩ (fun _ hr'=>?_)
  ·simp only[ag.all,au,bz,bG]
   have re:∀{s:Nat->Nat} {y:Nat->Rat},fz [0] ([ptr 1 0 3 0 [],int i64 0,own 0 3 0 m,ls a l,ak 3 n fun i=>rat (k i) sK,int i64 l,int i64 (i.toNat:Nat),own 2 3 0 (l+1),ls a l,int i64 l,int i64 (r:Nat)],[(2,az.mk true true 3 (l+1) fun i=>rat (y i) (s i)),((0:Nat),kK m c),((1:Nat),bL fun x=>rat 0 1)]) (tf n k l m a i.toNat r) (mY l m c y s) 3:=
    ⟨[(0,0),(1,1),(2,2)],rfl,rfl,rfl,hr4⟩
   exact⟨fun h1=>⟨(),aa,re⟩,fun h1 s' hs'=>⟨rfl,r,⟨aa,he⟩,re.le hs' hk⟩⟩
  have h1:=BT (d:=r)
  have h2:=xZ (d:=r) aa
  have h3:=B4 (d:=r)
  refine ay.vL hT uK hm (x:=vM) [1,1] (i:=3) (y:=part vM [1,1,0,0]) ah ah ah hk (f1:=[]) (f2:=[76]) 60 xK 4 (fun j:Nat=>B8 n k l m a i.toNat r j) (fun j=>(3,tP (a r) sK)::mY l m c (mJ k b l r (a r) (x r) j) (ni r j)) (fun j=>r<=j/\j<=l) (fun j=>j=r) (fun j=>j) (fun _=>False) ⟨_,P4,?_⟩ (fun j hj=>⟨_,S7,?_⟩) (fun j s' hj hle=>?_) (fun _ _ h=>h.elim)
  ·simp only[ag.all,au,br]
   refine⟨⟨aa,aa⟩,l,aa,[(0,0),(1,1),(2,2),(3,12291)],rfl,rfl,rfl,aY (cJ rfl rfl rfl (fun j hj=>eJ rfl ?_) (aY (cJ rfl rfl rfl (fun j hj=>eJ rfl rfl) trivial)))⟩
   unfold mJ ni
   rw[if_pos aa,if_pos aa]
  ·obtain⟨hj1,hj2⟩:=hj
   have e1:((i.toNat:Nat):Int)-(l:Int)+(j:Int)=((b+j:Nat):Int):=aa
   have e2:((b+j:Nat):Int)+(l:Int)-(r:Int)=((b+j+(l-r):Nat):Int):=aa
   have u1:∀{j':Nat},j'<=j->ni r j j'=SB r:=fun h=>by unfold ni;rw[if_pos h]
   simp only[ag.all,au,bz,bG,e1,e2,br,Nat.add_zero]
   refine⟨fun h4=>?_,fun h4=>⟨rfl,j,aa,[(0,0),(1,1),(2,2),(3,3)],rfl,rfl,rfl,aY (cJ rfl rfl rfl (fun j hj=>eJ rfl rfl) (aY (cJ rfl rfl rfl (fun j hj=>eJ rfl rfl) trivial)))⟩⟩
   have e3:((j:Int)-1).toNat=j-1:=aa
   have u2:=u1 (j':=j) aR
   have u3:=u1 (j':=j-1) aa
   simp only[e3,u2,u3]
   (repeat' with_reducible refine And.intro ?_ ?_)
   all_goals first|omega|skip
   exact⟨j-1,aa,by dsimp only;omega,[(0,0),(1,1),(2,2),(3,3)],rfl,by rw[show(j:Int)-1=((j-1:Nat):Int) by omega];rfl,rfl,aY (cJ rfl rfl rfl (fun q hq=>aer aa aa) (aY (cJ rfl rfl rfl (fun j hj=>eJ rfl rfl) trivial)))⟩
  ·subst hj
   show ay P cx f211.ntmps (part qn [1,1,1]) s' _
   refine ay.lD hle (ay.bH hT uK hm 60 oA PZ ah ?_)
   simp only[ag.all,au]
   refine⟨aa,fun s' hs'=>⟨j+1,⟨aa,he⟩,by dsimp only;omega,fz.le ⟨[(0,0),(1,1),(2,2)],rfl,rfl,rfl,cJ rfl rfl rfl (fun q hq=>?_) (aY (cJ rfl rfl rfl (fun j hj=>eJ rfl rfl) trivial))⟩ hs' hk⟩⟩
   refine .inr ⟨rfl,bC (by rw[aho,hxS]) ?_⟩
   show ni j j q<=SB (j+1)
   unfold ni
   split<;>omega
 ·have hlp:l=p:=by
   unfold jg at he
   split at he
   ·omega
   ·omega
  subst hlp
  subst hr
  refine ay.qQ ((aI.afu hT uK hm 60 To ah ?_).mono fun _ _ h=>.inl h)
  have h2:=xZ (d:=r) hp6
  simp only[ag.all,au,br,Nat.add_zero]
  refine⟨⟨aa,aa,aa,aa,aa⟩,aa,rfl,rfl,⟨bC ?_ (by show SB r+1+1<=536870912;omega),bW he.symm,trivial⟩,⟨_,rfl,hrow _ _ _⟩⟩
  unfold mS
  rw[if_pos he,<-hb,hx,Rat.add_zero]
def sr (f:Nat->AV) (n s:Nat):Prop:=∀i,i<n->keys (f i)=[]/\bp (f i) (.rat (aC (f i)) s)
theorem Z9 {k:Nat->Rat} {n s s':Nat} (h:s<=s'):sr (fun i=>.rat (k i) s) n s':=fun _ _=>⟨rfl,eE h⟩
theorem sr.obj {f:Nat->AV} {n s:Nat} {w:Bool} (h:sr f n s) {m:Nat} (hm:n=m) (ρ:Nat->Option Nat):eA ρ ⟨true,w,3,n,f⟩ ⟨true,w,3,m,fun i=>.rat (aC (f i)) s⟩:=⟨rfl,rfl,rfl,hm.symm,fun i hi=>lg (h i hi).1 (h i hi).2⟩
def Bu:Spec:=fun _ args pre=>match args,pre with
 |[.ak 3 n kf,.int .i64 p,.own b 3 0 m,.int .i64 i,.ak 3 l af],[(b',⟨true,true,3,mb,fb⟩)]=>match b'==b with
  |true=>some ⟨IC n (fun i=>aC (kf i)) p.toNat m (fun i=>aC (fb i)) i l (fun i=>aC (af i)),[(b,kK m fun i=>aC (fb i))],
   [mb=m,bQ kf n sK,bQ af l sK,sr fb m sK,1<=p,p<=6,n<2^40,m<2^40,-2^40<i,i<2^40]⟩
  |false=>none
 |_,_=>none
theorem VV:bf P Bu 211:=by
 intro K args pre r h
 unfold Bu at h
 split at h
 ·rename_i n kf p b m i l af b' mb fb
  split at h
  ·rename_i hc
   have hc:=eq_of_beq hc
   subst hc
   simp only[ax]at h
   subst h
   intro need
   obtain⟨rfl,n1,n2,n3,n4,n5,n6,n7,n8,n9⟩:=need
   refine Y1 hT HB (args:=[.ak 3 n kf,.int .i64 p,.own b' 3 0 mb,.int .i64 i,.ak 3 l af]) (us:=[.rat (mS n (fun i=>aC (kf i)) p.toNat mb (fun i=>aC (fb i)) i l (fun i=>aC (af i))) sB,.int .i64 (jg n (fun i=>aC (kf i)) p.toNat mb l i)]) (args0:=[ls (fun i=>aC (kf i)) n,.int .i64 p,.own 0 3 0 mb,.int .i64 i,ls (fun i=>aC (af i)) l]) aW
    ⟨⟨rfl,lg rfl (Bo n1)⟩,aP,⟨rfl,dx rfl rfl rfl⟩,aP,⟨rfl,lg rfl (Bo n2)⟩,trivial⟩ (fun _ ρ=>n3.obj rfl ρ) (fun _ c hk=>?_) K ⟨rfl,n1,n2,n3,n4,n5,n6,n7,n8,n9⟩
   have:=W5 (n:=n) (p:=p.toNat) (m:=mb) (l:=l) (k:=fun i=>aC (kf i)) (c:=fun i=>aC (fb i)) (a:=fun i=>aC (af i)) (i:=i) aa aa n6 n7 n8 n9 c hk
   rw[Int.toNat_of_nonneg aa]at this
   exact this
  ·simp at h
 ·simp at h
theorem ah5:aX 201 f201:=aM func201
theorem Gr:aX 203 f203:=aM func203
def rJ (k:Nat->Rat) (n:Nat):Nat->Nat->Nat
 |0,i=>i
 |f+1,i=>if i+1<n/\k (i+1)<=k i then rJ k n f (i+1)else i
def iA (k:Nat->Rat) (n i:Nat):Nat:=rJ k n (n-i) i
abbrev vS:List Nat:=[0,1,4]
abbrev C3 (n i:Nat) (k:Nat->Rat):List AV:=[ls k n,.int .i64 i,.int .i64 0]
abbrev v7:Code:=aF f201
def iw (h:Pl):Nat->Rat
 |0=>h.n.x
 |1=>h.n.y
 |2=>h.n.z
 |_=>h.d
def ov (g:Nat->Rat):Nat->Pl
 |0=>⟨⟨0,0,0⟩,0⟩
 |1=>⟨⟨g 0,0,0⟩,0⟩
 |2=>⟨⟨g 0,g 1,0⟩,0⟩
 |3=>⟨⟨g 0,g 1,g 2⟩,0⟩
 |_=>⟨⟨g 0,g 1,g 2⟩,g 3⟩
def jc (c:Cu) (i:Int) (l:Nat) (g:Nat->Rat) (a:Nat):Rat:=mS c.n c.k c.p.toNat c.m (fun j=>iw (c.f j) a) i l g
def qA (c:Cu) (i:Int) (l:Nat) (g:Nat->Rat):Pl:=⟨⟨jc c i l g 0,jc c i l g 1,jc c i l g 2⟩,jc c i l g 3⟩
def nZ (c:Cu) (a:Nat) (x:Nat->Rat) (j q:Nat):Rat:=if q<j\/c.m<=q then iw (c.f q) a else x q
theorem VC {c:Cu} {a:Nat} {x:Nat->Rat}:nZ c a x c.m=fun q=>iw (c.f q) a:=by
 funext q;unfold nZ;rw[if_pos aa]
def oU:aV:=nG::(211,Bu)::eV
abbrev jl:List Nat:=[1,2,3,6,7,8,16]
abbrev kS (c:Cu) (i:Int) (l:Nat) (g:Nat->Rat) (a:Nat):List AV:=[.int .i64 i,ls g l,.ptr 0 0 3 0 [],.ptr 1 0 12 0 [],.ptr 2 0 12 0 [],.own 3 3 0 c.m,.int .i64 a]
abbrev vN:List Nat:=[1,2,3,6,7,8,16,9,20,21,22]
abbrev zR (c:Cu) (i:Int) (l:Nat) (g:Nat->Rat) (a j:Nat):List AV:=[.int .i64 i,ls g l,.ptr 0 0 3 0 [],.ptr 1 0 12 0 [],.ptr 2 0 12 0 [],.own 3 3 0 c.m,.int .i64 a,.int .i64 a,p5 c.f c.m sK,.int .i64 c.m,.int .i64 j]
abbrev jL (c:Cu) (x:Nat->Rat) (h:Pl):aD:=[(3,kK c.m x),(2,mD h sB),(1,mD ⟨⟨0,0,0⟩,0⟩ 1),(0,AJ c sK)]
abbrev yJ:Code:=aF f203
abbrev nU:Code:=part yJ [1,1,1,0,1,0,0]
abbrev ou:Code:=part nU [1,1,0,0]
theorem TE {n i:Nat} {k:Nat->Rat}:aL T (nG::eV) [] 60 vS (before v7 [1,0]) ⟨aS 0 [ls k n,.int .i64 i],[],0⟩=
  some (leaf normal ([ak 3 n fun i=>rat (k i) 4096,int i64 (↑i:Int),int i64 0],[])):=ah
theorem Sw {n i:Nat} {k:Nat->Rat}:aL T (nG::eV) [10,22] 60 vS [part v7 [1,0,0,0]] ⟨aG vS (C3 n i k),[],0⟩=
  let c9:Prop:=sK<2^42;let c8:Int:=(↑i:Int);let c3:AV:=ak 3 n fun i=>rat (k i) 4096;let c4:ag (List AV×aD):=leaf (exit 0) ([c3,int i64 c8,int i64 0],[]);let c1:Int:=c8+1;let c7:Int:=dn (k c8.toNat) (k c1.toNat);let c6:Bool:=decide (c1<(↑n:Int));let c2:Prop:=-(2:Int)^63<=c1/\c1<2^63;let c5:ag (List AV×aD):=aj [c2] (leaf normal ([c3,int i64 c1,int i64 0],[]));some (fork c6 (aj [c2,c6=true,(0:Int)<=c8/\c8.toNat<n,c2,(0:Int)<=c1/\c1.toNat<n,c9,c9] (fork (bif true then decide (c7>=0)else false) c5 c4)) (aj [c2,c6=false] (fork false c5 c4))):=ah
theorem Ub {n i:Nat} {k:Nat->Rat}:cP T (nG::eV) [] 60 f201 [part v7 [1,1]] ⟨aG vS (C3 n i k),[],0⟩=
  some (leaf ret [int i64 (↑i:Int)]):=ah
theorem ahS {c:Cu} {i:Int} {l:Nat} {g:Nat->Rat}:aL T oU [] 60 jl (before yJ [1,1,1,0,1]) ⟨aS 0 [fF c sK sK,.int .i64 i,ls g l],[],0⟩=
  let c4:Nat:=(bE (fF c sK sK)).size;let c3:Int:=(↑c.m:Int);let c1:AV:=rat 0 1;let c2:az:=az.mk false true 12 1 fun x=>agg [c1,c1,c1,c1];some (aj [(0:Nat)<1,(0:Int)<=c3/\c3<=c3/\c3<=2^47/\c3*(↑(56:Nat):Int)<=2^47] (leaf normal ([int i64 i,ak 3 l fun i=>rat (g i) 4096,ptr 0 0 c4 0 [],ptr 4096 0 12 0 [],ptr 8192 0 12 0 [],own 24576 3 0 c3.toNat,int i64 0],[(24576,az.mk true true 3 c3.toNat fun x=>c1),((8192:Nat),c2),((4096:Nat),c2),(0,az.mk false true c4 1 fun x=>agg [int i64 c.p,ak 3 c.n fun i=>rat (c.k i) 4096,ak 12 c.m fun i=>b7 (c.f i) 4096])]))):=ah
theorem Y0 {c:Cu} {i:Int} {l a:Nat} {g x:Nat->Rat} {h:Pl}:aL T oU [17] 60 jl (before nU [1,1,0]) ⟨aG jl (kS c i l g a),jL c x h,4⟩=
  let c2:AV:=rat 0 1;let c1:List AV×aD:=([int i64 i,ak 3 l fun i=>rat (g i) 4096,ptr 0 0 3 0 [],ptr 1 0 12 0 [],ptr 2 0 12 0 [],own 3 3 0 c.m,int i64 (↑a:Int)],[(3,az.mk true true 3 c.m fun i=>rat (x i) 4096),(2,az.mk false true 12 1 fun x=>b7 h 536870912),(1,az.mk false true 12 1 fun x=>agg [c2,c2,c2,c2]),((0:Nat),bL fun x=>agg [int i64 c.p,ak 3 c.n fun i=>rat (c.k i) 4096,ak 12 c.m fun i=>b7 (c.f i) 4096])]);some (fork (decide ((↑a:Int)<4)) (leaf normal c1) (leaf (exit 0) c1)):=ah
theorem ahT {c:Cu} {i:Int} {l a:Nat} {g x:Nat->Rat} {h:Pl}:aL T oU [] 60 vN (before ou [1,0,1]) ⟨aG jl (kS c i l g a),jL c x h,4⟩=
  let c2:AV:=rat 0 1;let c1:AV:=ak 12 c.m fun i=>b7 (c.f i) 4096;some (aj [(0:Nat)<1] (leaf normal ([int i64 i,ak 3 l fun i=>rat (g i) 4096,ptr 0 0 3 0 [],ptr 1 0 12 0 [],ptr 2 0 12 0 [],own 3 3 0 c.m,int i64 (↑a:Int),int i64 (↑a:Int),c1,int i64 (↑c.m:Int),int i64 0],[(3,az.mk true true 3 c.m fun i=>rat (x i) 4096),(2,az.mk false true 12 1 fun x=>b7 h 536870912),(1,az.mk false true 12 1 fun x=>agg [c2,c2,c2,c2]),((0:Nat),bL fun x=>agg [int i64 c.p,ak 3 c.n fun i=>rat (c.k i) 4096,c1])]))):=ah
theorem agl {c:Cu} {i:Int} {l a:Nat} {g x:Nat->Rat} {h:Pl}:aL T oU [] 60 jl [part nU [1,1,1]] ⟨aG jl (kS c i l g a),jL c x h,4⟩=
  let c2:Int:=(↑a:Int)+1;let c1:AV:=rat 0 1;some (aj [-(2:Int)^63<=c2/\c2<2^63] (leaf normal ([int i64 i,ak 3 l fun i=>rat (g i) 4096,ptr 0 0 3 0 [],ptr 1 0 12 0 [],ptr 2 0 12 0 [],own 3 3 0 c.m,int i64 c2],[(3,az.mk true true 3 c.m fun i=>rat (x i) 4096),(2,az.mk false true 12 1 fun x=>b7 h 536870912),(1,az.mk false true 12 1 fun x=>agg [c1,c1,c1,c1]),((0:Nat),bL fun x=>agg [int i64 c.p,ak 3 c.n fun i=>rat (c.k i) 4096,ak 12 c.m fun i=>b7 (c.f i) 4096])]))):=ah
theorem Zx {c:Cu} {i:Int} {l a:Nat} {g x:Nat->Rat} {h:Pl}:cP T oU [] 60 f203 [part yJ [1,1,1,1]] ⟨aG jl (kS c i l g a),jL c x h,4⟩=
  let c1:Prop:=0<1;some (aj [c1,c1] (aj [c1] (leaf ret [b7 h 536870912]))):=ah
theorem X8 {k:Nat->Rat} {n i:Nat} (h:i+1<n) (h2:k (i+1)<=k i):iA k n i=iA k n (i+1):=by
 unfold iA;rw[show n-i=(n-(i+1))+1 by omega,rJ,if_pos ⟨h,h2⟩]
theorem FO {k:Nat->Rat} {n i:Nat} (h:¬(i+1<n/\k (i+1)<=k i)):iA k n i=i:=by
 unfold iA
 cases n-i with
 |zero=>rfl
 |succ f=>rw[rJ,if_neg h]
theorem ZC {n i:Nat} {k:Nat->Rat} (hi:i<=n) (hn:n<2^40) (K:Nat):aN P 201 K [ls k n,.int .i64 i] [] (aH (.int .i64 (iA k n i)) []):=by
 refine iu (r:=aH (.int .i64 (iA k n i)) []) hT (eP fB) hm ah5 rfl aW rfl [1,0] (i:=0) (y:=part v7 [1,0,0,0]) (z:=part v7 [1,1]) ah ah ah (f1:=[]) (f2:=[10,22]) (f3:=[]) 60 vS 0
  (fun j:Nat=>C3 n j k) (fun _=>[]) (fun j=>j<=n/\iA k n j=iA k n i) (fun j=>j=iA k n i) (fun j=>n-j) (fun _=>⟨⟨_,TE,?_⟩,fun j hj=>⟨_,Sw,?_⟩,fun j hj=>⟨_,Ub,?_⟩⟩) K []
 ·simp only[ag.all,au]
  exact⟨i,⟨hi,rfl⟩,[],rfl,rfl,rfl,trivial⟩
 ·have e1:((j:Int)+1).toNat=j+1:=aa
  simp only[ag.all,au,bz,bG,br,cond_true,e1,ta]
  refine⟨fun h1=>⟨⟨aa,aa,aa,aa,aa,by decide,by decide⟩,fun h2=>⟨aa,j+1,⟨aa,(X8 aa h2).symm.trans hj.2⟩,by dsimp only;omega,[],rfl,rfl,rfl,trivial⟩,fun h2=>⟨rfl,j,?_,[],rfl,rfl,rfl,trivial⟩⟩,fun h1=>⟨⟨aa,aa⟩,fun h=>absurd h (by decide),fun _=>⟨rfl,j,?_,[],rfl,rfl,rfl,trivial⟩⟩⟩
  ·exact(FO fun h=>h2 h.2).symm.trans hj.2
  ·exact(FO fun h=>aa).symm.trans hj.2
 ·subst hj
  simp only[ag.all,au]
  exact .refl _
def N3:Spec:=cF (kC (kL sK) (kC kI kN)) (fun a=>.int .i64 (iA a.1.2 a.1.1 a.2.1.toNat)) fun a=>[0<=a.2.1,a.2.1<=a.1.1,a.1.1<2^40]
theorem af2:bf P N3 201:=cC fun⟨⟨n,k⟩,i,_⟩ K hn=>by
 obtain⟨h1,h2,h3⟩:=hn
 have:=ZC (n:=n) (i:=i.toNat) (k:=k) (by dsimp only at*;omega) h3 K
 rw[Int.toNat_of_nonneg h1]at this
 exact this
theorem tG:bg P oU:=eP (aE VV fB)
def xM (c:Cu):Nat->Nat->Rat
 |0=>fun _=>0
 |a+1=>fun q=>iw (c.f q) a
theorem Qo {rl:List (Nat×Nat)} {c:Cu} {a:Nat} {x:Nat->Rat} {q:Nat} (hq:q<c.m):iz rl (.rat (x q) sK) (.rat (nZ c a x 0 q) sK):=eJ rfl (by unfold nZ;rw[if_neg aa])
theorem Pb {rl:List (Nat×Nat)} {c:Cu} {a j:Nat} {x:Nat->Rat} {q:Nat} {v:Rat} (hq:q<c.m) (hv:v=iw (c.f j) a):iz rl (.rat (bif q==j then v else nZ c a x j q) (bif q==j then sK else sK)) (.rat (nZ c a x (j+1) q) sK):=by
 refine eJ rfl ?_
 rw[Bool.cond_self]
 congr 1
 by_cases h:q=j
 ·subst h
  rw[beq_self_eq_true,cond_true,hv];unfold nZ;rw[if_pos aa]
 ·rw[beq_eq_false_iff_ne.2 h,cond_false];unfold nZ
  by_cases h2:q<j
  ·rw[if_pos (.inl h2),if_pos (.inl aa)]
  ·rw[if_neg aa,if_neg aa]
theorem af4 {x:Nat->Rat} {m:Nat}:sr (fun i=>.rat (x i) sK) m sK:=Z9 aR
theorem four {a:Nat} (ha:a<4):a=0\/a=1\/a=2\/a=3:=aa
theorem afg {c:Cu} {i:Int} {l a j:Nat} {g x:Nat->Rat} {h:Pl} (ha:a<4):aL T oU [23] 60 vN [part ou [1,0,1,0,0]] ⟨aG vN (zR c i l g a j),jL c x h,4⟩=
  some (fork (decide ((j:Int)<c.m)) (aj [(0:Int)<=j/\(j:Int).toNat<c.m,0<1] (aj [(0:Int)<=a/\(a:Int)<4,0<1,(0:Int)<=j/\(j:Int).toNat<c.m,(j:Int).toNat+0<c.m] (aj [-(2:Int)^63<=(j:Int)+1/\(j:Int)+1<(2:Int)^63]
   (leaf normal ([.int .i64 i,ls g l,.ptr 0 0 3 0 [],.ptr 1 0 12 0 [],.ptr 2 0 12 0 [],.own 3 3 0 c.m,.int .i64 a,.int .i64 a,p5 c.f c.m sK,.int .i64 c.m,.int .i64 ((j:Int)+1)],(3,⟨true,true,3,c.m,fun q=>.rat (bif q==(j:Int).toNat+0 then iw (c.f (j:Int).toNat) a else x q) (bif q==(j:Int).toNat+0 then sK else sK)⟩)::[(2,mD h sB),(1,mD ⟨⟨0,0,0⟩,0⟩ 1),(0,AJ c sK)]))))) (leaf (exit 2) (zR c i l g a j,jL c x h))):=by
 rcases four ha with rfl|rfl|rfl|rfl<;>kernel_rfl
theorem S5 {c:Cu} {i:Int} {l a j:Nat} {g x:Nat->Rat} {h:Pl} (ha:a<4):aL T oU [] 60 jl [part ou [1,1]] ⟨aG vN (zR c i l g a j),jL c x h,4⟩=
  some (aj [0<1,0<1,c.m=c.m,bQ (fun i=>.rat (c.k i) sK) c.n sK,bQ (fun i=>.rat (g i) sK) l sK,sr (fun i=>.rat (x i) sK) c.m sK,(1:Int)<=c.p,c.p<=6,c.n<2^40,c.m<2^40,-(2:Int)^40<i,i<2^40,(0:Int)<=a/\(a:Int)<4,0<1]
   (leaf normal (kS c i l g a,[(3,kK c.m x),(2,⟨false,true,12,1,fun j=>if(j==0)=true then .agg ((b7 h sB).kids.set a (.rat (mS c.n c.k c.p.toNat c.m x i l g) sB))else b7 h sB⟩),(1,mD ⟨⟨0,0,0⟩,0⟩ 1),(0,AJ c sK)]))):=by
 rcases four ha with rfl|rfl|rfl|rfl<;>kernel_rfl
theorem V5 {rl:List (Nat×Nat)} {G:Nat->Rat} {a:Nat} (ha:a<4):iz rl (.agg ((b7 (ov G a) sB).kids.set a (.rat (G a) sB))) (b7 (ov G (a+1)) sB):=by
 rcases four ha with rfl|rfl|rfl|rfl<;>exact eJ rfl rfl
theorem agu {c:Cu} {i:Int} {l a:Nat} {g x:Nat->Rat} {cx:Ctx} {Q:aq->aK->Prop} (ha:a<4) (hk:Kept [] cx) (hp1:1<=c.p) (hp6:c.p<=6) (hn:c.n<2^40) (hm2:c.m<2^40) (hi:-2^40<i) (hi2:i<2^40)
  (hQ:∀s',(∃ρ,Le cx ρ s' ⟨aG jl (kS c i l g a),jL c (xM c (a+1)) (ov (jc c i l g) (a+1)),4⟩)->ay P cx f203.ntmps (part nU [1,1,1]) s' Q):
  ay P cx f203.ntmps ou ⟨aG jl (kS c i l g a),jL c x (ov (jc c i l g) a),4⟩ (inBlock 1 (ey (fun s'=>ay P cx f203.ntmps (part nU [1,1,1]) s' Q) Q)):=by
 refine ay.vL hT tG hm (x:=ou) [1,0,1] (i:=2) (y:=part ou [1,0,1,0,0]) ah ah ah hk (f1:=[]) (f2:=[23]) 60 vN 4 (fun j:Nat=>zR c i l g a j) (fun j=>jL c (nZ c a x j) (ov (jc c i l g) a)) (fun j=>j<=c.m) (fun j=>j=c.m) (fun j=>c.m-j) (fun _=>False) ⟨_,ahT,?_⟩ (fun j hj=>⟨_,afg ha,?_⟩) (fun j s' hj hle=>?_) (fun _ _ h=>h.elim)
 ·simp only[ag.all,au]
  exact⟨aa,0,Nat.zero_le _,[(0,0),(1,1),(2,2),(3,3)],rfl,rfl,rfl,cJ rfl rfl rfl (fun q hq=>Qo hq) (aY (aY (aY trivial)))⟩
 ·simp only[ag.all,au,bz,bG,br,Nat.add_zero]
  exact⟨fun h1=>⟨⟨aa,aa⟩,⟨aa,aa,aa,aa⟩,aa,j+1,aa,by dsimp only;omega,[(0,0),(1,1),(2,2),(3,3)],rfl,rfl,rfl,cJ rfl rfl rfl (fun q hq=>Pb hq rfl) (aY (aY (aY trivial)))⟩,
   fun h1=>⟨rfl,j,aa,[(0,0),(1,1),(2,2),(3,3)],rfl,rfl,rfl,cJ rfl rfl rfl (fun q hq=>eJ rfl rfl) (aY (aY (aY trivial)))⟩⟩
 ·subst hj
  simp only[VC]at hle
  rw[show behind ou [1,0,1]=[part ou [1,1]]from by kernel_rfl]
  refine aI.weak rfl hle (aI.bH hT tG hm 60 jl (S5 ha) ah ?_)
  simp only[ag.all,au]
  refine⟨⟨aa,aa,trivial,cV aR,cV aR,af4,hp1,hp6,hn,hm2,hi,hi2,aa,aa⟩,fun s'' hs''=>hQ s'' (fz.le ⟨[(0,0),(1,1),(2,2),(3,3)],rfl,rfl,rfl,cJ rfl rfl rfl (fun q hq=>eJ rfl rfl) (fj rfl rfl (V5 ha) (aY (aY trivial)))⟩ hs'' hk)⟩
theorem aaN {c:Cu} {i:Int} {l:Nat} {g:Nat->Rat} (hp1:1<=c.p) (hp6:c.p<=6) (hn:c.n<2^40) (hm2:c.m<2^40) (hi:-2^40<i) (hi2:i<2^40) (K:Nat):aN P 203 K [fF c sK sK,.int .i64 i,ls g l] [] (aH (b7 (qA c i l g) sB) []):=by
 refine jq (r:=aH (b7 (qA c i l g) sB) []) hT Gr rfl aW rfl (fun _ cx h00=>?_) K []
 have hk:=tJ h00
 refine ay.C7 hT tG hm [1,1,1,0,1] (i:=0) (y:=nU) (z:=part yJ [1,1,1,1]) ah ah ah Gr.dst hk (f1:=[]) 60 jl 4 (fun a:Nat=>kS c i l g a) (fun a=>jL c (xM c a) (ov (jc c i l g) a)) (fun a=>a<=4) (fun a=>a=4) (fun a=>4-a) (fun _=>False) ⟨_,ahS,?_⟩ (fun a ha=>?_) (fun a ha=>?_) (fun _ _ h=>h.elim)
 ·simp only[ag.all,au,br]
  exact⟨⟨aa,aa⟩,0,aa,[(0,0),(1,4096),(2,8192),(3,24576)],rfl,rfl,rfl,cJ rfl rfl rfl (fun q hq=>.inr ⟨rfl,bC rfl (by decide)⟩) (fj rfl rfl (.inr ⟨rfl,cj (show dA [.rat _ _,.rat _ _,.rat _ _,.rat _ _] [.rat _ _,.rat _ _,.rat _ _,.rat _ _]from⟨bC rfl (by decide),bC rfl (by decide),bC rfl (by decide),bC rfl (by decide),trivial⟩)⟩) (aY (aY trivial)))⟩
 ·have re:∀{x:Nat->Rat} {h:Pl},fz [] (kS c i l g a,jL c x h) (kS c i l g a) (jL c x h) 4:=
   fun {x h}=>⟨[(0,0),(1,1),(2,2),(3,3)],rfl,rfl,rfl,cJ rfl rfl rfl (fun q hq=>eJ rfl rfl) (aY (aY (aY trivial)))⟩
  refine ay.uZ hT tG hm (y:=nU) (x1:=ou) (zb:=part nU [1,1,1]) [1,1,0] (j:=1) ah ah ah ah hk (f1:=[17]) 60 jl 4 (fun _:Unit=>kS c i l g a) (fun _=>jL c (xM c a) (ov (jc c i l g) a)) (fun _=>a<4) ⟨_,Y0,?_⟩ (fun _ ha'=>?_)
  ·simp only[ag.all,au,bz,bG]
   exact⟨fun h1=>⟨(),aa,re⟩,fun h1 s' hs'=>⟨rfl,a,aa,re.le hs' hk⟩⟩
  have nx:∀s',(∃ρ,Le cx ρ s' ⟨aG jl (kS c i l g a),jL c (xM c (a+1)) (ov (jc c i l g) (a+1)),4⟩)->ay P cx f203.ntmps (part nU [1,1,1]) s' (zN cx jl (fun a:Nat=>kS c i l g a) (fun a=>jL c (xM c a) (ov (jc c i l g) a)) 4 (fun a=>a<=4) (fun a=>a=4) (fun a=>4-a) 0 (fun s'=>∃v,False/\bB jl s'=some v) a):=fun s' hle=>by
   refine ay.lD hle (ay.bH hT tG hm 60 jl agl ah ?_)
   simp only[ag.all,au]
   exact⟨aa,fun s'' hs''=>⟨a+1,aa,by dsimp only;omega,fz.le ⟨[(0,0),(1,1),(2,2),(3,3)],rfl,rfl,rfl,cJ rfl rfl rfl (fun q hq=>eJ rfl rfl) (aY (aY (aY trivial)))⟩ hs'' hk⟩⟩
  exact agu ha' hk hp1 hp6 hn hm2 hi hi2 nx
 ·subst ha
  refine ay.qQ ((aI.fin hT tG hm 60 Zx ah ?_).mono fun _ _ h=>.inl h)
  simp only[ag.all,au]
  exact⟨⟨aa,aa⟩,aa,.refl _⟩
def Od:Spec:=cF (kC (xW sK sK) (kC kI (kC (kL sK) kN))) (fun a=>b7 (qA a.1 a.2.1 a.2.2.1.1 a.2.2.1.2) sB) fun a=>[1<=a.1.p,a.1.p<=6,a.1.n<2^40,a.1.m<2^40,-2^40<a.2.1,a.2.1<2^40]
theorem OT:bf P Od 203:=cC fun⟨c,i,⟨l,g⟩,_⟩ K hn=>aaN hn.1 hn.2.1 hn.2.2.1 hn.2.2.2.1 hn.2.2.2.2.1 hn.2.2.2.2.2 K
end Go.Am.B
