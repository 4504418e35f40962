/- ref10: MovePoles, Move; ref12: withRows, Move. -/
import Derived.Test.YtgfjdngnneoeoaaGreatY42
import Derived.Test.YtgfjdngnneoeoaaGreatZ2
set_option linter.unusedVariables false
noncomputable section
namespace Go.Am.B
open Go Go.Am.N AV ag ak IntKind Proofs.Tryz
def ZD (s:Nat):Kind Mp:=⟨fun v=>match C1 v with
 |some (a,q)=>some (a.1,(a.2<=s)::q)
 |none=>none,fun a=>ng a s,fun {v a q} h hq=>by
  split at h
  ·rename_i a q h1
   simp only[ax,Prod.mk.injEq]at h
   obtain⟨rfl,rfl⟩:=h
   obtain⟨q1,q2⟩:=(dP (a:=[_]) (b:=q)).1 hq
   exact(aaB h1 q2).trans (Uu rfl q1)
  ·simp at h⟩
def iR (r v:V3) (t:Rat):Rat:=0+r.x*v.x+r.y*v.y+r.z*v.z+t
def apM (m:Mp) (v:V3):V3:=⟨iR m.m.a v m.t.x,iR m.m.b v m.t.y,iR m.m.c v m.t.z⟩
def yC (m:Mp) (p:Pl):Pl:=⟨apM m p.n,p.d⟩
def Dc (m:Mp) (c:Cu):Cu:=⟨c.p,c.n,c.k,c.m,fun j=>yC m (c.f j)⟩
theorem PV:aW 149 f149:=aN func149
abbrev zq (y m:Nat) (k:Nat->Rat):az:=⟨true,true,3,m,fun i=>.rat (k i) y⟩
abbrev wA:Code:=aF f149
abbrev uI:List Nat:=[3,9,10,11]
abbrev BA (x n:Nat) (k:Nat->Rat) (i:Nat):List AV:=[.own 0 3 0 i,bp k n x,.int .i64 n,.int .i64 i]
def zu:aU:=nG::eO
theorem RL {x n:Nat} {k:Nat->Rat}:aM T zu [] 60 uI (before wA [1,1,0,1]) ⟨aT 0 [bp k n x],[],0⟩=
  let c1:Int:=(↑n:Int);some (aj [(0:Int)<=0/\(0:Int)<=c1/\c1<=2^47/\c1*(↑(56:Nat):Int)<=2^47] (leaf normal ([own 12288 3 0 0,aq 3 n fun i=>rat (k i) x,int i64 c1,int i64 0],[(12288,az.mk true true 3 0 fun x=>rat 0 1)]))):=ah
theorem ae2 {x y n i:Nat} {k:Nat->Rat}:aM T zu [12] 60 uI [part wA [1,1,0,1,0,0]] ⟨aH uI (BA x n k i),[(0,zq y i k)],1⟩=
  let c4:Int:=(↑n:Int);let c2:AV:=aq 3 n fun i=>rat (k i) x;let c1:Int:=(↑i:Int);let c3:Int:=c1+1;some (fork (decide (c1<c4)) (aj [(0:Int)<=c1/\c1.toNat<n,(0:Nat)<1] (aj [(0:Nat)<1,x<2^42,(1:Nat)<2^42,(1:Nat)*3<=2^24,(i+1)*((56:Nat)+1)*2<=2^47] (aj [-(2:Int)^63<=c3/\c3<2^63] (leaf normal ([own 40961 3 0 (i+1),c2,int i64 c4,int i64 c3],[(40961,az.mk true true 3 (i+1) fun i_1=>if i_1<i then rat (k i_1) y else nth [rat (k c1.toNat+0) (x+1+1)] (rat 0 1) (i_1-i+0))]))))) (leaf (exit 0) ([own 0 3 0 i,c2,int i64 c4,int i64 c1],[(0,az.mk true true 3 i fun i=>rat (k i) y)]))):=ah
theorem aaV {x y n i:Nat} {k:Nat->Rat}:cR T zu [] 60 f149 [part wA [1,1,1]] ⟨aH uI (BA x n k i),[(0,zq y i k)],1⟩=
  some (leaf ret [aq 3 i fun i=>rat (k (i+0)) y]):=ah
theorem Ra:aZ P zu:=eV fq
theorem Rn {x y n:Nat} {k:Nat->Rat} (hxy:x+10<=y) (hy:y<2^40) (hn:n<2^40) (K:Nat):aO P 149 K [bp k n x] [] (aI (bp k n y) []):=by
 refine iJ (r:=aI (bp k n y) []) hT Ra hm PV rfl aV rfl [1,1,0,1] (i:=0) (y:=part wA [1,1,0,1,0,0]) (z:=part wA [1,1,1]) ah ah ah (f1:=[]) (f2:=[12]) (f3:=[]) 60 uI 1
  (fun i:Nat=>BA x n k i) (fun i=>[(0,zq y i k)]) (fun i=>i<=n) (fun i=>i=n) (fun i=>n-i) (fun _=>⟨⟨_,RL,?_⟩,fun i hi=>⟨_,ae2,?_⟩,fun i hi=>⟨_,aaV,?_⟩⟩) K []
 ·simp only[ag.all,au]
  exact⟨aa,0,Nat.zero_le _,[(0,12288)],rfl,rfl,rfl,cI rfl rfl rfl (fun i hi=>absurd hi (Nat.not_lt_zero i)) trivial⟩
 ·simp only[ag.all,au,bz,bF,bw,Nat.add_zero]
  exact⟨fun h2=>⟨aa,aa,aa,i+1,aa,by dsimp only;omega,[(0,40961)],rfl,rfl,rfl,cI rfl rfl rfl (fun j hj=>oz (fun _ _=>rfl) (Rat.add_zero _) bq aa hj) trivial⟩,fun h2=>⟨rfl,i,aa,[(0,0)],rfl,rfl,rfl,cI rfl rfl rfl (fun j hj=>eH rfl rfl) trivial⟩⟩
 ·subst hi
  simp only[ag.all,au]
  exact tF rfl fun j hj=>rfl
def CI (x y:Nat):Spec:=cP (kC (kL x) kN) (fun a=>bp a.1.2 a.1.1 y) fun a=>[x+10<=y,y<2^40,a.1.1<2^40]
theorem Gd (x y:Nat):aY P (CI x y) 149:=cC fun⟨⟨n,k⟩,_⟩ K hn=>Rn hn.1 hn.2.1 hn.2.2 K
theorem N6:aW 110 f110:=aN func110
def Bp:aU:=[(127,cO T eO [] 60 f127),(76,cO T eO [] 60 f76)]
def Lj:aU:=[(166,cO T Bp [] 60 f166),(182,cO T Bp [] 60 f182)]
def EV:aU:=[(150,cO T Lj [] 60 f150)]
def Ac (x y:Nat):aU:=nG::(149,CI x y)::(EV++eO)
abbrev uv:List Nat:=[3,4,5,15,16,17]
abbrev AZ (c:Cu) (r i:Nat):List AV:=[.ptr 1 0 36 0 [],.ptr 2 0 3 0 [],.ptr 3 0 3 0 [],oR c.f c.m r,.int .i64 c.m,.int .i64 i]
abbrev B8 (c:Cu) (m:Mp) (y w s i:Nat):aD:=[(4,⟨true,true,12,i,fun j=>aK (yC m (c.f j)) w⟩),(3,⟨false,true,3,1,fun _=>.agg [.int .i64 c.p,bp c.k c.n y,.own 4 12 0 i]⟩),(2,⟨false,true,3,1,fun _=>.agg [.int .i64 0,.nil,.nil]⟩),(1,⟨false,true,36,1,fun _=>ng m s⟩)]
abbrev vh:Code:=aF f110
theorem Yh {x y r s:Nat} {c:Cu} {m:Mp}:aM T (Ac x y) [] 60 uv (before vh [1,1,0,1]) ⟨aT 0 [bh c x r,ng m s],[],0⟩=
  let c2:Prop:=0<1;let c1:AV:=agg [int i64 0,nil,nil];some (aj [c2,c2,bT (fun i=>rat (c.k i) x) c.n x,x+10<=y,y<2^40,c.n<2^40,c2] (aj [c2] (leaf normal ([ptr 4096 0 (bK (ng m s)).size 0 [],ptr 8192 0 3 0 [],ptr 36864 0 3 0 [],aq 12 c.m fun i=>agg [agg [rat (c.f i).n.x r,rat (c.f i).n.y r,rat (c.f i).n.z r],rat (c.f i).d r],int i64 (↑c.m:Int),int i64 0],[((36864:Nat),bN fun j=>if(j==0)=true then bK (agg ((c1.kids.set 0 (bK (int i64 c.p))).set 1 (bK (bp (fun i=>aC (rat (c.k i) x)) c.n y))))else c1),((8192:Nat),bN fun x=>c1),(4096,az.mk false true (bK (ng m s)).size 1 fun x=>agg [agg [agg [rat m.m.a.x s,rat m.m.a.y s,rat m.m.a.z s],agg [rat m.m.b.x s,rat m.m.b.y s,rat m.m.b.z s],agg [rat m.m.c.x s,rat m.m.c.y s,rat m.m.c.z s]],agg [rat m.t.x s,rat m.t.y s,rat m.t.z s]])])))):=ah
theorem Yb {x y r s w i:Nat} {c:Cu} {m:Mp}:aM T (Ac x y) [18] 60 uv [part vh [1,1,0,1,0,0]] ⟨aH uv (AZ c r i),B8 c m y w s i,5⟩=
  let c25:Int:=(↑c.m:Int);let c24:Int:=(↑(3:Nat):Int);let cH:AV:=own 4 12 0 i;let c19:AV:=ptr 2 0 3 0 [];let c18:AV:=ptr 3 0 3 0 [];let c17:AV:=ptr 1 0 36 0 [];let c15:AV:=rat 0 1;let c14:Int:=(↑i:Int);let c12:Nat:=1+(s+r)+1;let c11:Int:=i64.wrap ((0:Int)+1);let c9:AV:=aq 12 c.m fun i=>agg [agg [rat (c.f i).n.x r,rat (c.f i).n.y r,rat (c.f i).n.z r],rat (c.f i).d r];let c6:List (Nat×az):=[((2:Nat),bN fun x=>agg [int i64 0,nil,nil]),(1,az.mk false true 36 1 fun x=>agg [agg [agg [rat m.m.a.x s,rat m.m.a.y s,rat m.m.a.z s],agg [rat m.m.b.x s,rat m.m.b.y s,rat m.m.b.z s],agg [rat m.m.c.x s,rat m.m.c.y s,rat m.m.c.z s]],agg [rat m.t.x s,rat m.t.y s,rat m.t.z s]])];let c4:Nat:=2^42;let c1:Prop:=0<1;let c28:Int:=i64.wrap (c11+1);let c27:Int:=c14+1;let c26:Prop:=r<c4;let c23:Prop:=s<c4;let c22:Prop:=1<c4;let c16:Prop:=s+r<c4;let c13:AV:=agg [int i64 c.p,bp c.k c.n y,cH];let c8:V3:=(c.f c14.toNat).n;let c7:Nat:=c12+(s+r)+1;let c5:Prop:=(0:Int)<=0/\(0:Int)<c24;let c3:Prop:=(0:Int)<=c11/\c11<c24;let c10:Nat:=c7+(s+r)+1;let c2:Prop:=(0:Int)<=c28/\c28<c24;let c21:Nat:=c10+s+1;some (fork (decide (c14<c25)) (aj [(0:Int)<=c14/\c14.toNat<c.m,c1] (aj [c1,c1,c1,c1,c1,c1,c5,c1,c1,c1,c1,c5,c1,c5,c1,c23,c26,c22,c16,c1,c1,c3,c1,c3,c1,c23,c26,c12<c4,c16,c1,c1,c2,c1,c2,c1,c23,c26,c7<c4,c16,c1,c1,c1,c1,c5,c1,c3,c1,c1,c1,c1,c5,c1,c5,c1,c23,c26,c22,c16,c1,c1,c3,c1,c3,c1,c23,c26,c12<c4,c16,c1,c1,c2,c1,c2,c1,c23,c26,c7<c4,c16,c1,c1,c1,c1,c3,c1,c2,c1,c1,c1,c1,c5,c1,c5,c1,c23,c26,c22,c16,c1,c1,c3,c1,c3,c1,c23,c26,c12<c4,c16,c1,c1,c2,c1,c2,c1,c23,c26,c7<c4,c16,c1,c1,c1,c1,c2,c1,c1,c1,c1,c1,c1,c1,c5,c1,c5,c1,c10<c4,c23,c5,c1,c3,c1,c3,c1,c10<c4,c23,c3,c1,c2,c1,c2,c1,c10<c4,c23,c2,c1,c1,c1,c1,c1,c1,c1,c1,c1,c26,c22,(1:Nat)*12<=2^24,(i+1)*((224:Nat)+1)*2<=2^47,c1] (aj [-(2:Int)^63<=c27/\c27<2^63] (leaf normal ([c17,c19,c18,c9,int i64 c25,int i64 c27],(69637,az.mk true true 12 (i+1) fun i_1=>if i_1<i then aK (yC m (c.f i_1)) w else nth [agg [agg [rat ((0:Rat)+m.m.a.x*c8.x+m.m.a.y*c8.y+m.m.a.z*c8.z+m.t.x) c21,rat ((0:Rat)+m.m.b.x*c8.x+m.m.b.y*c8.y+m.m.b.z*c8.z+m.t.y) c21,rat ((0:Rat)+m.m.c.x*c8.x+m.m.c.y*c8.y+m.m.c.z*c8.z+m.t.z) c21],rat ((c.f c14.toNat).d+0) (r+1+1)]] (agg [agg [c15,c15,c15],c15]) (i_1-i+0))::((3:Nat),bN fun j=>if(j==0)=true then agg (c13.kids.set 2 (bK (own (nat_lit 69636+1) 12 0 (i+1))))else c13)::c6))))) (leaf (exit 0) ([c17,c19,c18,c9,int i64 c25,int i64 c14],(4,az.mk true true 12 i fun j=>agg [agg [rat (iR m.m.a (c.f j).n m.t.x) w,rat (iR m.m.b (c.f j).n m.t.y) w,rat (iR m.m.c (c.f j).n m.t.z) w],rat (c.f j).d w])::((3:Nat),bN fun x=>agg [int i64 c.p,aq 3 c.n fun i=>rat (c.k i) y,cH])::c6))):=ah
theorem QA {x y r s w i:Nat} {c:Cu} {m:Mp}:cR T (Ac x y) [] 60 f110 [part vh [1,1,1]] ⟨aH uv (AZ c r i),B8 c m y w s i,5⟩=
  let c1:Prop:=0<1;some (aj [c1,c1] (aj [c1] (leaf ret [agg [int i64 c.p,aq 3 c.n fun i=>rat (c.k i) y,aq 12 i fun i=>agg [agg [rat (iR m.m.a (c.f (i+0)).n m.t.x) w,rat (iR m.m.b (c.f (i+0)).n m.t.y) w,rat (iR m.m.c (c.f (i+0)).n m.t.z) w],rat (c.f (i+0)).d w]]]))):=ah
theorem Gn:aZ P Bp:=aE (cQ hT fq hm (aN func127) _ _) (aE (cQ hT fq hm (aN func76) _ _) bA)
theorem afT:aZ P Lj:=aE (cQ hT Gn hm (aN func166) _ _) (aE (cQ hT Gn hm (aN func182) _ _) bA)
theorem Xd:aZ P EV:=aE (cQ hT afT hm (aN func150) _ _) bA
theorem afD {x y:Nat}:aZ P (Ac x y):=eV (aE (Gd x y) (gP Xd fq))
theorem Lz {rl:List (Nat×Nat)} {c:Cu} {y a i:Nat} (h:bB rl 4=some a):iF rl (.agg [.int .i64 c.p,bp c.k c.n y,.own a 12 0 i]) (.agg [.int .i64 c.p,bp c.k c.n y,.own 4 12 0 i]):=
 me ⟨aQ,aQ,⟨rfl,dw h rfl rfl⟩,trivial⟩
theorem ZW (m:Mp) (s:Nat):(bK (ng m s)).size=36:=ah
theorem Yr {x y r s w:Nat} {c:Cu} {m:Mp} (hx:x+10<=y) (hy:y<2^40) (hw:4*s+3*r+10<=w) (hw2:w<2^40) (hn:c.n<2^30) (hm2:c.m<2^30) (K:Nat):aO P 110 K [bh c x r,ng m s] [] (aI (bh (Dc m c) y w) []):=by
 refine iJ (r:=aI (bh (Dc m c) y w) []) hT (afD (x:=x) (y:=y)) hm N6 rfl aV rfl [1,1,0,1] (i:=0) (y:=part vh [1,1,0,1,0,0]) (z:=part vh [1,1,1]) ah ah ah (f1:=[]) (f2:=[18]) (f3:=[]) 60 uv 5
  (fun i:Nat=>AZ c r i) (fun i=>B8 c m y w s i) (fun i=>i<=c.m) (fun i=>i=c.m) (fun i=>c.m-i) (fun _=>⟨⟨_,Yh,?_⟩,fun i hi=>⟨_,Yb,?_⟩,fun i hi=>⟨_,QA,?_⟩⟩) K []
 ·simp only[ag.all,au]
  rw[ZW m s]
  exact⟨⟨aa,aa,dh bq,aa,aa,aa,aa⟩,aa,0,Nat.zero_le _,[(1,4096),(2,8192),(3,36864)],rfl,rfl,rfl,lD rfl aa aa (ff rfl rfl (me ⟨aQ,aQ,⟨rfl,pE aa⟩,trivial⟩) (bf (bf trivial)))⟩
 ·set_option maxRecDepth 10000 in simp only[ag.all,au,bz,bF,bw,Nat.add_zero]
  refine⟨fun h=>?_,fun h=>⟨rfl,i,aa,[(1,1),(2,2),(3,3),(4,4)],rfl,rfl,rfl,mm (ff rfl rfl (Lz rfl) (bf (bf trivial)))⟩⟩
  have w1:i64.wrap (0+1)=1:=by decide
  have w2:i64.wrap (i64.wrap (0+1)+1)=2:=by decide
  rw[w2,w1]
  refine⟨aa,?_,aa,i+1,aa,by dsimp only;omega,[(1,1),(2,2),(3,3),(4,69637)],rfl,rfl,rfl,cI rfl rfl rfl (fun k hk=>Cf (y:=fun j=>yC m (c.f j)) (fun _ _=>rfl) (s':=w) ?_ rfl bq bq hk) (ff rfl rfl (Lz rfl) (bf (bf trivial)))⟩
  ·(repeat' with_reducible refine And.intro ?_ ?_)<;>omega
  ·exact cz ⟨cz ⟨bI rfl aa,bI rfl aa,bI rfl aa,trivial⟩,bI (Rat.add_zero _) aa,trivial⟩
 ·subst hi
  simp only[ag.all,au]
  exact⟨aa,aa,.refl _⟩
abbrev KD:FuncId:=164
abbrev xx:FuncId:=198
abbrev tK:Code:=aF f198
theorem WO:aW KD f164:=aN func164
theorem AD:aW xx f198:=aN func198
theorem FZ:aW 119 f119:=aN func119
def loadT (o:Oper):Nat:=match o.op with
 |.load t _=>t
 |_=>0
def Ni (o:Oper):Nat:=match o.op with
 |.binOp _ t _ _ _=>t
 |_=>0
abbrev MT:Nat:=loadT (dA tK [0] 0)
abbrev KS:Nat:=loadT (dA tK [1,0,0,1,0,0,0] 5)
abbrev bkI:Nat:=Ni (dA tK [0] 2)
def Jj (o:Oper):Array TypeId:=match o.op with
 |.call c=>c.argTypes
 |_=>#[]
def Ey (o:Oper):Nat:=match o.op with
 |.unOp _ t _=>t
 |_=>0
theorem TZ:CA tK MT KS bkI:=⟨ah,⟨ah,ah,ah⟩,⟨ah,ah,ah⟩,⟨ah,ah,ah⟩,⟨ah,ah,ah⟩,⟨ah,ah,ah⟩,⟨ah,ah,ah⟩,⟨ah,ah,ah⟩,⟨ah,ah,ah⟩,⟨ah,ah,ah⟩,⟨ah,ah,ah⟩,⟨ah,ah,ah⟩,⟨ah,ah,ah⟩,
 ⟨Jj (dA tK [1,0,0,1,0,0,0] 6),ah,ah,ah⟩,⟨Ey (dA tK [1,0,0,1,0,0,0] 7),ah,ah,ah⟩,⟨ah,ah,ah⟩,⟨ah,ah,ah⟩,⟨ah,ah,ah⟩⟩
theorem XP {n s:Nat} {k:Nat->Rat} (hn:n<2^62):vJ P xx [.bn (bp k n s)] n (fun i=>.int .i64 ((n:Int)-1-i)) (fun i=>.rat (k (n-1-i)) s):=
 Mv hT (tiS:=(look MT T).getD ⟨.bool,0,0,.nil⟩) (tiE:=(look KS T).getD ⟨.bool,0,0,.nil⟩) ah ah ah ah AD.get AD.body ah ah TZ (f:=fun i=>.rat (k i) s) hn ah fun i hi=>⟨rfl,rfl⟩
def uq:aU:=nG::(KD,cO T [sG] [] 20 f164)::eO
abbrev uO:List Nat:=[1,3,7]
abbrev Az (n:Nat) (k:Nat->Rat) (s:Nat):List AV:=[.ptr 0 0 1 0 [],.ptr 1 0 1 0 [],.func xx [.bn (bp k n s)]]
abbrev wO (n:Nat) (k:Nat->Rat) (s i:Nat) (x:Nat->Rat) (w:Nat):aD:=[(2,nI i x w),(1,⟨false,true,1,1,fun _=>.own 2 3 0 i⟩),(0,⟨false,true,1,1,fun _=>bp k n s⟩)]
abbrev CM:List Nat:=[1,3,7,5]
abbrev K8 (n:Nat) (k:Nat->Rat) (s:Nat):List AV:=[.ptr 0 0 1 0 [],.ptr 1 0 1 0 [],.func xx [.bn (bp k n s)],.ptr 3 0 3 0 []]
abbrev qX:Code:=aF f119
def x6:Code->Code×Code
 |.block _ (.rangeFunc _ _ x y)=>(x,y)
 |_=>(.skip,.skip)
abbrev I6:Code:=(x6 (part qX [1,1,0,1])).1
abbrev EB:Code:=(x6 (part qX [1,1,0,1])).2
theorem UK {n s:Nat} {k:Nat->Rat}:aM T uq [] 60 uO (before qX [1,1,0,1]) ⟨aT 0 [bp k n s],[],0⟩=
  let c1:AV:=aq 3 n fun i=>rat (k i) s;some (aj [(0:Nat)<1] (leaf normal ([ptr 0 0 (bK (bp k n s)).size 0 [],ptr 8192 0 1 0 [],func 198 [c1.bn]],[(8192,az.mk false true 1 1 fun x=>nil),(0,az.mk false true (bK (bp k n s)).size 1 fun x=>c1)]))):=ah
theorem X2 {n s w i:Nat} {k x:Nat->Rat} {u:Int} {v:Rat}:aM T uq [] 60 CM [I6] ⟨aH (uO++[8,9]) (Az n k s++[.int .i64 u,.rat v s]),wO n k s i x w,3⟩=
  let c1:AV:=aq 3 n fun i=>rat (k i) s;some (aj [(0:Nat)<1] (leaf normal ([ptr 0 0 1 0 [],ptr 1 0 1 0 [],func 198 [c1.bn],ptr 3 0 3 0 []],[(2,az.mk true true 3 i fun i=>rat (x i) w),((3:Nat),bN fun j=>if(j==0)=true then bK (rat v s)else rat 0 1),(1,az.mk false true 1 1 fun x=>own 2 3 0 i),(0,az.mk false true 1 1 fun x=>c1)]))):=ah
theorem agR {n s w i:Nat} {k x:Nat->Rat} {v:Rat}:aM T uq [] 60 uO [EB] ⟨aH CM (K8 n k s),(3,tP v s)::wO n k s i x w,4⟩=
  let c4:AV:=aq 3 n fun i=>rat (k i) s;let c3:Nat:=2^42;let c2:Int:=(↑n:Int)-1;let c1:Prop:=0<1;some (aj [c1,c1,(0:Int)<=0/\Int.toNat (0:Int)<n,c1,c1,-(2:Int)^63<=c2/\c2<2^63,(0:Int)<=c2/\c2.toNat<n,s<c3,s<c3,c1,s+s+1<c3,s<c3,(1:Nat)*3<=2^24,(i+1)*((56:Nat)+1)*2<=2^47,c1] (leaf normal ([ptr 0 0 1 0 [],ptr 1 0 1 0 [],func 198 [c4.bn]],[(57348,az.mk true true 3 (i+1) fun i_1=>if i_1<i then rat (x i_1) w else nth [rat (k (Int.toNat (0:Int))+k c2.toNat-v) (s+s+1+s+1)] (rat 0 1) (i_1-i+0)),(1,az.mk false true 1 1 fun j=>if(j==0)=true then bK (own (nat_lit 57347+1) 3 0 (i+1))else own 2 3 0 i),(0,az.mk false true 1 1 fun x=>c4)]))):=ah
theorem aev {n s w i:Nat} {k x:Nat->Rat}:cR T uq [] 60 f119 [part qX [1,1,1]] ⟨aH uO (Az n k s),wO n k s i x w,3⟩=
  some (aj [(0:Nat)<1] (leaf ret [aq 3 i fun i=>rat (x (i+0)) w])):=ah
theorem Im:aZ P uq:=eV (aE (cQ hT (ct bA) hm WO _ _) fq)
theorem Yn {n s w:Nat} {k:Nat->Rat} (h:3*s+2<=w) (hw:w<2^40) (hn:n<2^40) (K:Nat):aO P 119 K [bp k n s] [] (aI (bp (gJ n k) n w) []):=by
 refine G8 (r:=aI (bp (gJ n k) n w) []) hT FZ rfl aV rfl (fun _ cx hro hk=>?_) K []
 refine ay.FF hT Im hm (x:=qX) (assign:=I6) (body:=EB) (g:=7) (p0:=8) (p1:=9) [1,1,0,1] (i:=0) ah ah FZ.dst hro hk AD.enters (XP (s:=s) (k:=k) aa) aV aV (by decide) (f1:=[]) (f2:=[]) (f3:=[])
  60 uO CM (Az n k s) (fun _=>rfl) rfl (fun i=>wO n k s i (gJ n k) w) 3 4 (fun _=>K8 n k s) (fun i=>(3,tP (k (n-1-i)) s)::wO n k s i (gJ n k) w) [0,1] ⟨_,UK,?_⟩ (fun i hi=>⟨_,X2,?_⟩) (fun i hi=>⟨_,agR,?_⟩) ?_
 ·simp only[ag.all,au]
  exact⟨aa,trivial,[(0,0),(1,8192)],rfl,rfl,rfl,lD rfl aa aa (ff rfl rfl (.inl (.inl ⟨rfl,rfl⟩)) (bf trivial))⟩
 ·simp only[ag.all,au]
  exact⟨aa,trivial,[(0,0),(1,1),(2,2),(3,3)],rfl,rfl,rfl,bf (mm (ff rfl rfl (.inl (.inl ⟨rfl,rfl⟩)) (bf trivial)))⟩
 ·simp only[ag.all,au,Int.toNat_zero]
  refine⟨aa,trivial,[(0,0),(1,1),(2,57348)],rfl,rfl,rfl,cI rfl rfl rfl (fun j hj=>oz (fun _ _=>rfl) ?_ bq aa hj) (ff rfl rfl (.inl (.inl ⟨rfl,rfl⟩)) (bf trivial))⟩
  rw[show((n:Int)-1).toNat=n-1 by omega];rfl
 ·rw[show behind qX [1,1,0,1]=[part qX [1,1,1]]from by kernel_rfl]
  exact(aJ.fin hT Im hm 60 aev ah (by simp only[ag.all,au];exact⟨aa,.refl _⟩)).mono fun _ _ h=>.inl h
theorem ag6 {s w:Nat} (h:3*s+2<=w) (hw:w<2^40):aY P (zN s w) 119:=cC fun⟨⟨n,k⟩,_⟩ K hn=>Yn h hw hn K
abbrev EN:FuncId:=120
abbrev zQ:FuncId:=165
abbrev tV:Code:=aF f165
theorem VV:aW EN f120:=aN func120
theorem Cs:aW zQ f165:=aN func165
theorem F2:aW 63 f63:=aN func63
theorem adD:aW 22 f22:=aN func22
abbrev JJ:Nat:=loadT (dA tV [0] 0)
abbrev FR:Nat:=loadT (dA tV [1,0,0,1,0,0,0] 5)
abbrev bpI:Nat:=Ni (dA tV [0] 2)
theorem NX:CA tV JJ FR bpI:=⟨ah,⟨ah,ah,ah⟩,⟨ah,ah,ah⟩,⟨ah,ah,ah⟩,⟨ah,ah,ah⟩,⟨ah,ah,ah⟩,⟨ah,ah,ah⟩,⟨ah,ah,ah⟩,⟨ah,ah,ah⟩,⟨ah,ah,ah⟩,⟨ah,ah,ah⟩,⟨ah,ah,ah⟩,⟨ah,ah,ah⟩,
 ⟨Jj (dA tV [1,0,0,1,0,0,0] 6),ah,ah,ah⟩,⟨Ey (dA tV [1,0,0,1,0,0,0] 7),ah,ah,ah⟩,⟨ah,ah,ah⟩,⟨ah,ah,ah⟩,⟨ah,ah,ah⟩⟩
theorem Xj {n s:Nat} {f:Nat->Pl} (hn:n<2^62):vJ P zQ [.bn (oR f n s)] n (fun i=>.int .i64 ((n:Int)-1-i)) (fun i=>aK (f (n-1-i)) s):=
 Mv hT (tiS:=(look JJ T).getD ⟨.bool,0,0,.nil⟩) (tiE:=(look FR T).getD ⟨.bool,0,0,.nil⟩) ah ah ah ah Cs.get Cs.body ah ah NX (f:=fun i=>aK (f i) s) hn ah fun i hi=>⟨rfl,rfl⟩
def qn (c:Cu):Cu:=⟨c.p,c.n,gJ c.n c.k,c.m,fun j=>c.f (c.m-1-j)⟩
def Hw:aU:=[(127,cO T (sG::eO) [] 60 f127)]
def I9:aU:=[(166,cO T (sG::Hw) [] 60 f166)]
def Lk:aU:=[(121,cO T (sG::(I9++eO)) [] 60 f121)]
def vD (s w:Nat):aU:=nG::(EN,cO T [sG] [] 20 f120)::(119,zN s w)::Lk
def yt (s w:Nat):aU:=nG::(64,zN s w)::[]
abbrev ur:List Nat:=[1,2,3,14]
abbrev B7 (c:Cu) (r:Nat):List AV:=[.ptr 0 0 3 0 [],.ptr 1 0 3 0 [],.ptr 2 0 3 0 [],.func zQ [.bn (oR c.f c.m r)]]
abbrev oW (c:Cu) (s r y w i:Nat):aD:=[(3,⟨true,true,12,i,fun j=>aK (c.f (c.m-1-j)) w⟩),(2,⟨false,true,3,1,fun _=>.agg [.int .i64 c.p,bp (gJ c.n c.k) c.n y,.own 3 12 0 i]⟩),(1,⟨false,true,3,1,fun _=>.agg [.int .i64 0,.nil,.nil]⟩),(0,⟨false,true,3,1,fun _=>bh c s r⟩)]
abbrev Cp:List Nat:=[1,2,3,14,5]
abbrev EM (c:Cu) (r:Nat):List AV:=[.ptr 0 0 3 0 [],.ptr 1 0 3 0 [],.ptr 2 0 3 0 [],.func zQ [.bn (oR c.f c.m r)],.ptr 4 0 12 0 []]
abbrev qQ:Code:=aF f63
abbrev HJ:Code:=(x6 (part qQ [1,1,0,1])).1
abbrev KP:Code:=(x6 (part qQ [1,1,0,1])).2
abbrev J2 (p:Pl) (s:Nat):az:=⟨false,true,12,1,fun _=>aK p s⟩
abbrev wV:List Nat:=[1,2,3,4]
abbrev w7 (i:Int):List AV:=[.ptr 0 0 3 0 [],.ptr 1 0 3 0 [],.ptr 2 0 3 0 [],.int .i64 i]
abbrev vf:Code:=aF f22
theorem Pn {c:Cu} {s r y:Nat}:aM T (vD s y) [] 60 ur (before qQ [1,1,0,1]) ⟨aT 0 [bh c s r],[],0⟩=
  let c3:Prop:=0<1;let c2:AV:=agg [int i64 0,nil,nil];let c1:AV:=aq 12 c.m fun i=>agg [agg [rat (c.f i).n.x r,rat (c.f i).n.y r,rat (c.f i).n.z r],rat (c.f i).d r];some (aj [c3,c3,bT (fun i=>rat (c.k i) s) c.n s,c.n<2^40,c3] (aj [c3] (leaf normal ([ptr 0 0 (bK (bh c s r)).size 0 [],ptr 4096 0 3 0 [],ptr 32768 0 3 0 [],func 165 [c1.bn]],[((32768:Nat),bN fun j=>if(j==0)=true then bK (agg ((c2.kids.set 0 (bK (int i64 c.p))).set 1 (bK (bp (gJ c.n fun i=>aC (rat (c.k i) s)) c.n y))))else c2),((4096:Nat),bN fun x=>c2),(0,az.mk false true (bK (bh c s r)).size 1 fun x=>agg [int i64 c.p,aq 3 c.n fun i=>rat (c.k i) s,c1])])))):=ah
theorem WM {c:Cu} {s r y w i:Nat} {u:Int} {v:Pl}:aM T (vD s y) [] 60 Cp [HJ] ⟨aH (ur++[15,16]) (B7 c r++[.int .i64 u,aK v r]),oW c s r y w i,4⟩=
  let c3:Nat:=c.m-1;let c2:AV:=rat 0 1;let c1:AV:=aq 12 c.m fun i=>agg [agg [rat (c.f i).n.x r,rat (c.f i).n.y r,rat (c.f i).n.z r],rat (c.f i).d r];some (aj [(0:Nat)<1] (leaf normal ([ptr 0 0 3 0 [],ptr 1 0 3 0 [],ptr 2 0 3 0 [],func 165 [c1.bn],ptr 4 0 12 0 []],[(3,az.mk true true 12 i fun j=>agg [agg [rat (c.f (c3-j)).n.x w,rat (c.f (c3-j)).n.y w,rat (c.f (c3-j)).n.z w],rat (c.f (c3-j)).d w]),(4,az.mk false true 12 1 fun j=>if(j==0)=true then bK (aK v r)else agg [agg [c2,c2,c2],c2]),((2:Nat),bN fun x=>agg [int i64 c.p,aq 3 c.n fun i=>rat (gJ c.n c.k i) y,own 3 12 0 i]),((1:Nat),bN fun x=>agg [int i64 0,nil,nil]),((0:Nat),bN fun x=>agg [int i64 c.p,aq 3 c.n fun i=>rat (c.k i) s,c1])]))):=ah
theorem UM {c:Cu} {s r y w i:Nat} {v:Pl}:aM T (vD s y) [] 60 ur [KP] ⟨aH Cp (EM c r),(4,J2 v r)::oW c s r y w i,5⟩=
  let c6:AV:=rat 0 1;let c5:Nat:=r+1+1;let c4:AV:=agg [int i64 c.p,bp (gJ c.n c.k) c.n y,own 3 12 0 i];let c3:Prop:=0<1;let c2:AV:=aq 12 c.m fun i=>agg [agg [rat (c.f i).n.x r,rat (c.f i).n.y r,rat (c.f i).n.z r],rat (c.f i).d r];let c1:Nat:=2^42;let c7:Prop:=1<c1;some (aj [c3,c3,r<c1,c7,r<c1,c7,r<c1,c7,c3,c3,r<c1,c7,c3,(1:Nat)*12<=2^24,(i+1)*((224:Nat)+1)*2<=2^47,c3] (leaf normal ([ptr 0 0 3 0 [],ptr 1 0 3 0 [],ptr 2 0 3 0 [],func 165 [c2.bn]],[(20485,az.mk true true 12 (i+1) fun i_1=>if i_1<i then aK (c.f (c.m-1-i_1)) w else nth [agg [agg [rat (v.n.x+0) c5,rat (v.n.y+0) c5,rat (v.n.z+0) c5],rat (v.d+0) c5]] (agg [agg [c6,c6,c6],c6]) (i_1-i+0)),((2:Nat),bN fun j=>if(j==0)=true then agg (c4.kids.set 2 (bK (own (nat_lit 20484+1) 12 0 (i+1))))else c4),((1:Nat),bN fun x=>agg [int i64 0,nil,nil]),((0:Nat),bN fun x=>agg [int i64 c.p,aq 3 c.n fun i=>rat (c.k i) s,c2])]))):=ah
theorem QW {c:Cu} {s r y w i:Nat}:cR T (vD s y) [] 60 f63 [part qQ [1,1,1]] ⟨aH ur (B7 c r),oW c s r y w i,4⟩=
  let c2:Prop:=0<1;let c1:Nat:=c.m-1;some (aj [c2,c2] (aj [c2] (leaf ret [agg [int i64 c.p,aq 3 c.n fun i=>rat (gJ c.n c.k i) y,aq 12 i fun i=>agg [agg [rat (c.f (c1-(i+0))).n.x w,rat (c.f (c1-(i+0))).n.y w,rat (c.f (c1-(i+0))).n.z w],rat (c.f (c1-(i+0))).d w]]]))):=ah
theorem afq {c:Cu} {s r y:Nat}:aM T (yt s y) [] 60 wV (before vf [1,1,0,1]) ⟨aT 0 [bh c s r],[],0⟩=
  let c3:Int:=(↑c.m:Int)-1;let c2:Prop:=0<1;let c1:AV:=agg [int i64 0,nil,nil];some (aj [c2,c2,bT (fun i=>rat (c.k i) s) c.n s,c.n<2^40,c2] (aj [c2,-(2:Int)^63<=c3/\c3<2^63] (leaf normal ([ptr 0 0 (bK (bh c s r)).size 0 [],ptr 4096 0 3 0 [],ptr 32768 0 3 0 [],int i64 c3],[((32768:Nat),bN fun j=>if(j==0)=true then bK (agg ((c1.kids.set 0 (bK (int i64 c.p))).set 1 (bK (bp (gJ c.n fun i=>aC (rat (c.k i) s)) c.n y))))else c1),((4096:Nat),bN fun x=>c1),(0,az.mk false true (bK (bh c s r)).size 1 fun x=>agg [int i64 c.p,aq 3 c.n fun i=>rat (c.k i) s,aq 12 c.m fun i=>agg [agg [rat (c.f i).n.x r,rat (c.f i).n.y r,rat (c.f i).n.z r],rat (c.f i).d r]])])))):=ah
theorem Xt {c:Cu} {s r y w i:Nat} {j:Int}:aM T (yt s y) [16] 60 wV [part vf [1,1,0,1,0,0]] ⟨aH wV (w7 j),oW c s r y w i,4⟩=
  let c10:Pl:=c.f j.toNat;let c9:AV:=own 3 12 0 i;let c8:Prop:=0<1;let c7:AV:=ptr 2 0 3 0 [];let c6:AV:=ptr 1 0 3 0 [];let c5:AV:=ptr 0 0 3 0 [];let c4:Nat:=c.m-1;let c3:AV:=rat 0 1;let c1:List (Nat×az):=[((1:Nat),bN fun x=>agg [int i64 0,nil,nil]),((0:Nat),bN fun x=>agg [int i64 c.p,aq 3 c.n fun i=>rat (c.k i) s,aq 12 c.m fun i=>agg [agg [rat (c.f i).n.x r,rat (c.f i).n.y r,rat (c.f i).n.z r],rat (c.f i).d r]])];let c2:AV:=agg [int i64 c.p,bp (gJ c.n c.k) c.n y,c9];some (fork (decide (j>=0)) (aj [c8,c8,(0:Int)<=j/\j.toNat<c.m,(1:Nat)*12<=2^24,(i+1)*((224:Nat)+1)*2<=2^47,c8] (aj [-(2:Int)^63<=j-1/\j-1<(2:Int)^63] (leaf normal ([c5,c6,c7,int i64 (j-1)],(40964,az.mk true true 12 (i+1) fun i_1=>if i_1<i then aK (c.f (c4-i_1)) w else nth [agg [agg [rat c10.n.x r,rat c10.n.y r,rat c10.n.z r],rat c10.d r]] (agg [agg [c3,c3,c3],c3]) (i_1-i+0))::((2:Nat),bN fun j=>if(j==0)=true then agg (c2.kids.set 2 (bK (own (nat_lit 40963+1) 12 0 (i+1))))else c2)::c1)))) (leaf (exit 0) ([c5,c6,c7,int i64 j],(3,az.mk true true 12 i fun j=>agg [agg [rat (c.f (c4-j)).n.x w,rat (c.f (c4-j)).n.y w,rat (c.f (c4-j)).n.z w],rat (c.f (c4-j)).d w])::((2:Nat),bN fun x=>agg [int i64 c.p,aq 3 c.n fun i=>rat (gJ c.n c.k i) y,c9])::c1))):=ah
theorem UP {c:Cu} {s r y w i:Nat} {j:Int}:cR T (yt s y) [] 60 f22 [part vf [1,1,1]] ⟨aH wV (w7 j),oW c s r y w i,4⟩=
  let c2:Prop:=0<1;let c1:Nat:=c.m-1;some (aj [c2,c2] (aj [c2] (leaf ret [agg [int i64 c.p,aq 3 c.n fun i=>rat (gJ c.n c.k i) y,aq 12 i fun i=>agg [agg [rat (c.f (c1-(i+0))).n.x w,rat (c.f (c1-(i+0))).n.y w,rat (c.f (c1-(i+0))).n.z w],rat (c.f (c1-(i+0))).d w]]]))):=ah
theorem Ou:aZ P Hw:=aE (cQ hT (ct fq) hm (aN func127) _ _) bA
theorem acG:aZ P I9:=aE (cQ hT (ct Ou) hm (aN func166) _ _) bA
theorem ZY:aZ P Lk:=aE (cQ hT (ct (gP acG fq)) hm (aN func121) _ _) bA
theorem GO {s y:Nat} (h:3*s+2<=y) (hy:y<2^40):aZ P (vD s y):=eV (aE (cQ hT (ct bA) hm VV _ _) (aE (ag6 h hy) ZY))
theorem adI {s y:Nat} (h:3*s+2<=y) (hy:y<2^40):aZ P (yt s y):=eV (aE (WY h hy) bA)
theorem MM (c:Cu) (s r:Nat):(bK (bh c s r)).size=3:=ah
theorem x9 {rl:List (Nat×Nat)} {c:Cu} {y a i:Nat} (h:bB rl 3=some a):iF rl (.agg [.int .i64 c.p,bp (gJ c.n c.k) c.n y,.own a 12 0 i]) (.agg [.int .i64 c.p,bp (gJ c.n c.k) c.n y,.own 3 12 0 i]):=
 me ⟨aQ,aQ,⟨rfl,dw h rfl rfl⟩,trivial⟩
def JW (s r y w:Nat):Spec:=cP (kC (gE s r) kN) (fun a=>bh (qn a.1) y w) fun a=>[a.1.n<2^30,a.1.m<2^30]
theorem adt {c:Cu} {s r y w:Nat} (h1:3*s+2<=y) (hy:y<2^40) (h2:r+2<=w) (hw:w<2^40) (hn:c.n<2^30) (hm2:c.m<2^30) (K:Nat):aO P 63 K [bh c s r] [] (aI (bh (qn c) y w) []):=by
 refine G8 (r:=aI (bh (qn c) y w) []) hT F2 rfl aV rfl (fun _ cx hro hk=>?_) K []
 refine ay.FF hT (GO h1 hy) hm (x:=qQ) (assign:=HJ) (body:=KP) (g:=14) (p0:=15) (p1:=16) [1,1,0,1] (i:=0) ah ah F2.dst hro hk Cs.enters (Xj (s:=r) (f:=c.f) aa) aV aV (by decide) (f1:=[]) (f2:=[]) (f3:=[])
  60 ur Cp (B7 c r) (fun _=>rfl) rfl (fun i=>oW c s r y w i) 4 5 (fun _=>EM c r) (fun i=>(4,J2 (c.f (c.m-1-i)) r)::oW c s r y w i) [0,1,2] ⟨_,Pn,?_⟩ (fun i hi=>⟨_,WM,?_⟩) (fun i hi=>⟨_,UM,?_⟩) ?_
 ·simp only[ag.all,au]
  rw[MM c s r]
  exact⟨⟨aa,aa,dh bq,aa,aa⟩,aa,trivial,[(0,0),(1,4096),(2,32768)],rfl,rfl,rfl,lD rfl aa aa (ff rfl rfl (me ⟨aQ,aQ,⟨rfl,pE aa⟩,trivial⟩) (bf (bf trivial)))⟩
 ·simp only[ag.all,au]
  exact⟨aa,trivial,[(0,0),(1,1),(2,2),(3,3),(4,4)],rfl,rfl,rfl,bf (mm (ff rfl rfl (x9 rfl) (bf (bf trivial))))⟩
 ·simp only[ag.all,au,Int.toNat_zero]
  refine⟨?_,trivial,[(0,0),(1,1),(2,2),(3,20485)],rfl,rfl,rfl,cI rfl rfl rfl (fun k hk=>Cf (y:=fun j=>c.f (c.m-1-j)) (fun _ _=>rfl) (s':=w) ?_ rfl bq bq hk) (ff rfl rfl (x9 rfl) (bf (bf trivial)))⟩
  ·(repeat' with_reducible refine And.intro ?_ ?_)<;>omega
  ·exact cz ⟨cz ⟨bI (Rat.add_zero _) aa,bI (Rat.add_zero _) aa,bI (Rat.add_zero _) aa,trivial⟩,bI (Rat.add_zero _) aa,trivial⟩
 ·rw[show behind qQ [1,1,0,1]=[part qQ [1,1,1]]from by kernel_rfl]
  exact(aJ.fin hT (GO h1 hy) hm 60 QW ah (by simp only[ag.all,au];exact⟨aa,aa,.refl _⟩)).mono fun _ _ h=>.inl h
theorem XS {c:Cu} {s r y:Nat} (h1:3*s+2<=y) (hy:y<2^40) (hn:c.n<2^30) (hm2:c.m<2^30) (K:Nat):aO P 22 K [bh c s r] [] (aI (bh (qn c) y r) []):=by
 refine iJ (r:=aI (bh (qn c) y r) []) hT (adI h1 hy) hm adD rfl aV rfl [1,1,0,1] (i:=0) (y:=part vf [1,1,0,1,0,0]) (z:=part vf [1,1,1]) ah ah ah (f1:=[]) (f2:=[16]) (f3:=[]) 60 wV 4
  (fun i:Nat=>w7 ((c.m:Int)-1-i)) (fun i=>oW c s r y r i) (fun i=>i<=c.m) (fun i=>i=c.m) (fun i=>c.m-i) (fun _=>⟨⟨_,afq,?_⟩,fun i hi=>⟨_,Xt,?_⟩,fun i hi=>⟨_,UP,?_⟩⟩) K []
 ·simp only[ag.all,au]
  rw[MM c s r]
  exact⟨⟨aa,aa,dh bq,aa,aa⟩,⟨aa,aa⟩,0,aa,[(0,0),(1,4096),(2,32768)],rfl,by show _=(w7 ((c.m:Int)-1-((0:Nat):Int))).map _;rw[show(c.m:Int)-1-((0:Nat):Int)=(c.m:Int)-1 by omega];rfl,rfl,lD rfl aa aa (ff rfl rfl (me ⟨aQ,aQ,⟨rfl,pE aa⟩,trivial⟩) (bf (bf trivial)))⟩
 ·simp only[ag.all,au,bz,bF,bw,Nat.add_zero,Int.toNat_zero]
  refine⟨fun h1=>⟨⟨aa,aa,aa,aa,aa,aa⟩,aa,i+1,aa,by dsimp only;omega,[(0,0),(1,1),(2,2),(3,40964)],rfl,by show _=(w7 ((c.m:Int)-1-((i+1:Nat):Int))).map _;rw[show(c.m:Int)-1-((i+1:Nat):Int)=(c.m:Int)-1-i-1 by omega];rfl,rfl,cI rfl rfl rfl (fun k hk=>Cf (y:=fun j=>c.f (c.m-1-j)) (fun _ _=>rfl) (s':=r) ?_ rfl bq bq hk) (ff rfl rfl (x9 rfl) (bf (bf trivial)))⟩,
   fun h1=>⟨rfl,i,aa,[(0,0),(1,1),(2,2),(3,3)],rfl,rfl,rfl,mm (ff rfl rfl (x9 rfl) (bf (bf trivial)))⟩⟩
  rw[show((c.m:Int)-1-i).toNat=c.m-1-i by omega]
  exact .refl _
 ·subst hi
  simp only[ag.all,au]
  exact⟨aa,aa,.refl _⟩
theorem acF {s r y:Nat} (h1:3*s+2<=y) (hy:y<2^40):aY P (JW s r y r) 22:=cC fun⟨c,_⟩ K hn=>XS h1 hy hn.1 hn.2 K
def CU (c d:Cu):Prop:=dx c/\dx d/\(∀i,i<4->c.k i=bk i/\d.k i=bk i)/\c.f 0=⟨⟨0,0,0⟩,1⟩/\c.f 1=⟨⟨2,0,0⟩,1⟩/\d.f 0=⟨⟨2,0,0⟩,1⟩/\d.f 1=⟨⟨0,0,0⟩,1⟩
def xG:Spec:=cP (kC (gE 1000 1000) (kC (gE 1000 1000) kN)) (fun _=>.tuple [.bool false,.bool true]) fun a=>[CU a.1 a.2.1]
def Fy:Spec:=bY fun l=>match l with
 |[.rat q _]=>match decide (q=1/4),decide (q=1/2)with
  |true,_=>some (aI (.str [49,47,52]) [])
  |false,true=>some (aI (.str [49,47,50]) [])
  |_,_=>none
 |_=>none
def Bq:aU:=[(103,cO T (sG::qM) [] 60 f103),(104,cO T (sG::qM) [] 60 f104)]
def AQ:aU:=[(51,cO T (sG::(Bq++qM)) [21,41] 200 f51),(52,cO T (sG::qM) [] 200 f52)]
def ND:aU:=[(53,cO T (sG::(AQ++Bq)) [20,25] 200 f53)]
def EE:aU:=[(15,cO T (sG::(ND++AQ)) [] 60 f15)]
def Na:aU:=sG::(9,uR)::(21,xG)::(22,JW 64 300 1000 300)::(23,Fy)::(18,cO T (sG::(Bg++j3)) [] 200 f18)::(EE++(Fs++((19,cO T (sG::j3) [] 60 f19)::(Mc++j3))))
theorem acZ:bD T Na [100042,100048,100051,100057,100063,100067] 400 f6 (aF f6) ⟨aT 0 [],[],0⟩=
  let c53:List UInt8:=[(49:UInt8),(47:UInt8),(52:UInt8)];let c52:List UInt8:=[(49:UInt8),(47:UInt8),(50:UInt8)];let c51:Nat:=2^47;let c49:Nat:=168+1;let c45:Nat:=Max.max 1 (bO (Int.natAbs (2:Int)));let c44:Nat:=Max.max 1 (bO (Int.natAbs (5:Int)));let c43:Bool:=(9:Int)==0;let c40:Bool:=(0:Int)==0;let c33:AV:=int i64 0;let c32:AV:=rat 0 1;let c24:Nat:=Max.max 1 (bO (Int.natAbs (1:Int)));let c23:Prop:=0<1;let c9:Rat:=(↑(1:Int):Rat);let c8:Rat:=(↑(0:Int):Rat);let c55:V3:=V3.mk c8 c9 c8;let c54:AV:=rat c9 c24;let c48:Rat:=(c8-c8)*(c8-c9)-(c9-c9)*(c8-c8);let c47:Rat:=(c9-c8)*(c8-c8)-(c8-c8)*(c9-c8);let c46:Rat:=(c9-c9)*(c9-c8)-(c9-c8)*(c8-c9);let c35:AV:=rat ((↑(2:Int):Rat)*0) (c45+1);let c34:AV:=rat ((↑(5:Int):Rat)*0) (c44+1);let c16:V3:=V3.mk c9 c8 c8;let c13:Rat:=bif c43 then 0 else bif c43 then 0 else 0;let c12:List AV:=[c33,c33,int i64 1,int i64 1];let c11:AV:=agg [agg [c32,c32,c32],c32];let c50:Bool:=gr c16 c16;let c36:Bool:=gr (V3.mk c9 c9 c8) c16;let c29:Prop:=aC (rat (↑(intOf (nth c12 c33 ((0:Nat)+0+0))):Rat) 64)<aC (rat (↑(intOf (nth c12 c33 ((3:Nat)+0+0))):Rat) 64);let c25:Prop:=bT (fun i=>rat (↑(intOf (nth c12 c33 (i+0+0))):Rat) 64) 4 1000;let c15:Rat:=bif gr c55 c16 then 0 else 0;let c10:List AV:=[agg [agg [c54,c32,c32],c54],agg [agg [rat ((↑(5:Int):Rat)*c9) (c44+c24),c34,c34],c54]];let c7:List AV:=[agg [agg [c32,c32,c32],c54],agg [agg [rat ((↑(2:Int):Rat)*c9) (c45+c24),c35,c35],c54]];let c42:Prop:=dU (fun i=>nth c7 c11 (i+0)) 2 1000;let c31:Cu:=Cu.mk (1:Int) 4 (fun i=>aC (rat (↑(intOf (nth c12 c33 (i+0+0))):Rat) 64)) 2 fun i=>aS (nth c10 c11 (i+0));let c21:Rat:=bif c50 then bif c36 then c15 else bif c40 then c48 else 0 else c13;let cH:Rat:=bif c50 then bif c36 then c15 else bif c40 then c46 else 0 else c13;let c19:Rat:=bif c50 then bif c36 then c15 else bif c40 then c47 else 0 else c13;let c18:Cu:=Cu.mk (1:Int) 4 (fun i=>aC (rat (↑(intOf (nth c12 c33 (i+0+0))):Rat) 64)) 2 fun i=>aS (nth c7 c11 (i+0));let c3:Bool:=bif c50 then bif c36 then bif gr c55 c16 then false else false else bif c40 then true else false else bif c43 then true else bif c43 then true else false;let c2:Rat:=bif c50 then bif c36 then c15 else bif c40 then dot (V3.mk c47 c48 c46) c16 else 0 else c13;let c1:V3:=V3.mk c19 c21 cH;let c30:Bool:=bif true then cZ (dot c1 c55) c2 !=(0:Int)else false;let c22:Bool:=bif true then cZ (dot c1 c16) c2 !=(0:Int)else false;let c14:Bool:=bif true then cZ (dot c1 (V3.mk c9 c9 c8)) c2 !=(0:Int)else false;let c17:Bool:=bif c3 then bif c30 then false else c3 else bif false then false else c3;let c6:Rat:=bif c3 then bif c30 then 0 else cH else bif false then 0 else cH;let c5:Rat:=bif c3 then bif c30 then 0 else c19 else bif false then 0 else c19;let c4:Rat:=bif c3 then bif c30 then 0 else c21 else bif false then 0 else c21;let c41:Bool:=bif c3 then bif c14 then false else c17 else bif false then false else c17;let c39:Rat:=bif c3 then bif c14 then 0 else c4 else bif false then 0 else c4;let c38:Rat:=bif c3 then bif c14 then 0 else c6 else bif false then 0 else c6;let c37:Rat:=bif c3 then bif c14 then 0 else c5 else bif false then 0 else c5;let c28:Rat:=bif c3 then bif c22 then 0 else c38 else bif false then 0 else c38;let c27:Rat:=bif c3 then bif c22 then 0 else c37 else bif false then 0 else c37;let c26:Rat:=bif c3 then bif c22 then 0 else c39 else bif false then 0 else c39;some (aj [c23,c23,c23,c23,c23,c23,c23,c23/\1*c49*2<=c51,((1:Nat)+1)*c49*2<=c51,((1:Nat)+1+1)*c49*2<=c51,c50=true->au [c36=true->au [gr c55 c16=true->au ([c23]++([]++[])++[]),gr c55 c16=false->au ([c23]++([]++[])++[])],c36=false->au ([]++([]++([]++([]++([]++([c23]++([]++[])++[]++([]++([]++([]++([]++([]++([]++[])))))))))))++[c40=true->au ([c23]++([]++[])++[]),c40=false->au ([c23]++([]++[])++[])])],c50=false->au ([]++([]++([]++([]++([]++([c23]++([]++[])++[]++([]++([]++([]++([]++([]++([]++[])))))))))))++[c43=true->au ([c23]++([]++[])++[]),c43=false->au ([]++([]++([]++([]++([]++([c23]++([]++[])++[]++([]++([]++([]++([]++([]++([]++[])))))))))))++[c43=true->au ([c23]++([]++[])++[]),c43=false->au ([c23]++([]++[])++[])])]),c3=true->au ([]++([c3=true]++([]++([]++([]++([]++([]++[]))))))++[c22=true->au ([c23]++([]++[])++[]),c22=false->au [c3=true->au ([]++([c3=true]++([]++([]++([]++([]++([]++[]))))))++[c14=true->au ([c23]++([]++[])++[]),c14=false->au [c3=true->au ([]++([c3=true]++([]++([]++([]++([]++([]++[]))))))++[c30=true->au ([c23]++([]++[])++[]),c30=false->au ([c23]++([]++[])++[])]),c3=false->au ([]++([c3=false]++([]++([]++([]++([]++([]++[]))))))++[false=true->au ([c23]++([]++[])++[]),false=false->au ([c23]++([]++[])++[])])]]),c3=false->au ([]++([c3=false]++([]++([]++([]++([]++([]++[]))))))++[false=true->au ([c23]++([]++[])++[]),false=false->au [c3=true->au ([]++([c3=true]++([]++([]++([]++([]++([]++[]))))))++[c30=true->au ([c23]++([]++[])++[]),c30=false->au ([c23]++([]++[])++[])]),c3=false->au ([]++([c3=false]++([]++([]++([]++([]++([]++[]))))))++[false=true->au ([c23]++([]++[])++[]),false=false->au ([c23]++([]++[])++[])])]])]]),c3=false->au ([]++([c3=false]++([]++([]++([]++([]++([]++[]))))))++[false=true->au ([c23]++([]++[])++[]),false=false->au [c3=true->au ([]++([c3=true]++([]++([]++([]++([]++([]++[]))))))++[c14=true->au ([c23]++([]++[])++[]),c14=false->au [c3=true->au ([]++([c3=true]++([]++([]++([]++([]++([]++[]))))))++[c30=true->au ([c23]++([]++[])++[]),c30=false->au ([c23]++([]++[])++[])]),c3=false->au ([]++([c3=false]++([]++([]++([]++([]++([]++[]))))))++[false=true->au ([c23]++([]++[])++[]),false=false->au ([c23]++([]++[])++[])])]]),c3=false->au ([]++([c3=false]++([]++([]++([]++([]++([]++[]))))))++[false=true->au ([c23]++([]++[])++[]),false=false->au [c3=true->au ([]++([c3=true]++([]++([]++([]++([]++([]++[]))))))++[c30=true->au ([c23]++([]++[])++[]),c30=false->au ([c23]++([]++[])++[])]),c3=false->au ([]++([c3=false]++([]++([]++([]++([]++([]++[]))))))++[false=true->au ([c23]++([]++[])++[]),false=false->au ([c23]++([]++[])++[])])]])]]),c23] (aj [c23] (aj [c23,c23,c23,c23,c23,c23,c23,c23] (aj [c25,c42,c25,dU (fun i=>nth c10 c11 (i+0)) 2 1000,dx c18,dx c31,c29,c29] (aj [bT (fun i=>rat (↑(intOf (nth c12 c33 (i+0+0))):Rat) 64) 4 64,dU (fun i=>nth c7 c11 (i+0)) 2 300,(4:Nat)<2^30,(2:Nat)<2^30,c25,c42,bT (fun i=>rat (gJ 4 (fun i=>aC (rat (↑(intOf (nth c12 c33 (i+0+0))):Rat) 64)) i) 1000) 4 1000,dU (fun i=>aK (aS (nth c7 c11 ((2:Nat)-1-i+0))) 300) 2 1000,CU c18 (Cu.mk (1:Int) 4 (fun i=>aC (rat (gJ 4 (fun i=>aC (rat (↑(intOf (nth c12 c33 (i+0+0))):Rat) 64)) i) 1000)) 2 fun i=>aS (aK (aS (nth c7 c11 ((2:Nat)-1-i+0))) 300))] (aj [(bif c3 then bif c22 then false else c41 else bif false then false else c41)=true,c23,decide (c27=0)=true,(bif true then decide (c26=0)else false)=true,(bif true then bif true then decide (c28=c9)else false else false)=true,(bif true then eA c18 c31 else false)=true,(bif true then c52==c52 else false)=true,(bif true then c53==c53 else false)=true,(bif true then !false else false)=true] (leaf ret [AV.bool true]))))))):=ah
theorem OL:aY P Fy 23:=by
 refine cJ fun K args r hk hs _=>?_
 have fin:∀{q:Rat} {n a b:Nat} {t:ag (List AV)} {l:List UInt8},kids (.rat q n)=[.bool false,.mag a,.mag b]->bD T Ah [] 60 f23 (aF f23) ⟨aT 0 [.agg [.bool false,.mag a,.mag b]],[],0⟩=some t->(t.all fun _ us=>fz us (.str l))->aO P 23 K [.rat q n] [] (aI (.str l) []):=fun h0 h1 h2=>
  eW (bJ (r:=aI _ []) hT abl hm VY rfl aV rfl 60 h1 (fun _=>h2) K []) rfl (show dH [_] [_]from⟨by rw[<-h0];exact Fq,trivial⟩) []
 split at hs
 ·rename_i q n
  split at hs
  all_goals simp only[ax,reduceCtorEq]at hs
  all_goals subst hs
  ·obtain rfl:q=1/4:=of_decide_eq_true ‹_›
   exact fin ah aen (.refl _)
  ·obtain rfl:q=1/2:=of_decide_eq_true ‹decide (q=1/2)=true›
   exact fin ah Y5 (.refl _)
 ·simp at hs
theorem E4:aZ P Bq:=aE (cQ hT (ct sr) hm (aN func103) _ _) (aE (cQ hT (ct sr) hm (aN func104) _ _) bA)
theorem Jd:aZ P AQ:=aE (cQ hT (ct (gP E4 sr)) hm (aN func51) _ _) (aE (cQ hT (ct sr) hm (aN func52) _ _) bA)
theorem Vr:aZ P ND:=aE (cQ hT (ct (gP Jd E4)) hm (aN func53) _ _) bA
theorem XM:aZ P EE:=aE (cQ hT (ct (gP Vr Jd)) hm (aN func15) _ _) bA
theorem Re (hE:∀K args pre r,xG K args pre=some r->aO P 21 K args pre r):aZ P Na:=ct (aE Hz (aE hE (aE (acF (by decide) (by decide)) (aE OL (aE (cQ hT (ct (gP IA kM)) hm Hf _ _) (gP XM (gP Q0 (aE (cQ hT (ct kM) hm (aN func19) _ _) (gP NM kM)))))))))
theorem Ru {x y z d:Rat} {a b c e w:Nat} {q:Pl} (h1:x=q.n.x) (h2:y=q.n.y) (h3:z=q.n.z) (h4:d=q.d) (ka:a<=w) (kb:b<=w) (kc:c<=w) (ke:e<=w):bg (.agg [.agg [.rat x a,.rat y b,.rat z c],.rat d e]) (aK q w):=
 cz ⟨cz ⟨bI h1 ka,bI h2 kb,bI h3 kc,trivial⟩,bI h4 ke,trivial⟩
theorem uP {p q:Pl} (h1:p.n.x=q.n.x) (h2:p.n.y=q.n.y) (h3:p.n.z=q.n.z) (h4:p.d=q.d):p=q:=by
 obtain⟨⟨a,b,c⟩,d⟩:=p
 obtain⟨⟨x,y,z⟩,w⟩:=q
 dsimp only at h1 h2 h3 h4
 subst h1 h2 h3 h4;rfl
set_option maxHeartbeats 2000000 in
theorem Ok (hE:∀K args pre r,xG K args pre=some r->aO P 21 K args pre r) (K:Nat):aO P 6 K [] [] (aI (.bool true) []):=by
 refine bJ (r:=aI (.bool true) []) hT (Re hE) hm (aN func6) rfl aV rfl 400 acZ (fun _=>?_) K []
 simp only[ag.all,au,List.append_nil,List.nil_append]
 (repeat' with_reducible first|refine And.intro ?_ ?_)
 all_goals first|omega|(with_reducible exact .refl _)|(with_reducible decide+kernel)|skip
 all_goals first|exact jm|exact bg.refl _|(intro i hi;match i,hi with|0,_|1,_|2,_|3,_=>exact bI rfl (by decide+kernel))|(intro i hi;match i,hi with|0,_|1,_=>exact Ru rfl rfl rfl rfl (by decide+kernel) (by decide+kernel) (by decide+kernel) (by decide+kernel))|skip
 all_goals first|(refine⟨jm,jm,fun i hi=>?_,uP (by decide+kernel) (by decide+kernel) (by decide+kernel) (by decide+kernel),uP (by decide+kernel) (by decide+kernel) (by decide+kernel) (by decide+kernel),uP (by decide+kernel) (by decide+kernel) (by decide+kernel) (by decide+kernel),uP (by decide+kernel) (by decide+kernel) (by decide+kernel) (by decide+kernel)⟩;match i,hi with|0,_|1,_|2,_|3,_=>exact⟨by decide+kernel,by decide+kernel⟩)|skip
 all_goals first|(simp+contextual only[au,List.cons_append,List.nil_append,Nat.zero_lt_one,implies_true,and_true,true_and,and_self];done)|skip
 all_goals (intro h;simp only[h,au,List.cons_append,List.nil_append,Nat.zero_lt_one,implies_true,and_true,true_and,and_self,reduceCtorEq,false_implies,true_implies,eq_self])
abbrev two (p q:Rat) (n m:Nat) (i:Nat):AV:=if i=0 then .rat p n else .rat q m
def AO:Spec:=nM fun K l=>match l with
 |[.aq 3 2 f]=>match ig (f 0),ig (f 1)with
  |some (p,n),some (q,m)=>some ⟨js [.own K 3 0 2],[(K,⟨true,true,3,2,two p q (n+2) (m+2)⟩)],[n<2^40,m<2^40]⟩
  |_,_=>none
 |_=>none
def K9:aU:=[(205,cO T (zG::(206,AO)::gk) [] 400 f205),(161,cO T (sG::gk) [] 60 f161)]
def MA:aU:=zG::(206,AO)::(K9++gk)
def Lh:aU:=[(204,cO T (sG::gk) [100010] 60 f204)]
def Ck:aU:=[(193,cO T (sG::(Lh++(Cl++gk))) [200020] 200 f193),(159,cO T (sG::(187,cO T (sG::gk) [] 60 f187)::gk) [] 200 f159),(194,cO T MA [100024] 400 f194),(188,cO T (sG::gk) [] 100 f188)]
def Lq:aU:=sG::(Ck++gk)
def Ko:aU:=zG::eO
theorem agP {p q:Rat} {n m:Nat}:aM T Ko [] 200 [2] [aF f206] ⟨aT 0 [.aq 3 2 (two p q n m)],[],0⟩=
  let c6:Prop:=0<1;let c5:Nat:=2^42;let c4:Int:=(2:Int)^63;let c3:Nat:=Int.toNat (0:Int);let c2:Int:=(↑(2:Nat):Int);let c1:Int:=(0:Int)+1;let c8:Nat:=c3+0;let c7:Nat:=c1.toNat+0;some (aj [(0:Int)<=c2/\c2<=c2/\c2<=2^47/\c2*(↑(56:Nat):Int)<=2^47] (aj [(0:Int)<=0/\c3<2,c6] (aj [c6,n<c5,(1:Nat)<c5,(0:Int)<=0/\c3<c2.toNat,c8<c2.toNat] (aj [-c4<=c1/\c1<c4] (aj [(0:Int)<=c1/\c1.toNat<2,c6] (aj [c6,m<c5,(1:Nat)<c5,(0:Int)<=c1/\c1.toNat<c2.toNat,c7<c2.toNat] (aj [-c4<=c1+1/\c1+1<c4] (leaf ret ([own 12288 3 0 2],[(12288,az.mk true true 3 2 fun j=>rat (bif j==c7 then q+0 else bif j==c8 then p+0 else 0) (bif j==c7 then m+1+1 else bif j==c8 then n+1+1 else 1))]))))))))):=ah
theorem ZE:aW 206 f206:=aN func206
theorem TO:aZ P Ko:=Cz fq
theorem EL:aY P AO 206:=by
 refine qS fun K args r hk hs=>?_
 split at hs
 ·rename_i f
  split at hs
  ·rename_i p n q m h0 h1
   simp only[ax]at hs
   subst hs
   refine Bt hT ZE (args0:=[.aq 3 2 (two p q n m)]) (fun _=>ru hk rfl ⟨dI fun i hi=>?_,trivial⟩) aV fun need c hkp=>?_
   ·match i,hi with
    |0,_=>exact iS h0
    |1,_=>exact iS h1
   ·obtain⟨b1,b2⟩:n<2^40/\m<2^40:=need
    refine ay.bE hT TO hm 200 [2] agP ah ?_
    simp only[ag.all,au]
    (repeat' with_reducible refine And.intro ?_ ?_)
    all_goals first|omega|decide|skip
    intro s' hs'
    refine⟨.inr trivial,[2],_,[.own 12288 3 0 2],_,12288,_,hs',ah,⟨⟨rfl,dw (by simp[bB,look]) rfl rfl⟩,trivial⟩,rfl,iX rfl fun i hi=>?_⟩
    match i,hi with
    |0,_|1,_=>exact kA rfl (bI (Rat.add_zero _) (by simp))
  ·simp at hs
 ·simp at hs
theorem agv {f:Nat->Pl}:bD T Lq [200046] 400 f158 (aF f158) ⟨aT 0 [bh (aG bk f) 64 64,.rat 0 1,.rat 1 1],[],0⟩=
  let c59:Int:=(2:Int)^47;let c55:Nat:=64+1+1;let c49:Int:=(↑(2:Nat):Int);let c46:Nat:=Max.max 1 (bO (Int.natAbs (1:Int)));let c40:Nat:=2^40;let c30:Prop:=1*3<=2^24;let c29:AV:=rat 0 1;let c28:Nat:=64+64+2;let c25:Nat:=56+1;let c23:Nat:=2^47;let c22:Int:=(0:Int)+1;let cH:Nat:=1+1;let c17:Int:=(2:Int)^63;let c12:Prop:=0<1;let c8:Rat:=bk (i64.wrap ((↑(4:Nat):Int)-1)).toNat;let c6:Nat:=Int.toNat (0:Int);let c4:Nat:=1+Max.max 64 64+1+(Max.max 64 64+Max.max 64 64+1);let c60:Rat:=bX (bk c6) c8;let c58:Prop:=c22.toNat+0<2;let c51:Prop:=(0:Int)<=c22/\c22.toNat<2;let c50:Prop:=(c6+1)*c25*2<=c23;let c48:Rat:=bW (bk c6) c8;let c45:Prop:=-c17<=c22/\c22<c17;let c44:Prop:=cH*c25*2<=c23;let c43:Nat:=cH+1;let c42:Prop:=(c6+1+1)*c25*2<=c23;let c38:Prop:=c12/\1*c25*2<=c23;let c37:Prop:=(0:Int)<=0/\(0:Int)<=(↑cH:Int)/\(↑cH:Int)<=c59/\(↑cH:Int)*(↑(56:Nat):Int)<=c59;let c24:Nat:=c55+2;let c21:Prop:=(0:Int)<=0/\c6<2;let c19:Int:=c49-1;let c18:Nat:=c6+0;let c16:Nat:=c46+c4+1;let c10:Pl:=f (i64.wrap c22).toNat;let c56:Nat:=c16+c24+(c4+c24)+1;let c54:Nat:=c16+c28+(c4+c28)+1;let c52:Nat:=c4+c4+1+c16;let c47:Prop:=-c17<=c19-1/\c19-1<c17;let c41:Prop:=c18<2;let c39:Prop:=-c17<=c19-1-(1:Int)/\c19-1-(1:Int)<c17;let c35:Rat:=c60-c48;let c34:Bool:=1+0==c18;let c27:Bool:=0+0==c18;let c57:Bool:=!(if c35=0 then(3:Int)else(0:Int))==0;let c11:Nat:=bif c27 then c54 else c28;let c9:List Prop:=[(0:Int)<=0/\(0:Int)<=c49/\c49<=c59/\c49*(↑(56:Nat):Int)<=c59,-c17<=c19/\c19<c17,c21,c41,c30,c50,c12,c21,c41,c12,c45,c51,c58,c21,c41,c45,c47,c21,c41,c30,c42,c39];let c7:Nat:=bif c27 then c56 else c24;let c1:Rat:=((0:Rat)-c48)/c35;let c36:Nat:=c11+2+1+1+(c7+2+1+1);let c26:Rat:=(↑(1:Int):Rat)-c1;let c13:Nat:=(bif c18==c18 then c46+c52+1+(c7+2)+(c52+((bif c34 then c56 else c24)+2))+1 else c7+2)+1+1;let c33:Rat:=bif c27 then c26*((f c6).d*(f c6).n.y)+c1*(c10.d*c10.n.y)else(f c6).d*(f c6).n.y;let c32:Rat:=bif c27 then c26*((f c6).d*(f c6).n.x)+c1*(c10.d*c10.n.x)else(f c6).d*(f c6).n.x;let c31:Rat:=bif c27 then c26*((f c6).d*(f c6).n.z)+c1*(c10.d*c10.n.z)else(f c6).d*(f c6).n.z;let c15:Rat:=(((1:Rat)-c48)/c35-c1)/c26;let c14:Rat:=bif c27 then c26*((f c6).d+0)+c1*(c10.d+0)else(f c6).d+0;let c3:List Prop:=c12::c12::c12::c12::c12::((eE c26 !=(0:Int))=true)::c12::c12::c12::((64:Nat)+64<c40)::((64:Nat)+64<c40)::c37::(-c17<=c19/\c19<c17)::c21::c41::c30::c50::c12::c21::c41::c12::c45::c51::c58::c21::c41::c45::c47::c21::c41::c30::c42::c39::c12::c12::c12::c12::c12::c12::(c11<c40)::((bif c34 then c54 else c28)<c40)::c9;let c2:Nat:=(bif c18==c18 then c46+c52+1+(c11+2)+(c52+((bif c34 then c54 else c28)+2))+1 else c11+2)+1+1+c13;let c53:Rat:=(↑(1:Int):Rat)-c15;let c5:Rat:=(bif c18==c18 then c53*c14+c15*bif c34 then c26*((f c6).d+0)+c1*(c10.d+0)else c10.d+0 else c14)+0;some (aj [c12,c12,decide (cZ c48 0<=(0:Int))=true,(bif c49==0 then true else !bif true then decide (cZ 0 c60<=0)else false)=false,c12,c12,c12] (aj [c12,c12,decide (cZ c48 1<=(0:Int))=true,(bif c49==0 then true else !bif true then decide (cZ 1 c60<=0)else false)=false,c12,c12,c12] (aj [(bif bif c57 then true else c57 then true else decide (cZ 0 1>=(0:Int)))=false] (aj [c12,c38,c38,c38,c38,c12,c44,c44,c44,c44,c12] (aj c3 (aj c3 (aj c3 (aj (c12::c12::c12::c12::c12::((eE c26 !=(0:Int))=true)::c12::c12::c12::(c55<c40)::(c55<c40)::c37::(-c17<=c19/\c19<c17)::c21::c41::c30::c50::c12::c21::c41::c12::c45::c51::c58::c21::c41::c45::c47::c21::c41::c30::c42::c39::c12::c12::c12::c12::c12::c12::(c7<c40)::((bif c34 then c56 else c24)<c40)::c9) (aj [c38] (aj [c44] (aj [c43*c25*2<=c23] (aj [(c43+1)*c25*2<=c23] (aj [c12,c12/\1*((224:Nat)+1)*2<=c23] (aj [c12,cH*((224:Nat)+1)*2<=c23] (aj [c12] (leaf ret [agg [int i64 1,aq 3 4 fun i=>if i+0<c43 then if i+0<cH then if i+0<1 then nth [rat ((0:Rat)+0) c43] c29 (i+0+0)else nth [rat ((0:Rat)+0) c43] c29 (i+0-1+0)else nth [rat ((1:Rat)+0) c43] c29 (i+0-cH+0)else nth [rat ((1:Rat)+0) c43] c29 (i+0-c43+0),aq 12 2 fun i=>if i+0<1 then nth [agg [agg [rat ((c32+0)/(c14+0)) c36,rat ((c33+0)/(c14+0)) c36,rat ((c31+0)/(c14+0)) c36],rat (c14+0+0) (c7+2+1+1+1+1)]] (agg [agg [c29,c29,c29],c29]) (i+0+0)else nth [agg [agg [rat (((bif c18==c18 then c53*c32+c15*bif c34 then c26*((f c6).d*(f c6).n.x)+c1*(c10.d*c10.n.x)else c10.d*c10.n.x else c32)+0)/c5) c2,rat (((bif c18==c18 then c53*c33+c15*bif c34 then c26*((f c6).d*(f c6).n.y)+c1*(c10.d*c10.n.y)else c10.d*c10.n.y else c33)+0)/c5) c2,rat (((bif c18==c18 then c53*c31+c15*bif c34 then c26*((f c6).d*(f c6).n.z)+c1*(c10.d*c10.n.z)else c10.d*c10.n.z else c31)+0)/c5) c2],rat (c5+0) (c13+1+1)]] (agg [agg [c29,c29,c29],c29]) (i+0-1+0)],int i64 0])))))))))))))))):=ah
theorem Xl:aW 187 f187:=aN func187
theorem aee:aW 188 f188:=aN func188
theorem Pm:aW 155 f155:=aN func155
theorem Zx:aW 154 f154:=aN func154
def cY (p:Pl):Pl:=⟨⟨p.d*p.n.x,p.d*p.n.y,p.d*p.n.z⟩,p.d⟩
def hU (h:Pl):Pl:=⟨⟨h.n.x/h.d,h.n.y/h.d,h.n.z/h.d⟩,h.d⟩
abbrev qR (f:Nat->Pl) (n s:Nat):AV:=.aq 12 n (fun i=>cu (f i) s)
abbrev fB (c:Cu) (s r:Nat):AV:=.agg [.int .i64 c.p,bp c.k c.n s,qR c.f c.m r]
def HG:aU:=nG::eO
def zo:aU:=nG::(187,cO T HG [] 80 f187)::eO
abbrev uC:List Nat:=[2,3,12,13,14]
abbrev DX (c:Cu) (r i:Nat):List AV:=[.ptr 0 0 3 0 [],.ptr 1 0 3 0 [],oR c.f c.m r,.int .i64 c.m,.int .i64 i]
abbrev Cr (c:Cu) (x w i:Nat):aD:=[(2,⟨true,true,12,i,fun j=>cu (cY (c.f j)) w⟩),(1,⟨false,true,3,1,fun _=>.agg [.int .i64 c.p,bp c.k c.n x,.own 2 12 0 i]⟩),(0,⟨false,true,3,1,fun _=>.agg [.int .i64 0,.nil,.nil]⟩)]
abbrev vZ:Code:=aF f155
def Gy:aU:=nG::(37,fS kR kR sZ oe)::eO
abbrev yB (c:Cu) (r:Nat):az:=⟨false,true,3,1,fun _=>fB c sK r⟩
def qD:AV->Pl
 |.agg [x,y,z,w]=>⟨⟨aC x,aC y,aC z⟩,aC w⟩
 |_=>⟨⟨0,0,0⟩,0⟩
def qw (f:Nat->AV) (n s:Nat):Prop:=∀i,i<n->bg (f i) (cu (qD (f i)) s)
theorem abq {v:AV} {n s:Nat} {f:Nat->AV} (h:sS v=some (n,f)) (ha:qw f n s):bg v (qR (fun i=>qD (f i)) n s):=by
 unfold sS at h
 split at h
 ·simp only[ax,Prod.mk.injEq]at h
  obtain⟨rfl,rfl⟩:=h
  exact dI ha
 ·simp only[ax,Prod.mk.injEq]at h
  obtain⟨rfl,rfl⟩:=h
  exact lO aa
 ·simp at h
theorem TD {h:Pl} {s:Nat}:bD T Gy [] 80 f188 (aF f188) ⟨aT 0 [cu h s],[],0⟩=
  let c8:Int:=(↑(3:Nat):Int);let c7:Int:=(↑(4:Nat):Int);let c5:Int:=(2:Int)^63;let c4:Prop:=s<2^42;let c2:Prop:=0<1;let c1:Int:=(0:Int)+1;let c6:Int:=c1+1;let c3:Prop:=(0:Int)<=3/\(3:Int)<c7;some (aj [c3,c2,c4,(1:Nat)<2^42,c2] (aj [(0:Int)<=0/\(0:Int)<c7,c2,c3,c2,c4,c4,(0:Int)<=0/\(0:Int)<c8,c2] (aj [-c5<=c1/\c1<c5] (aj [(0:Int)<=c1/\c1<c7,c2,c3,c2,c4,c4,(0:Int)<=c1/\c1<c8,c2] (aj [-c5<=c6/\c6<c5] (aj [(0:Int)<=c6/\c6<c7,c2,c3,c2,c4,c4,(0:Int)<=c6/\c6<c8,c2] (aj [-c5<=c6+1/\c6+1<c5] (aj [c2,c2] (aj [c2] (leaf ret [agg [agg [rat (h.n.x/h.d) (s+s),rat (h.n.y/h.d) (s+s),rat (h.n.z/h.d) (s+s)],rat (h.d+0) (s+1+1)]])))))))))):=ah
theorem VF {c:Cu} {x r:Nat}:aM T zo [] 60 uC (before vZ [1,1,0,1]) ⟨aT 0 [bh c x r],[],0⟩=
  let c2:Prop:=0<1;let c1:AV:=agg [int i64 0,nil,nil];some (aj [c2,c2,c2] (aj [c2] (leaf normal ([ptr 4096 0 3 0 [],ptr 28672 0 3 0 [],aq 12 c.m fun i=>aK (c.f i) r,int i64 (↑c.m:Int),int i64 0],[((28672:Nat),bN fun j=>if(j==0)=true then bK (agg ((c1.kids.set 0 (bK (int i64 c.p))).set 1 (bK (bp c.k c.n x))))else c1),((4096:Nat),bN fun x=>c1)])))):=ah
theorem OY {c:Cu} {x r w i:Nat}:aM T zo [15] 60 uC [part vZ [1,1,0,1,0,0]] ⟨aH uC (DX c r i),Cr c x w i,3⟩=
  let c17:Int:=(↑c.m:Int);let c16:Int:=(↑(3:Nat):Int);let c15:AV:=own 2 12 0 i;let c14:AV:=ptr 1 0 3 0 [];let c13:AV:=ptr 0 0 3 0 [];let c12:Int:=(↑(4:Nat):Int);let c11:Int:=(↑i:Int);let c10:AV:=rat 0 1;let c7:Nat×az:=((0:Nat),bN fun x=>agg [int i64 0,nil,nil]);let c5:AV:=aq 12 c.m fun i=>aK (c.f i) r;let c4:Int:=(2:Int)^63;let c3:Prop:=r<2^42;let c2:Int:=(0:Int)+1;let c1:Prop:=0<1;let c18:Int:=c11+1;let c9:AV:=agg [int i64 c.p,bp c.k c.n x,c15];let c8:Int:=c2+1;let c6:Pl:=c.f c11.toNat;some (fork (decide (c11<c17)) (aj [(0:Int)<=c11/\c11.toNat<c.m,c1] (aj [c1,c1,c1,(0:Int)<=0/\(0:Int)<c16,c1,c1,c1,c3,c3,(0:Int)<=0/\(0:Int)<c12,c1,-c4<=c2/\c2<c4,(0:Int)<=c2/\c2<c16,c1,c1,c1,c3,c3,(0:Int)<=c2/\c2<c12,c1,-c4<=c8/\c8<c4,(0:Int)<=c8/\c8<c16,c1,c1,c1,c3,c3,(0:Int)<=c8/\c8<c12,c1,-c4<=c8+1/\c8+1<c4,c1,c3,(1:Nat)<2^42,(0:Int)<=3/\(3:Int)<c12,c1,c1,c1,c1,(1:Nat)*12<=2^24,(i+1)*((224:Nat)+1)*2<=2^47,c1] (aj [-c4<=c18/\c18<c4] (leaf normal ([c13,c14,c5,int i64 c17,int i64 c18],[(40963,az.mk true true 12 (i+1) fun i_1=>if i_1<i then cu (cY (c.f i_1)) w else nth [agg [rat (c6.d*c6.n.x) (r+r),rat (c6.d*c6.n.y) (r+r),rat (c6.d*c6.n.z) (r+r),rat (c6.d+0) (r+1+1)]] (agg [c10,c10,c10,c10]) (i_1-i+0)),((1:Nat),bN fun j=>if(j==0)=true then agg (c9.kids.set 2 (bK (own (nat_lit 40962+1) 12 0 (i+1))))else c9),c7]))))) (leaf (exit 0) ([c13,c14,c5,int i64 c17,int i64 c11],[(2,az.mk true true 12 i fun j=>cu (cY (c.f j)) w),((1:Nat),bN fun x_1=>agg [int i64 c.p,aq 3 c.n fun i=>rat (c.k i) x,c15]),c7]))):=ah
theorem Yo {c:Cu} {x r w i:Nat}:cR T zo [] 60 f155 [part vZ [1,1,1]] ⟨aH uC (DX c r i),Cr c x w i,3⟩=
  let c1:Prop:=0<1;some (aj [c1,c1] (aj [c1] (leaf ret [agg [int i64 c.p,aq 3 c.n fun i=>rat (c.k i) x,aq 12 i fun i=>cu (cY (c.f (i+0))) w]]))):=ah
theorem Rd:aZ P HG:=eV fq
theorem agi:aZ P zo:=eV (aE (cQ hT Rd hm Xl _ _) fq)
theorem aaI:aZ P Gy:=eV (aE (fY fun _ _ K hn=>u7 hn.1 hn.2 K) fq)
theorem yM {rl:List (Nat×Nat)} {l i:Nat} {f g:Nat->AV} {v z:AV} (hf:∀i,i<l->f i=g i/\keys (f i)=[]) (hk:keys v=[]) (hv:bg v (g l)) (hi:i<l+1):iF rl (if i<l then f i else nth [v] z (i-l+0)) (g i):=by
 by_cases h:i<l
 ·rw[if_pos h];exact eH (hf i h).2 (hf i h).1
 ·have:i=l:=aa
  subst this
  rw[if_neg h,Nat.sub_self]
  exact .inr ⟨hk,hv⟩
theorem tu {rl:List (Nat×Nat)} {p:Int} {v:AV} {a b i:Nat} (hv:keys v=[]) (ht:v.isTuple=false) (h:bB rl b=some a):iF rl (.agg [.int .i64 p,v,.own a 12 0 i]) (.agg [.int .i64 p,v,.own b 12 0 i]):=
 me ⟨aQ,⟨ht,gu hv⟩,⟨rfl,dw h rfl rfl⟩,trivial⟩
theorem Ml {h h':Pl} {s s':Nat} (e:h=h') (hs:s<=s'):bg (cu h s) (cu h' s'):=e▸cz ⟨bI rfl hs,bI rfl hs,bI rfl hs,bI rfl hs,trivial⟩
theorem Oj {h:Pl} {s w:Nat} (hs:s<2^40) (h1:s+s<=w) (h2:s+2<=w) (K:Nat):aO P 188 K [cu h s] [] (aI (aK (hU h) w) []):=by
 refine bJ (r:=aI (aK (hU h) w) []) hT aaI hm aee rfl aV rfl 80 TD (fun _=>?_) K []
 simp only[ag.all,au]
 (repeat' with_reducible refine And.intro ?_ ?_)
 all_goals first|omega|skip
 exact cz ⟨cz ⟨bI rfl h1,bI rfl h1,bI rfl h1,trivial⟩,bI (Rat.add_zero _) aa,trivial⟩
theorem acr {c:Cu} {x r w:Nat} (h1:r+r<=w) (h2:r+2<=w) (hw:w<2^40) (hn:c.n<2^40) (hm2:c.m<2^30) (K:Nat):aO P 155 K [bh c x r] [] (aI (.agg [.int .i64 c.p,bp c.k c.n x,qR (fun i=>cY (c.f i)) c.m w]) []):=by
 refine iJ (r:=aI (.agg [.int .i64 c.p,bp c.k c.n x,qR (fun i=>cY (c.f i)) c.m w]) []) hT agi hm Pm rfl aV rfl [1,1,0,1] (i:=0) (y:=part vZ [1,1,0,1,0,0]) (z:=part vZ [1,1,1]) ah ah ah (f1:=[]) (f2:=[15]) (f3:=[]) 60 uC 3
  (fun i:Nat=>DX c r i) (fun i=>Cr c x w i) (fun i=>i<=c.m) (fun i=>i=c.m) (fun i=>c.m-i) (fun _=>⟨⟨_,VF,?_⟩,fun i hi=>⟨_,OY,?_⟩,fun i hi=>⟨_,Yo,?_⟩⟩) K []
 ·simp only[ag.all,au]
  exact⟨aa,aa,0,Nat.zero_le _,[(0,4096),(1,28672)],rfl,rfl,rfl,lD rfl aa aa (ff rfl rfl (me ⟨aQ,aQ,⟨rfl,pE aa⟩,trivial⟩) (bf trivial))⟩
 ·set_option maxRecDepth 10000 in simp only[ag.all,au,bz,bF,bw,Nat.add_zero]
  refine⟨fun h=>⟨aa,aa,aa,i+1,aa,by dsimp only;omega,[(0,0),(1,1),(2,40963)],rfl,rfl,rfl,cI rfl rfl rfl (fun j hj=>yM (g:=fun j=>cu (cY (c.f j)) w) (fun _ _=>⟨rfl,rfl⟩) rfl (cz ⟨bI rfl h1,bI rfl h1,bI rfl h1,bI (Rat.add_zero _) aa,trivial⟩) hj) (ff rfl rfl (tu rfl rfl rfl) (bf trivial))⟩,
   fun h=>⟨rfl,i,aa,[(0,0),(1,1),(2,2)],rfl,rfl,rfl,mm (ff rfl rfl (tu rfl rfl rfl) (bf trivial))⟩⟩
 ·subst hi
  simp only[ag.all,au]
  exact⟨aa,aa,.refl _⟩
def zF (s r:Nat):Kind Cu:=⟨fun v=>match v with
 |.agg [p,k,f]=>match kI.read p,(kL s).read k,sS f with
  |some (p,q1),some ((n,k),q2),some (m,f)=>some (⟨p,n,k,m,fun i=>qD (f i)⟩,q1++(q2++[qw f m r]))
  |_,_,_=>none
 |_=>none,fun a=>fB a s r,fun {v a q} h hq=>by
  split at h
  ·split at h
   ·rename_i h1 h2 h3
    simp only[ax,Prod.mk.injEq]at h
    obtain⟨rfl,rfl⟩:=h
    obtain⟨q1,hq⟩:=dP.1 hq
    obtain⟨q2,q3⟩:=dP.1 hq
    exact cz ⟨kI.ok h1 q1,(kL s).ok h2 q2,abq h3 q3,trivial⟩
   ·simp at h
  ·simp at h⟩
def qd (c:Cu):Prop:=Kn c.n c.p.toNat c.k/\1<=c.p/\c.p<=6/\c.n<=c.p.toNat+41/\(c.m:Int)=(c.n:Int)-c.p-1
def Fv:aU:=nG::(185,LB)::(186,zR)::[]
def Lw:Spec:=cP (kC (gE sJ sJ) kN) (fun _=>.bool true) fun a=>[qd a.1]
theorem Q2 {c:Cu}:bD T Fv [100009] 60 f154 (aF f154) ⟨aT 0 [bh c sJ sJ],[],0⟩=
  let c2:Prop:=c.n<2^40;let c1:Prop:=0<1;some (aj [c1,c1,bT (fun i=>rat (c.k i) sJ) c.n sJ,c2,(iH c.n (fun i=>aC (rat (c.k i) sJ)) c.p==0)=true,c1,c1,c1,bT (fun i=>rat (c.k i) sJ) c.n sK,c2,-(2:Int)^40<c.p,c.p<2^40] (leaf ret [AV.bool (bif true then(↑c.m:Int)==(↑c.n:Int)-c.p-1 else false)])):=ah
theorem X1:aZ P Fv:=eV (aE NU (aE Ay bA))
theorem OB:aY P Lw 154:=cC fun⟨c,_⟩ K hn=>by
 obtain⟨h1,h2,h3,h4,h5⟩:qd c:=hn
 refine bJ (r:=aI (.bool true) []) hT X1 hm Zx rfl aV rfl 60 Q2 (fun _=>?_) K []
 have hc0:iH c.n c.k c.p=0:=by have:=h1.Wr aa h4;rwa [Int.toNat_of_nonneg aa]at this
 simp only[ag.all,au]
 exact⟨⟨aa,aa,dh bq,aa,beq_iff_eq.2 hc0,aa,aa,aa,dh (by decide),aa,aa,aa⟩,gQ (beq_iff_eq.2 h5)⟩
theorem div_one {a b:Rat}:a/b=((1:Int):Rat)/b*a:=by
 rw[Rat.div_def,Rat.div_def,show((1:Int):Rat)=1 from rfl,Rat.one_mul,Rat.mul_comm]
abbrev kz (m:Nat) (c:Nat->Rat):az:=⟨true,true,3,m,fun i=>.rat (c i) sK⟩
abbrev nN:List Nat:=[10,11,2,4,0,1,3,12,66,67,68]
abbrev tG (n:Nat) (k:Nat->Rat) (p m:Nat) (a:Nat->Rat) (i:Nat) (r:Nat):List AV:=[.ptr 1 0 3 0 [],.int .i64 0,.own 0 3 0 m,ls a p,ls k n,.int .i64 p,.int .i64 i,.own 2 3 0 (p+1),ls a p,.int .i64 p,.int .i64 r]
abbrev mS (p m:Nat) (c:Nat->Rat) (x:Nat->Rat) (s:Nat->Nat):aD:=[(2,Zm (p+1) x s),(1,zO),(0,kz m c)]
abbrev uD:List Nat:=[10,11,2,4,0,1,3,12,66,67,68,13,14,15]
abbrev DP (n:Nat) (k:Nat->Rat) (p m:Nat) (a:Nat->Rat) (i:Nat) (r j:Nat):List AV:=[.ptr 1 0 3 0 [],.int .i64 0,.own 0 3 0 m,ls a p,ls k n,.int .i64 p,.int .i64 i,.own 2 3 0 (p+1),ls a p,.int .i64 p,.int .i64 r,.int .i64 r,.ptr 3 0 3 0 [],.int .i64 j]
theorem ahc {n m p l:Nat} {k c a:Nat->Rat} {i:Int}:aM T p6 [18,25,36,42,32] 60 nN (before xj [1,1,1,1,0,1]) ⟨aT 0 [ls k n,.int .i64 p,.own 0 3 0 m,.int .i64 i,ls a l],[(0,kz m c)],1⟩=
  let c28:Prop:=n<2^40;let c27:Prop:=sK<2^42;let c26:Prop:=bT (fun i=>rat (k i) sK) n sK;let c25:AV:=own 0 3 0 m;let c24:Int:=i+1;let c23:AV:=aq 3 n fun i=>rat (k i) 4096;let cH:Int:=(2:Int)^40;let c19:AV:=rat 0 1;let c17:Nat×az:=(0,az.mk true true 3 m fun i=>rat (c i) 4096);let c15:AV:=ptr 1 0 3 0 [];let c14:AV:=aq 3 l fun i=>rat (a i) 4096;let c13:Int:=(2:Int)^63;let c12:Int:=(↑m:Int);let c5:Int:=(↑p:Int);let c21:Bool:=decide (i<c5);let c18:Bool:=c12 !=(↑n:Int)-c5-1;let c16:Bool:=bif false then true else decide (i>=c12);let c11:Int:=c5+1;let c10:Int:=cZ (k i.toNat) (k c24.toNat);let c8:List AV:=[c25,c14,c23,int i64 c5,int i64 i,tuple [],tuple [],tuple [],tuple []];let c7:List Prop:=[(0:Int)<=i/\i.toNat<n,-c13<=c24/\c24<c13,(0:Int)<=c24/\c24.toNat<n,c27,c27];let c6:List (Nat×az):=[c17,((1:Nat),bN fun j=>if(j==0)=true then bK (agg c19.kids)else c19)];let c22:Bool:=bif false then true else decide (c10>=0);let c9:Nat:=0+Min.min (c12.toNat-(i-c5).toNat) c11.toNat;let c4:ag (List AV×aD):=aj [(0:Nat)<1] (leaf ret (c15::int i64 1::c8,c6));let c2:ag (List AV×aD):=aj [(0:Nat)<1] (leaf ret (c15::int i64 7::c8,c6));let c1:ag (List AV×aD):=aj [-c13<=c11/\c11<c13,(0:Int)<=c11/\c11<=c11/\c11<=2^47/\c11*(↑(56:Nat):Int)<=2^47] (aj [-c13<=i-c5/\i-c5<c13,(0:Int)<=i-c5/\i-c5<=c12/\c12<=c12/\c12<=c12] (leaf normal ([c15,int i64 0,c25,c14,c23,int i64 c5,int i64 i,own 163841 3 0 c11.toNat,c14,int i64 (↑l:Int),int i64 0],[(163841,az.mk true true 3 c11.toNat fun i_1=>if 0<=i_1/\i_1<c9 then rat (c (i_1-0+((0:Nat)+(i-c5).toNat))) sK else c19),c17,((1:Nat),bN fun x=>c19)])));let c3:ag (List AV×aD):=fork c21 (fork true (aj [c21=true,true=true] (fork true c2 c1)) (aj ((c21=true)::(true=false)::c7) (fork c22 c2 c1))) (fork c16 (aj [c21=false,c16=true] (fork true c2 c1)) (aj ((c21=false)::(c16=false)::c7) (fork c22 c2 c1)));some (fork c18 (aj [c26,c28,-cH<c5,c5<cH,c18=true] (fork true c4 c3)) (aj [c26,c28,-cH<c5,c5<cH,c18=false] (fork (bif false then true else(↑l:Int)!=c5) c4 c3))):=ah
theorem abh {e:Int} {m:Nat} {c:Nat->Rat}:xd T f211 .ret ⟨aH [10,11,2] [.ptr 1 0 3 0 [],.int .i64 e,.own 0 3 0 m],[(0,kz m c),(1,⟨false,true,3,1,fun j=>if(j==0)=true then bK (agg (kids (.rat 0 1)))else .rat 0 1⟩)],2⟩=
  some (aj [(0:Nat)<1] (leaf ret ([agg [AV.bool false,mag 0,mag 0],int i64 e],some (az.mk true true 3 m fun i=>rat (c i) 4096)))):=ah
theorem Y7 {n p m i r:Nat} {k a c x:Nat->Rat} {s:Nat->Nat}:aM T p6 [69] 60 nN (before pZ [1,1,0]) ⟨aH nN (tG n k p m a i r),mS p m c x s,3⟩=
  let c3:Int:=(↑p:Int);let c2:AV:=aq 3 p fun i=>rat (a i) 4096;let c1:List AV×aD:=([ptr 1 0 3 0 [],int i64 0,own 0 3 0 m,c2,aq 3 n fun i=>rat (k i) 4096,int i64 c3,int i64 (↑i:Int),own 2 3 0 (p+1),c2,int i64 c3,int i64 (↑r:Int)],[(2,az.mk true true 3 (p+1) fun i=>rat (x i) (s i)),(0,az.mk true true 3 m fun i=>rat (c i) 4096),((1:Nat),bN fun x=>rat 0 1)]);some (fork (decide ((↑r:Int)<c3)) (leaf normal c1) (leaf (exit 1) c1)):=ah
theorem XV {n p m i r:Nat} {k a c x:Nat->Rat} {s:Nat->Nat}:aM T p6 [] 60 uD (before tY [1,1]) ⟨aH nN (tG n k p m a i r),mS p m c x s,3⟩=
  let c4:AV:=rat 0 1;let c3:Int:=(↑r:Int);let c2:AV:=int i64 (↑p:Int);let c1:AV:=aq 3 p fun i=>rat (a i) 4096;some (aj [(0:Int)<=c3/\c3.toNat<p,(0:Nat)<1] (leaf normal ([ptr 1 0 3 0 [],int i64 0,own 0 3 0 m,c1,aq 3 n fun i=>rat (k i) 4096,c2,int i64 (↑i:Int),own 2 3 0 (p+1),c1,c2,int i64 c3,int i64 c3,ptr 12291 0 3 0 [],c2],[((12291:Nat),bN fun j=>if(j==0)=true then bK (rat (a c3.toNat) sK)else c4),(2,az.mk true true 3 (p+1) fun i=>rat (x i) (s i)),(0,az.mk true true 3 m fun i=>rat (c i) 4096),((1:Nat),bN fun x=>c4)]))):=ah
theorem Sl {n p m i r j:Nat} {k a c x:Nat->Rat} {s:Nat->Nat} {t:Rat}:aM T p6 [76] 60 uD [part tY [1,1,0,0]] ⟨aH uD (DP n k p m a i r j),(3,tP t sK)::mS p m c x s,4⟩=
  let c27:Int:=(↑r:Int);let c23:Int:=(↑i:Int);let c21:AV:=own 0 3 0 m;let c19:Prop:=0<1;let c17:AV:=ptr 3 0 3 0 [];let c16:AV:=ptr 1 0 3 0 [];let c15:AV:=aq 3 n fun i=>rat (k i) 4096;let c13:Int:=(↑p:Int);let c12:Int:=(↑j:Int);let c11:Nat×az:=((3:Nat),bN fun x=>rat t 4096);let c10:Nat:=2^42;let c8:Nat:=p+1;let c7:AV:=aq 3 p fun i=>rat (a i) 4096;let c6:List (Nat×az):=[(0,az.mk true true 3 m fun i=>rat (c i) 4096),((1:Nat),bN fun x=>rat 0 1)];let c3:Int:=(2:Int)^63;let c26:AV:=int i64 c13;let c24:Prop:=(0:Int)<=c12/\c12.toNat<c8;let cH:AV:=own 2 3 0 c8;let c14:AV:=int i64 c27;let c4:Nat:=c12.toNat+0;let c2:Int:=c23-c13+c12;let c1:Int:=c12-1;let c25:Prop:=(0:Int)<=c1/\c1.toNat<c8;let c22:Prop:=-c3<=c1/\c1<c3;let c9:Int:=c2+c13-c27;let c5:Nat:=c1.toNat+0;let c18:Nat:=s c4+s c5+1;some (fork (decide (c12>c27)) (aj [-c3<=c23-c13/\c23-c13<c3,-c3<=c2/\c2<c3] (aj [(0:Int)<=c2/\c2.toNat<n,-c3<=c2+c13/\c2+c13<c3,-c3<=c9/\c9<c3,(0:Int)<=c9/\c9.toNat<n,c19,sK<=sK,sK<=sK,sK<=sK,c19] (aj [c22,c25,c5<c8,c19,c24,c4<c8,c22,c25,c5<c8,s c4<c10,s c5<c10,sF<c10,c18<c10,s c5<c10,sF+c18<c10,c24,c4<c8] (aj [c22] (leaf normal ([c16,int i64 0,c21,c7,c15,c26,int i64 c23,cH,c7,c26,c14,c14,c17,int i64 c1],c11::(2,az.mk true true 3 c8 fun j=>rat (bif j==c4 then x c5+fr (k c2.toNat) (k c9.toNat) t*(x c4-x c5)else x j) (bif j==c4 then s c5+(sF+c18)+1 else s j))::c6)))))) (leaf (exit 3) ([c16,int i64 0,c21,c7,c15,c26,int i64 c23,cH,c7,c26,c14,c14,c17,int i64 c12],c11::(2,az.mk true true 3 c8 fun i=>rat (x i) (s i))::c6))):=ah
theorem aeG {n p m i r j:Nat} {k a c x:Nat->Rat} {s:Nat->Nat} {t:Rat}:aM T p6 [] 60 nN [part pZ [1,1,1]] ⟨aH uD (DP n k p m a i r j),(3,tP t sK)::mS p m c x s,4⟩=
  let c2:Int:=(↑r:Int)+1;let c1:AV:=aq 3 p fun i=>rat (a i) 4096;some (aj [-(2:Int)^63<=c2/\c2<2^63] (leaf normal ([ptr 1 0 3 0 [],int i64 0,own 0 3 0 m,c1,aq 3 n fun i=>rat (k i) 4096,int i64 (↑p:Int),int i64 (↑i:Int),own 2 3 0 (p+1),c1,int i64 (↑p:Int),int i64 c2],[(2,az.mk true true 3 (p+1) fun i=>rat (x i) (s i)),(0,az.mk true true 3 m fun i=>rat (c i) 4096),((1:Nat),bN fun x=>rat 0 1)]))):=ah
theorem aaD {n p m i r:Nat} {k a c x:Nat->Rat} {s:Nat->Nat}:DD T p6 [] 60 f211 [part xj [1,1,1,1,1]] ⟨aH nN (tG n k p m a i r),mS p m c x s,3⟩=
  let c1:Nat:=(↑p:Int).toNat+0;some (aj [(0:Int)<=(↑p:Int)/\(↑p:Int).toNat<p+1,c1<p+1,s c1<2^42,(1:Nat)<2^42,(0:Nat)<1] (aj [(0:Nat)<1] (leaf ret ([rat (x c1+0) (s c1+1+1),int i64 0],some (az.mk true true 3 m fun i=>rat (c i) 4096))))):=ah
theorem adz {n p m l:Nat} {k c a:Nat->Rat} {i:Int} (hp1:1<=p) (hp6:p<=6) (hn:n<2^40) (hm2:m<2^40) (hi:-2^40<i) (hi2:i<2^40) (cx:Ctx) (hk:Kept [0] cx):
  ay P cx f211.ntmps (aF f211) ⟨aT 0 [ls k n,.int .i64 p,.own 0 3 0 m,.int .i64 i,ls a l],[(0,kz m c)],1⟩ (eG cx (wh T f211 [.rat (mU n k p m c i l a) sB,.int .i64 (iP n k p m l i)] (kz m c))):=by
 obtain⟨b,hb⟩:∃b,b=i.toNat-p:=⟨_,rfl⟩
 obtain⟨x,hx⟩:∃x:Nat->Nat->Rat,x=fun r=>bR k b p a (fun j=>c (b+j)) r:=⟨_,rfl⟩
 have hx0:x 0=fun j=>c (b+j):=by rw[hx];rfl
 have hxS:∀r,x (r+1)=gR k b p r (a r) (x r):=fun r=>by rw[hx];rfl
 have hSF:=afG
 have hSK:sK=4096:=rfl
 have hSV:sV=268435456:=rfl
 have hrow:∀(l:Nat) (a:Nat->Rat) (w:Bool) (ρ:Nat->Option Nat),dZ ρ ⟨true,w,3,l,fun i=>.rat (a i) sK⟩ ⟨true,w,3,l,fun i=>.rat (a i) sK⟩:=fun l a w ρ=>iX rfl fun _ _=>gu rfl
 refine ay.B0 hT xg hm [1,1,1,1,0,1] (i:=1) (y:=pZ) (z:=part xj [1,1,1,1,1]) ah ah ah Em.dst hk (f1:=[18,25,36,42,32]) 60 nN 3 (fun r:Nat=>tG n k p m a i.toNat r) (fun r=>mS p m c (x r) fun _=>SB r)
  (fun r=>r<=p/\iP n k p m l i=0) (fun r=>r=p/\iP n k p m l i=0) (fun r=>p-r) (yw T f211 [10,11,2] [.rat (mU n k p m c i l a) sB,.int .i64 (iP n k p m l i)] (kz m c)) ⟨_,ahc,?_⟩ (fun r ⟨hr,he⟩=>?_) (fun r ⟨hr,he⟩=>?_) (fun v s' hv hs'=>hv.fin (L1:=[4,0,1,3,12,66,67,68]) hk hs')
 ·simp only[ag.all,au,ta,bne_iff_ne,ne_eq,bne_eq_false_iff_eq,bw,cond_false,bz,bF,rq]
  have ret:∀{e:Int} {us:List AV},iP n k p m l i=e->e≠0->bH us=[]->yw T f211 [10,11,2] [.rat (mU n k p m c i l a) sB,.int .i64 (iP n k p m l i)] (kz m c) ([ptr 1 0 3 0 [],int i64 e,own 0 3 0 m]++us,[((0:Nat),kz m c),((1:Nat),bN fun j=>if(j==0)=true then bK (agg (kids (.rat 0 1)))else .rat 0 1)]):=fun {e us} h1 h2 h3=>
   ⟨[_,_,_],us,2,_,rfl,rfl,h3,abh,rfl,⟨⟨aa,fun i _=>rfl⟩,⟨aa,fun i _=>DE rfl rfl⟩,trivial⟩,aa,Nat.zero_lt_one,rfl,rfl,Ww h1 h2,⟨_,rfl,hrow _ _ _⟩⟩
  (repeat' with_reducible first|refine And.intro ?_ ?_|intro _)
  all_goals first|omega|exact dh bq|exact absurd ‹true=false› (by decide)|assumption|skip
  all_goals first|exact ret (Jp (.inl ‹_›)) (by decide) rfl|exact ret (Jp (.inr aa)) (by decide) rfl|skip
  all_goals first|exact ret (DL aa aa (.inl aa)) (by decide) rfl|exact ret (DL aa aa (.inr (.inl aa))) (by decide) rfl|skip
  all_goals have e1:(i+1).toNat=i.toNat+1:=aa
  ·exact ret (DL aa aa (.inr (.inr (by rw[<-e1];assumption)))) (by decide) rfl
  ·rename_i h1
   rw[e1]at h1
   have hlp:l=p:=aa
   subst hlp
   refine⟨0,⟨aa,Nf aa rfl (by rintro(h|h|h)<;>first|omega|exact h1 h)⟩,[(0,0),(1,1),(2,163841)],rfl,?_,rfl,cI rfl rfl aa (fun j hj=>?_) (bf (cI rfl rfl rfl (fun j hj=>eH rfl rfl) trivial))⟩
   ·rw[show((l:Int)+1).toNat=l+1 by omega]
    show _=[_,_,_,_,_,_,AV.int i64 ((i.toNat:Nat):Int),_,_,_,_]
    rw[show((i.toNat:Nat):Int)=i by omega]
    rfl
   ·rw[if_pos aa,hx0,show(i-(l:Int)).toNat=b by omega,Nat.sub_zero,Nat.zero_add,Nat.add_comm j b]
    exact .inr ⟨rfl,bI rfl (show sK<=SB 0 by decide)⟩
 ·have hin:(m:Int)=(n:Int)-p-1/\p<=i.toNat/\i.toNat<m/\i.toNat=b+p/\l=p:=by
   unfold iP at he
   split at he
   ·omega
   ·split at he
    ·omega
    ·omega
  obtain⟨i1,i2,i3,i4,i5⟩:=hin
  subst i5
  have hr4:∀{s:Nat->Nat} {y:Nat->Rat},jD 3 [(0,0),(1,1),(2,2)] [(2,az.mk true true 3 (l+1) fun i=>rat (y i) (s i)),((0:Nat),kz m c),((1:Nat),bN fun x=>rat 0 1)] (mS l m c y s):=cI rfl rfl rfl (fun j hj=>eH rfl rfl) (bf (cI rfl rfl rfl (fun j hj=>eH rfl rfl) trivial))
  refine ay.vr hT xg hm (y:=pZ) (x1:=tY) (zb:=part pZ [1,1,1]) [1,1,0] (j:=2) ah ah ah ah hk (f1:=[69]) 60 nN 3 (fun _:Unit=>tG n k l m a i.toNat r) (fun _=>mS l m c (x r) fun _=>SB r) (fun _=>r<l) ⟨_,Y7,?_⟩ (fun _ hr'=>?_)
  ·simp only[ag.all,au,bz,bF]
   have re:∀{s:Nat->Nat} {y:Nat->Rat},fm [0] ([ptr 1 0 3 0 [],int i64 0,own 0 3 0 m,ls a l,aq 3 n fun i=>rat (k i) sK,int i64 l,int i64 (i.toNat:Nat),own 2 3 0 (l+1),ls a l,int i64 l,int i64 (r:Nat)],[(2,az.mk true true 3 (l+1) fun i=>rat (y i) (s i)),((0:Nat),kz m c),((1:Nat),bN fun x=>rat 0 1)]) (tG n k l m a i.toNat r) (mS l m c y s) 3:=
    ⟨[(0,0),(1,1),(2,2)],rfl,rfl,rfl,hr4⟩
   exact⟨fun h1=>⟨(),aa,re⟩,fun h1 s' hs'=>⟨rfl,r,⟨aa,he⟩,re.le hs' hk⟩⟩
  have h1:=GZ (d:=r)
  have h2:=JV (d:=r) aa
  have h3:=Gu (d:=r)
  refine ay.uc hT xg hm (x:=tY) [1,1] (i:=3) (y:=part tY [1,1,0,0]) ah ah ah hk (f1:=[]) (f2:=[76]) 60 uD 4 (fun j:Nat=>DP n k l m a i.toNat r j) (fun j=>(3,tP (a r) sK)::mS l m c (mE k b l r (a r) (x r) j) (nh r j)) (fun j=>r<=j/\j<=l) (fun j=>j=r) (fun j=>j) (fun _=>False) ⟨_,XV,?_⟩ (fun j hj=>⟨_,Sl,?_⟩) (fun j s' hj hle=>?_) (fun _ _ h=>h.elim)
  ·simp only[ag.all,au,bw]
   refine⟨⟨aa,aa⟩,l,aa,[(0,0),(1,1),(2,2),(3,12291)],rfl,rfl,rfl,bf (cI rfl rfl rfl (fun j hj=>eH rfl ?_) (bf (cI rfl rfl rfl (fun j hj=>eH rfl rfl) trivial)))⟩
   unfold mE nh
   rw[if_pos aa,if_pos aa]
  ·obtain⟨hj1,hj2⟩:=hj
   have e1:((i.toNat:Nat):Int)-(l:Int)+(j:Int)=((b+j:Nat):Int):=aa
   have e2:((b+j:Nat):Int)+(l:Int)-(r:Int)=((b+j+(l-r):Nat):Int):=aa
   have u1:∀{j':Nat},j'<=j->nh r j j'=SB r:=fun h=>by unfold nh;rw[if_pos h]
   simp only[ag.all,au,bz,bF,e1,e2,bw,Nat.add_zero]
   refine⟨fun h4=>?_,fun h4=>⟨rfl,j,aa,[(0,0),(1,1),(2,2),(3,3)],rfl,rfl,rfl,bf (cI rfl rfl rfl (fun j hj=>eH rfl rfl) (bf (cI rfl rfl rfl (fun j hj=>eH rfl rfl) trivial)))⟩⟩
   have e3:((j:Int)-1).toNat=j-1:=aa
   have u2:=u1 (j':=j) bq
   have u3:=u1 (j':=j-1) aa
   simp only[e3,u2,u3]
   (repeat' with_reducible refine And.intro ?_ ?_)
   all_goals first|omega|skip
   exact⟨j-1,aa,by dsimp only;omega,[(0,0),(1,1),(2,2),(3,3)],rfl,by rw[show(j:Int)-1=((j-1:Nat):Int) by omega];rfl,rfl,bf (cI rfl rfl rfl (fun q hq=>T9 aa aa) (bf (cI rfl rfl rfl (fun j hj=>eH rfl rfl) trivial)))⟩
  ·subst hj
   show ay P cx f211.ntmps (part pZ [1,1,1]) s' _
   refine ay.lP hle (ay.bE hT xg hm 60 nN aeG ah ?_)
   simp only[ag.all,au]
   refine⟨aa,fun s' hs'=>⟨j+1,⟨aa,he⟩,by dsimp only;omega,fm.le ⟨[(0,0),(1,1),(2,2)],rfl,rfl,rfl,cI rfl rfl rfl (fun q hq=>?_) (bf (cI rfl rfl rfl (fun j hj=>eH rfl rfl) trivial))⟩ hs' hk⟩⟩
   refine .inr ⟨rfl,bI (by rw[adQ,hxS]) ?_⟩
   show nh j j q<=SB (j+1)
   unfold nh
   split<;>omega
 ·have hlp:l=p:=by
   unfold iP at he
   split at he
   ·omega
   ·omega
  subst hlp
  subst hr
  refine ay.rF ((aJ.Sx hT xg hm 60 aaD ah ?_).mono fun _ _ h=>.inl h)
  have h2:=JV (d:=r) hp6
  simp only[ag.all,au,bw,Nat.add_zero]
  refine⟨⟨aa,aa,aa,aa,aa⟩,aa,rfl,rfl,⟨bI ?_ (by show SB r+1+1<=536870912;omega),bU he.symm,trivial⟩,⟨_,rfl,hrow _ _ _⟩⟩
  unfold mU
  rw[if_pos he,<-hb,hx,Rat.add_zero]
def sD (f:Nat->AV) (n s:Nat):Prop:=∀i,i<n->keys (f i)=[]/\bg (f i) (.rat (aC (f i)) s)
theorem OD {k:Nat->Rat} {n s s':Nat} (h:s<=s'):sD (fun i=>.rat (k i) s) n s':=fun _ _=>⟨rfl,fC h⟩
theorem sD.obj {f:Nat->AV} {n s:Nat} {w:Bool} (h:sD f n s) {m:Nat} (hm:n=m) (ρ:Nat->Option Nat):dZ ρ ⟨true,w,3,n,f⟩ ⟨true,w,3,m,fun i=>.rat (aC (f i)) s⟩:=⟨rfl,rfl,rfl,hm.symm,fun i hi=>kA (h i hi).1 (h i hi).2⟩
def C4:Spec:=fun _ args pre=>match args,pre with
 |[.aq 3 n kf,.int .i64 p,.own b 3 0 m,.int .i64 i,.aq 3 l af],[(b',⟨true,true,3,mb,fb⟩)]=>match b'==b with
  |true=>some ⟨Fm n (fun i=>aC (kf i)) p.toNat m (fun i=>aC (fb i)) i l (fun i=>aC (af i)),[(b,kz m fun i=>aC (fb i))],
   [mb=m,bT kf n sK,bT af l sK,sD fb m sK,1<=p,p<=6,n<2^40,m<2^40,-2^40<i,i<2^40]⟩
  |false=>none
 |_,_=>none
theorem agN:aY P C4 211:=by
 intro K args pre r h
 unfold C4 at h
 split at h
 ·rename_i n kf p b m i l af b' mb fb
  split at h
  ·rename_i hc
   have hc:=eq_of_beq hc
   subst hc
   simp only[ax]at h
   subst h
   intro need
   obtain⟨rfl,n1,n2,n3,n4,n5,n6,n7,n8,n9⟩:=need
   refine Xu hT Em (args:=[.aq 3 n kf,.int .i64 p,.own b' 3 0 mb,.int .i64 i,.aq 3 l af]) (us:=[.rat (mU n (fun i=>aC (kf i)) p.toNat mb (fun i=>aC (fb i)) i l (fun i=>aC (af i))) sB,.int .i64 (iP n (fun i=>aC (kf i)) p.toNat mb l i)]) (args0:=[ls (fun i=>aC (kf i)) n,.int .i64 p,.own 0 3 0 mb,.int .i64 i,ls (fun i=>aC (af i)) l]) aV
    ⟨⟨rfl,kA rfl (Bo n1)⟩,aQ,⟨rfl,dw rfl rfl rfl⟩,aQ,⟨rfl,kA rfl (Bo n2)⟩,trivial⟩ (fun _ ρ=>n3.obj rfl ρ) (fun _ c hk=>?_) K ⟨rfl,n1,n2,n3,n4,n5,n6,n7,n8,n9⟩
   have:=adz (n:=n) (p:=p.toNat) (m:=mb) (l:=l) (k:=fun i=>aC (kf i)) (c:=fun i=>aC (fb i)) (a:=fun i=>aC (af i)) (i:=i) aa aa n6 n7 n8 n9 c hk
   rw[Int.toNat_of_nonneg aa]at this
   exact this
  ·simp at h
 ·simp at h
theorem Rb:aW 201 f201:=aN func201
theorem G3:aW 203 f203:=aN func203
def pX (k:Nat->Rat) (n:Nat):Nat->Nat->Nat
 |0,i=>i
 |f+1,i=>if i+1<n/\k (i+1)<=k i then pX k n f (i+1)else i
def iy (k:Nat->Rat) (n i:Nat):Nat:=pX k n (n-i) i
abbrev vw:List Nat:=[0,1,4]
abbrev BV (n i:Nat) (k:Nat->Rat):List AV:=[ls k n,.int .i64 i,.int .i64 0]
abbrev uo:Code:=aF f201
def gY (h:Pl):Nat->Rat
 |0=>h.n.x
 |1=>h.n.y
 |2=>h.n.z
 |_=>h.d
def nT (g:Nat->Rat):Nat->Pl
 |0=>⟨⟨0,0,0⟩,0⟩
 |1=>⟨⟨g 0,0,0⟩,0⟩
 |2=>⟨⟨g 0,g 1,0⟩,0⟩
 |3=>⟨⟨g 0,g 1,g 2⟩,0⟩
 |_=>⟨⟨g 0,g 1,g 2⟩,g 3⟩
def iQ (c:Cu) (i:Int) (l:Nat) (g:Nat->Rat) (a:Nat):Rat:=mU c.n c.k c.p.toNat c.m (fun j=>gY (c.f j) a) i l g
def pR (c:Cu) (i:Int) (l:Nat) (g:Nat->Rat):Pl:=⟨⟨iQ c i l g 0,iQ c i l g 1,iQ c i l g 2⟩,iQ c i l g 3⟩
def nY (c:Cu) (a:Nat) (x:Nat->Rat) (j q:Nat):Rat:=if q<j\/c.m<=q then gY (c.f q) a else x q
theorem Wz {c:Cu} {a:Nat} {x:Nat->Rat}:nY c a x c.m=fun q=>gY (c.f q) a:=by
 funext q;unfold nY;rw[if_pos aa]
def o5:aU:=nG::(211,C4)::eO
abbrev iY:List Nat:=[1,2,3,6,7,8,16]
abbrev kH (c:Cu) (i:Int) (l:Nat) (g:Nat->Rat) (a:Nat):List AV:=[.int .i64 i,ls g l,.ptr 0 0 3 0 [],.ptr 1 0 12 0 [],.ptr 2 0 12 0 [],.own 3 3 0 c.m,.int .i64 a]
abbrev vN:List Nat:=[1,2,3,6,7,8,16,9,20,21,22]
abbrev yQ (c:Cu) (i:Int) (l:Nat) (g:Nat->Rat) (a j:Nat):List AV:=[.int .i64 i,ls g l,.ptr 0 0 3 0 [],.ptr 1 0 12 0 [],.ptr 2 0 12 0 [],.own 3 3 0 c.m,.int .i64 a,.int .i64 a,qR c.f c.m sK,.int .i64 c.m,.int .i64 j]
abbrev jo (c:Cu) (x:Nat->Rat) (h:Pl):aD:=[(3,kz c.m x),(2,v9 h sB),(1,v9 ⟨⟨0,0,0⟩,0⟩ 1),(0,yB c sK)]
abbrev xB:Code:=aF f203
abbrev ot:Code:=part xB [1,1,1,0,1,0,0]
abbrev nP:Code:=part ot [1,1,0,0]
theorem Sw {n i:Nat} {k:Nat->Rat}:aM T (nG::eO) [] 60 vw (before uo [1,0]) ⟨aT 0 [ls k n,.int .i64 i],[],0⟩=
  some (leaf normal ([aq 3 n fun i=>rat (k i) 4096,int i64 (↑i:Int),int i64 0],[])):=ah
theorem T4 {n i:Nat} {k:Nat->Rat}:aM T (nG::eO) [10,22] 60 vw [part uo [1,0,0,0]] ⟨aH vw (BV n i k),[],0⟩=
  let c9:Prop:=sK<2^42;let c8:Int:=(↑i:Int);let c3:AV:=aq 3 n fun i=>rat (k i) 4096;let c4:ag (List AV×aD):=leaf (exit 0) ([c3,int i64 c8,int i64 0],[]);let c1:Int:=c8+1;let c7:Int:=cZ (k c8.toNat) (k c1.toNat);let c6:Bool:=decide (c1<(↑n:Int));let c2:Prop:=-(2:Int)^63<=c1/\c1<2^63;let c5:ag (List AV×aD):=aj [c2] (leaf normal ([c3,int i64 c1,int i64 0],[]));some (fork c6 (aj [c2,c6=true,(0:Int)<=c8/\c8.toNat<n,c2,(0:Int)<=c1/\c1.toNat<n,c9,c9] (fork (bif true then decide (c7>=0)else false) c5 c4)) (aj [c2,c6=false] (fork false c5 c4))):=ah
theorem XE {n i:Nat} {k:Nat->Rat}:cR T (nG::eO) [] 60 f201 [part uo [1,1]] ⟨aH vw (BV n i k),[],0⟩=
  some (leaf ret [int i64 (↑i:Int)]):=ah
theorem XB {c:Cu} {i:Int} {l:Nat} {g:Nat->Rat}:aM T o5 [] 60 iY (before xB [1,1,1,0,1]) ⟨aT 0 [fB c sK sK,.int .i64 i,ls g l],[],0⟩=
  let c4:Nat:=(bK (fB c sK sK)).size;let c3:Int:=(↑c.m:Int);let c1:AV:=rat 0 1;let c2:az:=az.mk false true 12 1 fun x=>agg [c1,c1,c1,c1];some (aj [(0:Nat)<1,(0:Int)<=c3/\c3<=c3/\c3<=2^47/\c3*(↑(56:Nat):Int)<=2^47] (leaf normal ([int i64 i,aq 3 l fun i=>rat (g i) 4096,ptr 0 0 c4 0 [],ptr 4096 0 12 0 [],ptr 8192 0 12 0 [],own 24576 3 0 c3.toNat,int i64 0],[(24576,az.mk true true 3 c3.toNat fun x=>c1),((8192:Nat),c2),((4096:Nat),c2),(0,az.mk false true c4 1 fun x=>agg [int i64 c.p,aq 3 c.n fun i=>rat (c.k i) 4096,aq 12 c.m fun i=>cu (c.f i) 4096])]))):=ah
theorem Qt {c:Cu} {i:Int} {l a:Nat} {g x:Nat->Rat} {h:Pl}:aM T o5 [17] 60 iY (before ot [1,1,0]) ⟨aH iY (kH c i l g a),jo c x h,4⟩=
  let c2:AV:=rat 0 1;let c1:List AV×aD:=([int i64 i,aq 3 l fun i=>rat (g i) 4096,ptr 0 0 3 0 [],ptr 1 0 12 0 [],ptr 2 0 12 0 [],own 3 3 0 c.m,int i64 (↑a:Int)],[(3,az.mk true true 3 c.m fun i=>rat (x i) 4096),(2,az.mk false true 12 1 fun x=>cu h 536870912),(1,az.mk false true 12 1 fun x=>agg [c2,c2,c2,c2]),((0:Nat),bN fun x=>agg [int i64 c.p,aq 3 c.n fun i=>rat (c.k i) 4096,aq 12 c.m fun i=>cu (c.f i) 4096])]);some (fork (decide ((↑a:Int)<4)) (leaf normal c1) (leaf (exit 0) c1)):=ah
theorem aa9 {c:Cu} {i:Int} {l a:Nat} {g x:Nat->Rat} {h:Pl}:aM T o5 [] 60 vN (before nP [1,0,1]) ⟨aH iY (kH c i l g a),jo c x h,4⟩=
  let c2:AV:=rat 0 1;let c1:AV:=aq 12 c.m fun i=>cu (c.f i) 4096;some (aj [(0:Nat)<1] (leaf normal ([int i64 i,aq 3 l fun i=>rat (g i) 4096,ptr 0 0 3 0 [],ptr 1 0 12 0 [],ptr 2 0 12 0 [],own 3 3 0 c.m,int i64 (↑a:Int),int i64 (↑a:Int),c1,int i64 (↑c.m:Int),int i64 0],[(3,az.mk true true 3 c.m fun i=>rat (x i) 4096),(2,az.mk false true 12 1 fun x=>cu h 536870912),(1,az.mk false true 12 1 fun x=>agg [c2,c2,c2,c2]),((0:Nat),bN fun x=>agg [int i64 c.p,aq 3 c.n fun i=>rat (c.k i) 4096,c1])]))):=ah
theorem acp {c:Cu} {i:Int} {l a:Nat} {g x:Nat->Rat} {h:Pl}:aM T o5 [] 60 iY [part ot [1,1,1]] ⟨aH iY (kH c i l g a),jo c x h,4⟩=
  let c2:Int:=(↑a:Int)+1;let c1:AV:=rat 0 1;some (aj [-(2:Int)^63<=c2/\c2<2^63] (leaf normal ([int i64 i,aq 3 l fun i=>rat (g i) 4096,ptr 0 0 3 0 [],ptr 1 0 12 0 [],ptr 2 0 12 0 [],own 3 3 0 c.m,int i64 c2],[(3,az.mk true true 3 c.m fun i=>rat (x i) 4096),(2,az.mk false true 12 1 fun x=>cu h 536870912),(1,az.mk false true 12 1 fun x=>agg [c1,c1,c1,c1]),((0:Nat),bN fun x=>agg [int i64 c.p,aq 3 c.n fun i=>rat (c.k i) 4096,aq 12 c.m fun i=>cu (c.f i) 4096])]))):=ah
theorem aaZ {c:Cu} {i:Int} {l a:Nat} {g x:Nat->Rat} {h:Pl}:cR T o5 [] 60 f203 [part xB [1,1,1,1]] ⟨aH iY (kH c i l g a),jo c x h,4⟩=
  let c1:Prop:=0<1;some (aj [c1,c1] (aj [c1] (leaf ret [cu h 536870912]))):=ah
theorem Qd {k:Nat->Rat} {n i:Nat} (h:i+1<n) (h2:k (i+1)<=k i):iy k n i=iy k n (i+1):=by
 unfold iy;rw[show n-i=(n-(i+1))+1 by omega,pX,if_pos ⟨h,h2⟩]
theorem JQ {k:Nat->Rat} {n i:Nat} (h:¬(i+1<n/\k (i+1)<=k i)):iy k n i=i:=by
 unfold iy
 cases n-i with
 |zero=>rfl
 |succ f=>rw[pX,if_neg h]
theorem S6 {n i:Nat} {k:Nat->Rat} (hi:i<=n) (hn:n<2^40) (K:Nat):aO P 201 K [ls k n,.int .i64 i] [] (aI (.int .i64 (iy k n i)) []):=by
 refine iJ (r:=aI (.int .i64 (iy k n i)) []) hT (eV fq) hm Rb rfl aV rfl [1,0] (i:=0) (y:=part uo [1,0,0,0]) (z:=part uo [1,1]) ah ah ah (f1:=[]) (f2:=[10,22]) (f3:=[]) 60 vw 0
  (fun j:Nat=>BV n j k) (fun _=>[]) (fun j=>j<=n/\iy k n j=iy k n i) (fun j=>j=iy k n i) (fun j=>n-j) (fun _=>⟨⟨_,Sw,?_⟩,fun j hj=>⟨_,T4,?_⟩,fun j hj=>⟨_,XE,?_⟩⟩) K []
 ·simp only[ag.all,au]
  exact⟨i,⟨hi,rfl⟩,[],rfl,rfl,rfl,trivial⟩
 ·have e1:((j:Int)+1).toNat=j+1:=aa
  simp only[ag.all,au,bz,bF,bw,cond_true,e1,rq]
  refine⟨fun h1=>⟨⟨aa,aa,aa,aa,aa,by decide,by decide⟩,fun h2=>⟨aa,j+1,⟨aa,(Qd aa h2).symm.trans hj.2⟩,by dsimp only;omega,[],rfl,rfl,rfl,trivial⟩,fun h2=>⟨rfl,j,?_,[],rfl,rfl,rfl,trivial⟩⟩,fun h1=>⟨⟨aa,aa⟩,fun h=>absurd h (by decide),fun _=>⟨rfl,j,?_,[],rfl,rfl,rfl,trivial⟩⟩⟩
  ·exact(JQ fun h=>h2 h.2).symm.trans hj.2
  ·exact(JQ fun h=>aa).symm.trans hj.2
 ·subst hj
  simp only[ag.all,au]
  exact .refl _
def FQ:Spec:=cP (kC (kL sK) (kC kI kN)) (fun a=>.int .i64 (iy a.1.2 a.1.1 a.2.1.toNat)) fun a=>[0<=a.2.1,a.2.1<=a.1.1,a.1.1<2^40]
theorem Tw:aY P FQ 201:=cC fun⟨⟨n,k⟩,i,_⟩ K hn=>by
 obtain⟨h1,h2,h3⟩:=hn
 have:=S6 (n:=n) (i:=i.toNat) (k:=k) (by dsimp only at*;omega) h3 K
 rw[Int.toNat_of_nonneg h1]at this
 exact this
theorem tg:aZ P o5:=eV (aE agN fq)
def wD (c:Cu):Nat->Nat->Rat
 |0=>fun _=>0
 |a+1=>fun q=>gY (c.f q) a
theorem QV {rl:List (Nat×Nat)} {c:Cu} {a:Nat} {x:Nat->Rat} {q:Nat} (hq:q<c.m):iF rl (.rat (x q) sK) (.rat (nY c a x 0 q) sK):=eH rfl (by unfold nY;rw[if_neg aa])
theorem ag7 {rl:List (Nat×Nat)} {c:Cu} {a j:Nat} {x:Nat->Rat} {q:Nat} {v:Rat} (hq:q<c.m) (hv:v=gY (c.f j) a):iF rl (.rat (bif q==j then v else nY c a x j q) (bif q==j then sK else sK)) (.rat (nY c a x (j+1) q) sK):=by
 refine eH rfl ?_
 rw[Bool.cond_self]
 congr 1
 by_cases h:q=j
 ·subst h
  rw[beq_self_eq_true,cond_true,hv];unfold nY;rw[if_pos aa]
 ·rw[beq_eq_false_iff_ne.2 h,cond_false];unfold nY
  by_cases h2:q<j
  ·rw[if_pos (.inl h2),if_pos (.inl aa)]
  ·rw[if_neg aa,if_neg aa]
theorem Xg {x:Nat->Rat} {m:Nat}:sD (fun i=>.rat (x i) sK) m sK:=OD bq
theorem four {a:Nat} (ha:a<4):a=0\/a=1\/a=2\/a=3:=aa
theorem ady {c:Cu} {i:Int} {l a j:Nat} {g x:Nat->Rat} {h:Pl} (ha:a<4):aM T o5 [23] 60 vN [part nP [1,0,1,0,0]] ⟨aH vN (yQ c i l g a j),jo c x h,4⟩=
  some (fork (decide ((j:Int)<c.m)) (aj [(0:Int)<=j/\(j:Int).toNat<c.m,0<1] (aj [(0:Int)<=a/\(a:Int)<4,0<1,(0:Int)<=j/\(j:Int).toNat<c.m,(j:Int).toNat+0<c.m] (aj [-(2:Int)^63<=(j:Int)+1/\(j:Int)+1<(2:Int)^63]
   (leaf normal ([.int .i64 i,ls g l,.ptr 0 0 3 0 [],.ptr 1 0 12 0 [],.ptr 2 0 12 0 [],.own 3 3 0 c.m,.int .i64 a,.int .i64 a,qR c.f c.m sK,.int .i64 c.m,.int .i64 ((j:Int)+1)],(3,⟨true,true,3,c.m,fun q=>.rat (bif q==(j:Int).toNat+0 then gY (c.f (j:Int).toNat) a else x q) (bif q==(j:Int).toNat+0 then sK else sK)⟩)::[(2,v9 h sB),(1,v9 ⟨⟨0,0,0⟩,0⟩ 1),(0,yB c sK)]))))) (leaf (exit 2) (yQ c i l g a j,jo c x h))):=by
 rcases four ha with rfl|rfl|rfl|rfl<;>kernel_rfl
theorem acX {c:Cu} {i:Int} {l a j:Nat} {g x:Nat->Rat} {h:Pl} (ha:a<4):aM T o5 [] 60 iY [part nP [1,1]] ⟨aH vN (yQ c i l g a j),jo c x h,4⟩=
  some (aj [0<1,0<1,c.m=c.m,bT (fun i=>.rat (c.k i) sK) c.n sK,bT (fun i=>.rat (g i) sK) l sK,sD (fun i=>.rat (x i) sK) c.m sK,(1:Int)<=c.p,c.p<=6,c.n<2^40,c.m<2^40,-(2:Int)^40<i,i<2^40,(0:Int)<=a/\(a:Int)<4,0<1]
   (leaf normal (kH c i l g a,[(3,kz c.m x),(2,⟨false,true,12,1,fun j=>if(j==0)=true then .agg ((cu h sB).kids.set a (.rat (mU c.n c.k c.p.toNat c.m x i l g) sB))else cu h sB⟩),(1,v9 ⟨⟨0,0,0⟩,0⟩ 1),(0,yB c sK)]))):=by
 rcases four ha with rfl|rfl|rfl|rfl<;>kernel_rfl
theorem aeu {rl:List (Nat×Nat)} {G:Nat->Rat} {a:Nat} (ha:a<4):iF rl (.agg ((cu (nT G a) sB).kids.set a (.rat (G a) sB))) (cu (nT G (a+1)) sB):=by
 rcases four ha with rfl|rfl|rfl|rfl<;>exact eH rfl rfl
theorem agy {c:Cu} {i:Int} {l a:Nat} {g x:Nat->Rat} {cx:Ctx} {Q:ak->aL->Prop} (ha:a<4) (hk:Kept [] cx) (hp1:1<=c.p) (hp6:c.p<=6) (hn:c.n<2^40) (hm2:c.m<2^40) (hi:-2^40<i) (hi2:i<2^40)
  (hQ:∀s',(∃ρ,Le cx ρ s' ⟨aH iY (kH c i l g a),jo c (wD c (a+1)) (nT (iQ c i l g) (a+1)),4⟩)->ay P cx f203.ntmps (part ot [1,1,1]) s' Q):
  ay P cx f203.ntmps nP ⟨aH iY (kH c i l g a),jo c x (nT (iQ c i l g) a),4⟩ (inBlock 1 (ej (fun s'=>ay P cx f203.ntmps (part ot [1,1,1]) s' Q) Q)):=by
 refine ay.uc hT tg hm (x:=nP) [1,0,1] (i:=2) (y:=part nP [1,0,1,0,0]) ah ah ah hk (f1:=[]) (f2:=[23]) 60 vN 4 (fun j:Nat=>yQ c i l g a j) (fun j=>jo c (nY c a x j) (nT (iQ c i l g) a)) (fun j=>j<=c.m) (fun j=>j=c.m) (fun j=>c.m-j) (fun _=>False) ⟨_,aa9,?_⟩ (fun j hj=>⟨_,ady ha,?_⟩) (fun j s' hj hle=>?_) (fun _ _ h=>h.elim)
 ·simp only[ag.all,au]
  exact⟨aa,0,Nat.zero_le _,[(0,0),(1,1),(2,2),(3,3)],rfl,rfl,rfl,cI rfl rfl rfl (fun q hq=>QV hq) (bf (bf (bf trivial)))⟩
 ·simp only[ag.all,au,bz,bF,bw,Nat.add_zero]
  exact⟨fun h1=>⟨⟨aa,aa⟩,⟨aa,aa,aa,aa⟩,aa,j+1,aa,by dsimp only;omega,[(0,0),(1,1),(2,2),(3,3)],rfl,rfl,rfl,cI rfl rfl rfl (fun q hq=>ag7 hq rfl) (bf (bf (bf trivial)))⟩,
   fun h1=>⟨rfl,j,aa,[(0,0),(1,1),(2,2),(3,3)],rfl,rfl,rfl,cI rfl rfl rfl (fun q hq=>eH rfl rfl) (bf (bf (bf trivial)))⟩⟩
 ·subst hj
  simp only[Wz]at hle
  rw[show behind nP [1,0,1]=[part nP [1,1]]from by kernel_rfl]
  refine aJ.weak rfl hle (aJ.bE hT tg hm 60 iY (acX ha) ah ?_)
  simp only[ag.all,au]
  refine⟨⟨aa,aa,trivial,dh bq,dh bq,Xg,hp1,hp6,hn,hm2,hi,hi2,aa,aa⟩,fun s'' hs''=>hQ s'' (fm.le ⟨[(0,0),(1,1),(2,2),(3,3)],rfl,rfl,rfl,cI rfl rfl rfl (fun q hq=>eH rfl rfl) (ff rfl rfl (aeu ha) (bf (bf trivial)))⟩ hs'' hk)⟩
theorem OX {c:Cu} {i:Int} {l:Nat} {g:Nat->Rat} (hp1:1<=c.p) (hp6:c.p<=6) (hn:c.n<2^40) (hm2:c.m<2^40) (hi:-2^40<i) (hi2:i<2^40) (K:Nat):aO P 203 K [fB c sK sK,.int .i64 i,ls g l] [] (aI (cu (pR c i l g) sB) []):=by
 refine ji (r:=aI (cu (pR c i l g) sB) []) hT G3 rfl aV rfl (fun _ cx h00=>?_) K []
 have hk:=v5 h00
 refine ay.B0 hT tg hm [1,1,1,0,1] (i:=0) (y:=ot) (z:=part xB [1,1,1,1]) ah ah ah G3.dst hk (f1:=[]) 60 iY 4 (fun a:Nat=>kH c i l g a) (fun a=>jo c (wD c a) (nT (iQ c i l g) a)) (fun a=>a<=4) (fun a=>a=4) (fun a=>4-a) (fun _=>False) ⟨_,XB,?_⟩ (fun a ha=>?_) (fun a ha=>?_) (fun _ _ h=>h.elim)
 ·simp only[ag.all,au,bw]
  exact⟨⟨aa,aa⟩,0,aa,[(0,0),(1,4096),(2,8192),(3,24576)],rfl,rfl,rfl,cI rfl rfl rfl (fun q hq=>.inr ⟨rfl,bI rfl (by decide)⟩) (ff rfl rfl (.inr ⟨rfl,cz (show dH [.rat _ _,.rat _ _,.rat _ _,.rat _ _] [.rat _ _,.rat _ _,.rat _ _,.rat _ _]from⟨bI rfl (by decide),bI rfl (by decide),bI rfl (by decide),bI rfl (by decide),trivial⟩)⟩) (bf (bf trivial)))⟩
 ·have re:∀{x:Nat->Rat} {h:Pl},fm [] (kH c i l g a,jo c x h) (kH c i l g a) (jo c x h) 4:=
   fun {x h}=>⟨[(0,0),(1,1),(2,2),(3,3)],rfl,rfl,rfl,cI rfl rfl rfl (fun q hq=>eH rfl rfl) (bf (bf (bf trivial)))⟩
  refine ay.vr hT tg hm (y:=ot) (x1:=nP) (zb:=part ot [1,1,1]) [1,1,0] (j:=1) ah ah ah ah hk (f1:=[17]) 60 iY 4 (fun _:Unit=>kH c i l g a) (fun _=>jo c (wD c a) (nT (iQ c i l g) a)) (fun _=>a<4) ⟨_,Qt,?_⟩ (fun _ ha'=>?_)
  ·simp only[ag.all,au,bz,bF]
   exact⟨fun h1=>⟨(),aa,re⟩,fun h1 s' hs'=>⟨rfl,a,aa,re.le hs' hk⟩⟩
  have nx:∀s',(∃ρ,Le cx ρ s' ⟨aH iY (kH c i l g a),jo c (wD c (a+1)) (nT (iQ c i l g) (a+1)),4⟩)->ay P cx f203.ntmps (part ot [1,1,1]) s' (Aj cx iY (fun a:Nat=>kH c i l g a) (fun a=>jo c (wD c a) (nT (iQ c i l g) a)) 4 (fun a=>a<=4) (fun a=>a=4) (fun a=>4-a) 0 (fun s'=>∃v,False/\bC iY s'=some v) a):=fun s' hle=>by
   refine ay.lP hle (ay.bE hT tg hm 60 iY acp ah ?_)
   simp only[ag.all,au]
   exact⟨aa,fun s'' hs''=>⟨a+1,aa,by dsimp only;omega,fm.le ⟨[(0,0),(1,1),(2,2),(3,3)],rfl,rfl,rfl,cI rfl rfl rfl (fun q hq=>eH rfl rfl) (bf (bf (bf trivial)))⟩ hs'' hk⟩⟩
  exact agy ha' hk hp1 hp6 hn hm2 hi hi2 nx
 ·subst ha
  refine ay.rF ((aJ.fin hT tg hm 60 aaZ ah ?_).mono fun _ _ h=>.inl h)
  simp only[ag.all,au]
  exact⟨⟨aa,aa⟩,aa,.refl _⟩
def Kj:Spec:=cP (kC (zF sK sK) (kC kI (kC (kL sK) kN))) (fun a=>cu (pR a.1 a.2.1 a.2.2.1.1 a.2.2.1.2) sB) fun a=>[1<=a.1.p,a.1.p<=6,a.1.n<2^40,a.1.m<2^40,-2^40<a.2.1,a.2.1<2^40]
theorem acD:aY P Kj 203:=cC fun⟨c,i,⟨l,g⟩,_⟩ K hn=>OX hn.1 hn.2.1 hn.2.2.1 hn.2.2.2.1 hn.2.2.2.2.1 hn.2.2.2.2.2 K
theorem acM {c:Nat} {u v:AV} (hv:v.isAgg=false) (h:bg u v):bg (.bP c u) (.bP c v):=by
 refine⟨rfl,fun M w cs hc=>?_⟩
 cases hc with
 |bP _ h1 h2=>cases h2;exact .bP hv (h.2 _ _ _ h1) .nil
def Q3 (s:Nat):Kind (Nat×(Nat->Rat)):=⟨fun v=>match v with
 |.bP c v=>match(kL s).read v with
  |some (a,q)=>some (a,(c=a.1)::q)
  |none=>none
 |_=>none,fun a=>.bP a.1 (bp a.2 a.1 s),fun {v a q} h hq=>by
  split at h
  ·split at h
   ·rename_i h1
    simp only[ax,Prod.mk.injEq]at h
    obtain⟨rfl,rfl⟩:=h
    obtain⟨q1,q2⟩:=yE.1 hq
    subst q1
    exact acM rfl ((kL s).ok h1 q2)
   ·simp at h
  ·simp at h⟩
abbrev xl:FuncId:=153
abbrev By:Func:=f153
def gH (k:Nat->Rat) (t:Rat):Nat->Nat
 |0=>0
 |n+1=>if gH k t n=n/\k n<=t then n+1 else gH k t n
def jg (k:Nat->Rat) (t:Rat) (p j:Nat):Rat:=if j<p then k j else if j=p then t else k (j-1)
abbrev uj:List Nat:=[3,9,10,11]
abbrev AH (n:Nat) (k:Nat->Rat) (s i:Nat):List AV:=[.bP n (.own 0 3 0 i),bp k n s,.int .i64 n,.int .i64 i]
abbrev yy:aU:=cG::eO
abbrev um:List Nat:=[0,3,5]
abbrev AF (n:Nat) (k:Nat->Rat) (s i:Nat):List AV:=[bp k n s,.ptr 0 0 3 0 [],.int .i64 i]
abbrev uy:Code:=aF f114
def NF (w:Nat):Spec:=cP (kC (Q3 w) (kC kI (kC (kL w) kN))) (fun a=>bp (jg a.1.2 (a.2.2.1.2 0) a.2.1.toNat) (a.1.1+1) w) fun a=>[0<=a.2.1,a.2.1<=a.1.1,a.2.2.1.1=1,a.1.1<2^40]
def HY (s w:Nat):Spec:=cP (kC (kL s) kN) (fun a=>.bP a.1.1 (bp a.1.2 a.1.1 w)) fun a=>[a.1.1<2^40]
def y9 (s w:Nat):aU:=cG::(152,HY s w)::(xl,NF w)::eO
theorem NY:aW xl By:=aN func153
theorem aar:aW 114 f114:=aN func114
theorem af8 {n i s:Nat} {k:Nat->Rat} {t:Rat}:bD T [cG] [22,100031] 60 By (aF By) ⟨aT 0 [.bP n (bp k n s),.int .i64 i,bp (fun _=>t) 1 s],[],0⟩=
  let c11:Nat:=Int.toNat (0:Int);let c9:Int:=(↑n:Int);let c7:Int:=(2:Int)^63;let c4:Int:=(↑i:Int);let c14:Nat:=c4.toNat-c11;let c13:Prop:=(0:Int)<=c4;let c12:Nat:=0+c4.toNat;let c3:Int:=c9+(↑(1:Nat):Int);let c2:Int:=c4+(↑(1:Nat):Int);let c10:Nat:=0+c2.toNat;let c1:Nat:=c14+(c3-c4).toNat;let c8:Int:=(↑c1:Int);let c6:Nat:=c12+Min.min 1 (c8.toNat-c4.toNat);let c5:Nat:=c10+Min.min (c9.toNat-c4.toNat) (c8.toNat-c2.toNat);some (aj [c13/\c4<=c9/\c9<=c9] (fork (c4==c9) (aj [n<n+1/\(n+1)*((56:Nat)+1)*2<=2^47] (leaf ret [aq 3 (n+1) fun i=>if i+0<n then rat (k (i+0)) s else rat t s])) (aj [-c7<=c3/\c3<c7] (aj [decide (c3>c9)=true] (aj [(0:Int)<=0/\c13/\c4<=c9,-c7<=c3/\c3<c7,-c7<=c3-c4/\c3-c4<c7,(0:Int)<c3-c4/\n-c11<c1/\c1*((56:Nat)+1)*2<=2^47] (aj [c13/\c4<=c8/\c8<=c8/\c8<=c8] (aj [-c7<=c2/\c2<c7,(0:Int)<=c2/\c2<=c8/\c8<=c8/\c8<=c8,c13/\c4<=c9/\c9<=c9] (leaf ret [aq 3 c1 fun i=>if c10<=i+0/\i+0<c5 then rat (k (i+0-c10+c4.toNat)) s else if c12<=i+0/\i+0<c6 then rat t s else if i+0<c14 then rat (k (i+0+c11)) s else rat 0 1])))))))):=ah
theorem UB {n s:Nat} {k:Nat->Rat}:aM T yy [] 60 uj (before mV [1,1,0,1]) ⟨aT 0 [bp k n s],[],0⟩=
  let c1:Int:=(↑n:Int);some (aj [(0:Int)<=0/\(0:Int)<=c1/\c1<=2^47/\c1*(↑(56:Nat):Int)<=2^47] (leaf normal ([bP c1.toNat (own 12288 3 0 0),aq 3 n fun i=>rat (k i) s,int i64 c1,int i64 0],[(12288,az.mk true true 3 0 fun x=>rat 0 1)]))):=ah
theorem Pp {n i s w:Nat} {k x:Nat->Rat}:aM T yy [12] 60 uj [part mV [1,1,0,1,0,0]] ⟨aH uj (AH n k s i),[(0,nI i x w)],1⟩=
  let c5:Int:=(↑n:Int);let c3:Nat:=i+1;let c2:AV:=aq 3 n fun i=>rat (k i) s;let c1:Int:=(↑i:Int);let c4:Int:=c1+1;some (fork (decide (c1<c5)) (aj [(0:Int)<=c1/\c1.toNat<n,(0:Nat)<1] (aj [(0:Nat)<1,s<2^42,(1:Nat)<2^42,(1:Nat)*3<=2^24,c3<=n,c3*((56:Nat)+1)*2<=2^47] (aj [-(2:Int)^63<=c4/\c4<2^63] (leaf normal ([bP n (own 40961 3 0 c3),c2,int i64 c5,int i64 c4],[(40961,az.mk true true 3 c3 fun i_1=>if i_1<i then rat (x i_1) w else nth [rat (k c1.toNat+0) (s+1+1)] (rat 0 1) (i_1-i+0))]))))) (leaf (exit 0) ([bP n (own 0 3 0 i),c2,int i64 c5,int i64 c1],[(0,az.mk true true 3 i fun i=>rat (x i) w)]))):=ah
theorem YI {n i s w:Nat} {k x:Nat->Rat}:cR T yy [] 60 f152 [part mV [1,1,1]] ⟨aH uj (AH n k s i),[(0,nI i x w)],1⟩=
  some (leaf ret [bP n (aq 3 i fun i=>rat (x (i+0)) w)]):=ah
theorem ac1 {n s r w:Nat} {k:Nat->Rat} {t:Rat}:aM T (y9 s w) [] 60 um (before uy [1,1,0]) ⟨aT 0 [bp k n s,.rat t r],[],0⟩=
  some (leaf normal ([aq 3 n fun i=>rat (k i) s,ptr 0 0 (bK (rat t r)).size 0 [],int i64 0],[(0,az.mk false true (bK (rat t r)).size 1 fun x=>rat t r)])):=ah
theorem PZ {n i s r w:Nat} {k:Nat->Rat} {t:Rat}:aM T (y9 s w) [10,18] 60 um [part uy [1,1,0,0,0]] ⟨aH um (AF n k s i),[(0,tP t r)],1⟩=
  let c7:AV:=aq 3 n fun i=>rat (k i) s;let c5:AV:=ptr 0 0 3 0 [];let c4:Nat×az:=((0:Nat),bN fun x=>rat t r);let c3:Int:=(↑i:Int);let c8:Int:=c3+1;let c6:Bool:=decide (c3<(↑n:Int));let c2:ag (List AV×aD):=leaf (exit 0) ([c7,c5,int i64 c3],[c4]);let c1:ag (List AV×aD):=aj [-(2:Int)^63<=c8/\c8<2^63] (leaf normal ([c7,c5,int i64 c8],[c4]));some (fork c6 (aj [c6=true,(0:Int)<=c3/\c3.toNat<n,(0:Nat)<1,s<2^42,r<2^42] (fork (bif true then decide (cZ (k c3.toNat) t<=0)else false) c1 c2)) (aj [c6=false] (fork false c1 c2))):=ah
theorem aeK {n i s r w:Nat} {k:Nat->Rat} {t:Rat}:cR T (y9 s w) [] 60 f114 [part uy [1,1,1]] ⟨aH um (AF n k s i),[(0,tP t r)],1⟩=
  let c3:AV:=rat 0 1;let c2:Prop:=n<2^40;let c1:AV:=rat (t+0) (r+1+1);some (aj [bT (fun i=>rat (k i) s) n s,c2,(0:Nat)<1,r<2^42,(1:Nat)<2^42,(1:Nat)*3<=2^24,n=n,bT (fun i=>rat (aC (rat (k i) s)) w) n w,bT (fun i=>nth [c1] c3 (i+0)) 1 w,(0:Int)<=(↑i:Int),(↑i:Int)<=(↑n:Int),(1:Nat)=1,c2] (leaf ret [aq 3 (n+1) fun i_1=>rat (jg (fun i=>aC (rat (aC (rat (k i) s)) w)) (aC (nth [c1] c3 ((0:Nat)+0))) (↑i:Int).toNat i_1) w])):=ah
theorem A3 {Γ:aU} (h:aZ P Γ):aZ P (cG::Γ):=aE (fun _ _ _ _ h=>nomatch h) h
theorem aej {a b:Rat}:cZ a b<=0↔a<=b:=by
 have:=@rS a b
 constructor
 ·intro h
  exact Rat.not_lt.1 fun h'=>by have:=rS.2 h';omega
 ·intro h
  have:¬cZ a b>0:=fun h'=>Rat.not_lt.2 h (rS.1 h')
  omega
theorem Ho {k:Nat->Rat} {t:Rat} {n:Nat} (h:gH k t n=n) (h2:k n<=t):gH k t (n+1)=n+1:=by unfold gH;rw[if_pos ⟨h,h2⟩]
theorem AN {k:Nat->Rat} {t:Rat} {i:Nat} (h:gH k t i=i) (h2:t<k i):∀{n:Nat},i<=n->gH k t n=i
 |0,hn=>by
    have:i=0:=aa
    subst this;rfl
 |n+1,hn=>by
  by_cases he:i=n+1
  ·subst he;exact h
  ·have ih:=AN h h2 (n:=n) aa
   unfold gH
   rw[if_neg,ih]
   rintro⟨g1,g2⟩
   have:i=n:=aa
   subst this
   exact absurd h2 (Rat.not_lt.2 g2)
theorem PW {n i s:Nat} {k:Nat->Rat} {t:Rat} (hi:i<=n) (hn:n<2^40) (K:Nat):aO P xl K [.bP n (bp k n s),.int .i64 i,bp (fun _=>t) 1 s] [] (aI (bp (jg k t i) (n+1) s) []):=by
 refine bJ (r:=aI (bp (jg k t i) (n+1) s) []) hT (A3 bA) hm NY rfl aV rfl 60 af8 (fun _=>?_) K []
 simp only[ag.all,au,bz,bF]
 have w1:((1:Nat):Int)=1:=rfl
 simp only[w1,bw,Int.toNat_zero,Nat.sub_zero,Nat.zero_add,Nat.add_zero,beq_iff_eq,beq_eq_false_iff_ne,ne_eq,Int.ofNat_inj]
 refine⟨aa,fun h=>⟨aa,dI fun j hj=>dM ?_⟩,fun h=>?_⟩
 ·subst h
  unfold jg
  by_cases h1:j<i
  ·rw[if_pos h1,if_pos h1]
  ·rw[if_neg h1,if_neg h1,if_pos aa]
 ·have eN:i+((n:Int)+1-i).toNat=n+1:=aa
  have e2:((i:Int)+1).toNat=i+1:=aa
  simp only[eN,e2]
  refine⟨aa,aa,aa,aa,aa,dI fun j hj=>dM ?_⟩
  unfold jg
  by_cases h1:j<i
  ·rw[if_neg aa,if_neg aa,if_pos h1,if_pos h1]
  ·by_cases h2:j=i
   ·rw[if_neg aa,if_pos aa,if_neg h1,if_pos h2]
   ·rw[if_pos aa,if_neg h1,if_neg h2,show j-(i+1)+i=j-1 by omega]
theorem WV:aZ P yy:=A3 fq
theorem agz {n s w:Nat} {k:Nat->Rat} (h:s+2<=w) (hw:w<2^40) (hn:n<2^40) (K:Nat):aO P 152 K [bp k n s] [] (aI (.bP n (bp k n w)) []):=by
 refine iJ (r:=aI (.bP n (bp k n w)) []) hT WV hm DU rfl aV rfl [1,1,0,1] (i:=0) (y:=part mV [1,1,0,1,0,0]) (z:=part mV [1,1,1]) ah ah ah (f1:=[]) (f2:=[12]) (f3:=[]) 60 uj 1
  (fun i:Nat=>AH n k s i) (fun i=>[(0,nI i k w)]) (fun i=>i<=n) (fun i=>i=n) (fun i=>n-i) (fun _=>⟨⟨_,UB,?_⟩,fun i hi=>⟨_,Pp,?_⟩,fun i hi=>⟨_,YI,?_⟩⟩) K []
 ·simp only[ag.all,au]
  exact⟨aa,0,Nat.zero_le _,[(0,12288)],rfl,by rw[bw];rfl,rfl,cI rfl rfl rfl (fun j hj=>absurd hj (Nat.not_lt_zero j)) trivial⟩
 ·simp only[ag.all,au,bz,bF,bw,Nat.add_zero]
  exact⟨fun h1=>⟨aa,aa,aa,i+1,aa,by dsimp only;omega,[(0,40961)],rfl,rfl,rfl,cI rfl rfl rfl (fun j hj=>oz (fun _ _=>rfl) (Rat.add_zero _) bq aa hj) trivial⟩,
   fun h1=>⟨rfl,i,aa,[(0,0)],rfl,rfl,rfl,mm trivial⟩⟩
 ·subst hi
  simp only[ag.all,au]
  exact .refl _
theorem Uy {s w:Nat} (h:s+2<=w) (hw:w<2^40):aY P (HY s w) 152:=cC fun⟨⟨n,k⟩,_⟩ K hn=>agz h hw hn K
theorem YA {w:Nat}:aY P (NF w) xl:=cC fun⟨⟨n,k⟩,i,⟨m,g⟩,_⟩ K hn=>by
 obtain⟨h1,h2,h3,h4⟩:=hn
 simp only at h1 h2 h3 h4
 subst h3
 have:=eW (PW (k:=k) (t:=g 0) (s:=w) (i:=i.toNat) (n:=n) aa h4 K) (args:=[.bP n (bp k n w),.int .i64 i,bp g 1 w]) rfl ⟨.refl _,bU aa,dI fun j hj=>dM (by rw[Nat.lt_one_iff.1 hj]),trivial⟩ []
 exact this
theorem Xn {s w:Nat} (h:s+2<=w) (hw:w<2^40):aZ P (y9 s w):=A3 (aE (Uy h hw) (aE YA fq))
theorem Xm {n s r w:Nat} {k:Nat->Rat} {t:Rat} (h:s+2<=w) (h2:r+2<=w) (hw:w<2^40) (hn:n<2^40) (K:Nat):aO P 114 K [bp k n s,.rat t r] [] (aI (bp (jg k t (gH k t n)) (n+1) w) []):=by
 refine iJ (r:=aI (bp (jg k t (gH k t n)) (n+1) w) []) hT (Xn h hw) hm aar rfl aV rfl [1,1,0] (i:=0) (y:=part uy [1,1,0,0,0]) (z:=part uy [1,1,1]) ah ah ah (f1:=[]) (f2:=[10,18]) (f3:=[]) 60 um 1
  (fun i:Nat=>AF n k s i) (fun _=>[(0,tP t r)]) (fun i=>i<=n/\gH k t i=i) (fun i=>i<=n/\i=gH k t n) (fun i=>n-i) (fun _=>⟨⟨_,ac1,?_⟩,fun i hi=>⟨_,PZ,?_⟩,fun i hi=>⟨_,aeK,?_⟩⟩) K []
 ·simp only[ag.all,au]
  exact⟨0,⟨Nat.zero_le _,rfl⟩,[(0,0)],rfl,rfl,rfl,bf trivial⟩
 ·simp only[ag.all,au,bz,bF,bw]
  simp only[cond_true,bz,bF,aej]
  exact⟨fun h1=>⟨⟨h1,aa,aa,aa,aa⟩,fun h2=>⟨aa,i+1,⟨aa,Ho hi.2 h2⟩,by dsimp only;omega,[(0,0)],rfl,rfl,rfl,bf trivial⟩,
    fun h2=>⟨rfl,i,⟨aa,(AN hi.2 (Rat.not_le.1 h2) aa).symm⟩,[(0,0)],rfl,rfl,rfl,bf trivial⟩⟩,
   fun h1=>⟨h1,fun h=>absurd h (by decide),fun _=>⟨rfl,i,⟨hi.1,by rw[show n=i by omega];exact hi.2.symm⟩,[(0,0)],rfl,rfl,rfl,bf trivial⟩⟩⟩
 ·obtain⟨hi,rfl⟩:=hi
  simp only[ag.all,au]
  refine⟨⟨dh bq,aa,aa,aa,aa,aa,trivial,dh bq,fun j hj=>?_,aa,aa,trivial,aa⟩,dI fun j hj=>dM ?_⟩
  ·rw[Nat.lt_one_iff.1 hj];exact fC aa
  ·show AV.rat (jg k (t+0) ((gH k t n:Nat):Int).toNat j) w=_
   rw[Rat.add_zero,bw]
end Go.Am.B
