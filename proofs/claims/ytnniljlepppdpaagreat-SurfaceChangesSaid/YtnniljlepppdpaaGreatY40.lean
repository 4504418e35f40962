/- ref02.Text of a few numbers; law09.awake. -/
import Derived.Test.YtnniljlepppdpaaGreatY39
import Derived.Test.YtnniljlepppdpaaGreatB33
import Derived.Test.YtnniljlepppdpaaGreatY38
import Derived.Test.YtnniljlepppdpaaGreatZ2
import Derived.Test.YtnniljlepppdpaaGreatY37
set_option linter.unusedVariables false
noncomputable section
namespace Go.Am.B
open Go Go.Am.N AV ah ax IntKind
def wF:bf:=[sG,(zq,J3)]
def Oz:Spec:=bY fun l=>match l with
 |[.mag 1]=>some (aJ (.str [49]) [])
 |[.mag 2]=>some (aJ (.str [50]) [])
 |[.mag 3]=>some (aJ (.str [51]) [])
 |[.mag 4]=>some (aJ (.str [52]) [])
 |_=>none
def DH:bf:=[sG,(FF,Oz)]
theorem ani:bU T wF [] 60 mG (ay mG) ⟨aP 0 [.mag 1],[],0⟩=
  let c1:Int:=(↑(1:Nat):Int);some (aj [nl 1<2^40,(0:Int)<1000000000,(1000000000:Int)<2^32] (aj [(10:Int)≠(0:Int),(0:Nat)<1/\1*((1:Nat)+1)*2<=2^47] (aj [(10:Int)≠(0:Int)] (aj [(0:Int)<=c1/\c1<=c1/\c1<=2^47/\c1*c1<=2^47] (leaf ret [str [UInt8.ofNat (u8.wrap (u32.wrap ((48:Int)+(↑((1:Nat)%Int.toNat (1000000000:Int)):Int).tmod (10:Int)))).toNat]]))))):=ag
theorem anD:bU T wF [] 60 mG (ay mG) ⟨aP 0 [.mag 2],[],0⟩=
  let c1:Int:=(↑(1:Nat):Int);some (aj [nl 2<2^40,(0:Int)<1000000000,(1000000000:Int)<2^32] (aj [(10:Int)≠(0:Int),(0:Nat)<1/\1*((1:Nat)+1)*2<=2^47] (aj [(10:Int)≠(0:Int)] (aj [(0:Int)<=c1/\c1<=c1/\c1<=2^47/\c1*c1<=2^47] (leaf ret [str [UInt8.ofNat (u8.wrap (u32.wrap ((48:Int)+(↑((2:Nat)%Int.toNat (1000000000:Int)):Int).tmod (10:Int)))).toNat]]))))):=ag
theorem als:bU T wF [] 60 mG (ay mG) ⟨aP 0 [.mag 3],[],0⟩=
  let c1:Int:=(↑(1:Nat):Int);some (aj [nl 3<2^40,(0:Int)<1000000000,(1000000000:Int)<2^32] (aj [(10:Int)≠(0:Int),(0:Nat)<1/\1*((1:Nat)+1)*2<=2^47] (aj [(10:Int)≠(0:Int)] (aj [(0:Int)<=c1/\c1<=c1/\c1<=2^47/\c1*c1<=2^47] (leaf ret [str [UInt8.ofNat (u8.wrap (u32.wrap ((48:Int)+(↑((3:Nat)%Int.toNat (1000000000:Int)):Int).tmod (10:Int)))).toNat]]))))):=ag
theorem ajm:bU T wF [] 60 mG (ay mG) ⟨aP 0 [.mag 4],[],0⟩=
  let c1:Int:=(↑(1:Nat):Int);some (aj [nl 4<2^40,(0:Int)<1000000000,(1000000000:Int)<2^32] (aj [(10:Int)≠(0:Int),(0:Nat)<1/\1*((1:Nat)+1)*2<=2^47] (aj [(10:Int)≠(0:Int)] (aj [(0:Int)<=c1/\c1<=c1/\c1<=2^47/\c1*c1<=2^47] (leaf ret [str [UInt8.ofNat (u8.wrap (u32.wrap ((48:Int)+(↑((4:Nat)%Int.toNat (1000000000:Int)):Int).tmod (10:Int)))).toNat]]))))):=ag
theorem amn:bU T DH [] 60 qC (ay qC) ⟨aP 0 [.agg [.bool false,.mag 1,.mag 4]],[],0⟩=
  some (leaf ret [str [(49:UInt8),(47:UInt8),(52:UInt8)]]):=ag
theorem alv:bu P wF:=j7 (aI Nc bz)
theorem ajD:aW P Oz FF:=by
 refine cJ fun K args r hk hs _=>?_
 have fin:∀{N:Nat} {t:ah (List AV)} {l:List UInt8},bU T wF [] 60 mG (ay mG) ⟨aP 0 [.mag N],[],0⟩=some t->(t.all fun _ us=>fj us (.str l))->aQ P FF K [.mag N] [] (aJ (.str l) []):=fun h1 h2=>
  bZ (r:=aJ _ []) hT alv hm Zw rfl aX rfl 60 h1 (fun _=>h2) K []
 split at hs<;>simp only[az,reduceCtorEq]at hs
 all_goals subst hs
 ·exact fin ani (by simp only[ah.all,aA];exact⟨by decide,by decide,by decide,by decide,.refl _⟩)
 ·exact fin anD (by simp only[ah.all,aA];exact⟨by decide,by decide,by decide,by decide,.refl _⟩)
 ·exact fin als (by simp only[ah.all,aA];exact⟨by decide,by decide,by decide,by decide,.refl _⟩)
 ·exact fin ajm (by simp only[ah.all,aA];exact⟨by decide,by decide,by decide,by decide,.refl _⟩)
theorem amF:bu P DH:=j7 (aI ajD bz)
theorem Kn.congr {n p:Nat} {k k':Nat->Rat} (h:Kn n p k) (e:∀i,i<n->k i=k' i):Kn n p k':=by
 have hp:=h.p1
 have hl:=h.len
 refine⟨h.p1,h.len,fun i hi=>?_,fun i hi=>?_,fun i h1 h2=>?_,fun i h1 h2=>?_⟩
 ·rw[<-e i aa,<-e (i+1) hi];exact h.sorted i hi
 ·rw[<-e i aa,<-e 0 aa];exact h.first i hi
 ·rw[<-e i h2,<-e (n-1) aa];exact h.last i h1 h2
 ·rw[<-e i aa,<-e (i+p) aa];exact h.mult i h1 h2
def RO:bf:=[(Zs,iz T (sG::nr) [] 60 afM),(ad5,iz T (sG::nr) [] 60 aju),(YH,iz T (sG::nr) [100010,100017] 60 aiJ)]
theorem agb:bu P RO:=aI (iU hT (j7 oy) hm (aU Proofs.Tryz.func291 ag ag ag) _ _) (aI (iU hT (j7 oy) hm (aU Proofs.Tryz.func294 ag ag ag) _ _) (aI (iU hT (j7 oy) hm (aU Proofs.Tryz.func57 ag ag ag) _ _) bz))
theorem ZK:aT P I8 CR (ay CR):=aU Proofs.Tryz.func169 ag ag ag
def OD:bf:=[(tG,jD uF),(KZ,jD Jb),(qd,yL)]
def oY (n:Nat) (f:Nat->AV) (a:Int) (b:Bool):Pl:=⟨⟨gx n f a,gx n f (gM n f a),if b=true then 0 else gx n f (gM n f (gM n f a))⟩,((1+cF n f (jk n f a) 3:Int):Rat)⟩
def J5 (n:Nat) (f:Nat->AV) (a:Int):Int:=aR n (jk n f a)
def Il (n:Nat) (f:Nat->AV) (a:Int) (l:List AV):Option (AV×Int×List Prop):=match l with
 |[.bool b]=>some (bh (oY n f a b) 64,J5 n f a,[])
 |_=>none
theorem aeF {n:Nat} {z:Nat->Int} {a:Int} {b:Bool}:uQ T OD [8] 60 CR (ay CR) ⟨aP 0 [.ptr 0 0 2 0 [],.bool b],[(0,mL n z a)],1⟩=
  let c9:Int:=gM n (fun i=>int i64 (z i)) a;let c8:AV:=rat (gx n (fun i=>int i64 (z i)) a) 64;let c6:Int:=jk n (fun i=>int i64 (z i)) a;let c4:Prop:=0<1;let c5:AV:=rat (gx n (fun i=>int i64 (z i)) c9) 64;let c3:Option ak:=some (ak.mk false true 2 1 fun x=>agg [aq 1 n fun i=>int i64 (z i),int i64 (aR n c6)]);let c1:Int:=i64.wrap ((1:Int)+(cF n (fun i=>int i64 (z i)) c6 (3:Int)).tmod (3:Int));let c7:AV:=rat (↑c1:Rat) (Max.max 1 (bQ c1.natAbs));let c2:List Prop:=[c4,dj n (fun i=>int i64 (z i)) c6,(0:Int)<3,(3:Int)<2^62,(3:Int)≠(0:Int),-(2:Int)^63<=c1,c1<2^63,c4];some (aj [dj n (fun i=>int i64 (z i)) a,c4] (fork b (aj [(0:Int)<=2/\(2:Int)<(↑(3:Nat):Int),c4] (aj c2 (aj [c4] (leaf ret ([agg [agg [c8,c5,agg [AV.bool false,mag 0,mag 0]],c7]],c3))))) (aj c2 (aj [c4] (leaf ret ([agg [agg [c8,c5,rat (gx n (fun i=>int i64 (z i)) (gM n (fun i=>int i64 (z i)) c9)) 64],c7]],c3)))))):=ag
theorem aor:bu P OD:=aI BK (aI afi (aI Cw bz))
theorem anh:aW P (jD Il) I8:=by
 refine wN fun {k n z a l v b q o} K hg ho hd hq=>?_
 unfold Il at hg
 split at hg
 ·rename_i b
  simp only[az,Prod.mk.injEq]at hg
  obtain⟨rfl,rfl,rfl⟩:=hg
  refine Gm hT aor hm ZK rfl rfl aX ho 60 aeF (fun _=>?_) K
  have a1:=gC (n:=n) (f:=fun i=>.int .i64 (z i)) (a:=jk n (fun i=>.int .i64 (z i)) a) (m:=3) aa
  have a2:=gH (n:=n) (f:=fun i=>.int .i64 (z i)) (a:=jk n (fun i=>.int .i64 (z i)) a) (m:=3) aa
  unfold oY
  generalize cF n (fun i=>.int .i64 (z i)) (jk n (fun i=>.int .i64 (z i)) a) 3=x at*
  have e1:x.tmod 3=x:=by rw[Int.tmod_eq_of_lt a1 a2]
  have e2:i64.wrap (1+x)=1+x:=wrap_i64 aa aa
  simp only[ah.all,aA,e1,e2]
  have hw:bN (.rat ((1+x:Int):Rat) (max 1 (bQ (1+x).natAbs))) (.rat ((1+x:Int):Rat) 64):=dn rfl (OJ (y:=0) aa aa)
  refine⟨⟨hd,aa⟩,fun hb=>⟨aa,⟨aa,hd.L9,aa,aa,aa,aa,aa,aa⟩,aa,?_,_,rfl,rfl,pI rfl rfl⟩,fun hb=>⟨⟨aa,hd.L9,aa,aa,aa,aa,aa,aa⟩,aa,?_,_,rfl,rfl,pI rfl rfl⟩⟩
  ·rw[if_pos hb]
   exact b7 ⟨b7 ⟨.refl _,.refl _,tH (q:=(0:Rat)) ⟨by decide,by decide⟩ rfl rfl rfl,trivial⟩,hw,trivial⟩
  ·rw[if_neg (by rw[hb];decide)]
   exact b7 ⟨.refl _,hw,trivial⟩
 ·simp at hg
def jP (n:Nat) (f:Nat->AV) (a:Int):Nat->Int
 |0=>a
 |j+1=>J5 n f (jP n f a j)
theorem dj.yC {n:Nat} {f:Nat->AV} {a:Int} (h:dj n f a):∀j,dj n f (jP n f a j)
 |0=>h
 |j+1=>(h.yC j).L9.next
theorem dj.gb {n:Nat} {f:Nat->AV} {a:Int} {p m:Nat} (h:dj n f a) (hp:1<=p):dj n f (fH n f a p m):=(sS h hp _).2
theorem uK {n:Nat} {f:Nat->AV} {a:Int} {m:Nat}:g9 n f a m<=m:=by
 have h1:=gC (n:=n) (f:=f) (a:=aR n a) (m:=m+1) aa
 have h2:=gH (n:=n) (f:=f) (a:=aR n a) (m:=m+1) aa
 unfold g9;omega
def QV:bf:=[(aed,iz T (sG::vU) [] 60 Z4)]
def Si:bf:=[(adr,iz T (sG::QV) [] 60 aaO)]
def QA:bf:=[(adX,iz T (sG::vU) [] 60 adj)]
theorem afv:bu P QV:=aI (iU hT (j7 xO) hm (aU Proofs.Tryz.func261 ag ag ag) _ _) bz
theorem aly:bu P Si:=aI (iU hT (j7 afv) hm (aU Proofs.Tryz.func207 ag ag ag) _ _) bz
theorem aaf:bu P QA:=aI (iU hT (j7 xO) hm (aU Proofs.Tryz.func77 ag ag ag) _ _) bz
theorem adU:aT P kQ D5 (ay D5):=aU Proofs.Tryz.func163 ag ag ag
theorem Oi:aT P Df Hg (ay Hg):=aU Proofs.Tryz.func162 ag ag ag
theorem RR:aT P Mk mz (ay mz):=aU Proofs.Tryz.func58 ag ag ag
structure lV (s:Sf):Prop where
 ku:∀i,i<s.a->Sz (s.ku i) 2000
 kv:∀i,i<s.b->Sz (s.kv i) 2000
 x:∀i j,i<s.n->j<s.m->Sz (s.f i j).n.x 2000
 y:∀i j,i<s.n->j<s.m->Sz (s.f i j).n.y 2000
 z:∀i j,i<s.n->j<s.m->Sz (s.f i j).n.z 2000
 d:∀i j,i<s.n->j<s.m->Sz (s.f i j).d 2000
theorem lV.up {s:Sf} {x y:Nat} (h:lV s):bN (aZ s x y) (aZ s 2000 2000):=
 b7 ⟨.refl _,.refl _,dS fun i hi=>dn rfl (h.ku i hi),dS fun i hi=>dn rfl (h.kv i hi),dS fun i hi=>dS fun j hj=>b7 ⟨b7 ⟨dn rfl (h.x i j hi hj),dn rfl (h.y i j hi hj),dn rfl (h.z i j hi hj),trivial⟩,dn rfl (h.d i j hi hj),trivial⟩,trivial⟩
theorem lV.swap {s:Sf} (h:lV s):lV (ct s):=⟨h.kv,h.ku,fun i j a b=>h.x j i b a,fun i j a b=>h.y j i b a,fun i j a b=>h.z j i b a,fun i j a b=>h.d j i b a⟩
def UX:bf:=sG::(Si++vU)
def UK:Spec:=cq (kC (RM 2000) kN) (fun a=>bh a.1 2100) fun _=>[]
def tf:bf:=nG::(kQ,UK)::(vu,F3 2000 2100)::[]
abbrev uy:List Nat:=[4,5,1,23,24,25]
abbrev Dy (s:Sf) (i:Nat):List AV:=[.ptr 0 0 5 0 [],.ptr 1 0 5 0 [],.func kQ [],hU s.f s.n s.m 2000,.int .i64 s.n,.int .i64 i]
abbrev Bt:List Nat:=[4,5,1,23,24,25,8,29,30,31]
abbrev Kq (s:Sf) (i j:Nat):List AV:=[.ptr 0 0 5 0 [],.ptr 1 0 5 0 [],.func kQ [],hU s.f s.n s.m 2000,.int .i64 s.n,.int .i64 i,.own 3 12 0 j,bH (s.f i) s.m 2000,.int .i64 s.m,.int .i64 j]
abbrev Aj (s:Sf) (i:Nat):aE:=[(2,⟨true,true,1,i,fun i=>bH (s.f i) s.m 2100⟩),(1,⟨false,true,5,1,fun _=>.agg [.int .i64 s.u,.int .i64 s.v,br s.ku s.a 2100,br s.kv s.b 2100,.own 2 1 0 i]⟩),(0,⟨false,true,5,1,fun _=>.agg [.int .i64 0,.int .i64 0,.nil,.nil,.nil]⟩)]
abbrev H6 (s:Sf) (i j:Nat):aE:=(3,⟨true,true,12,j,fun j=>bh (s.f i j) 2100⟩)::Aj s i
abbrev xP:Code:=ay Hg
abbrev A6:Code:=part xP [1,1,0,1,0,0]
abbrev z8:Code:=part A6 [1,1,0,0]
def PC:Spec:=cq (kC (gy 2000 2000) (kC (kF kQ) kN)) (fun a=>aZ a.1 2100 2100) fun a=>[a.1.a<2^28,a.1.b<2^28,a.1.n<2^28,a.1.m<2^28]
def BU:bf:=nG::(BT,Kh)::(Df,PC)::(ua,EB)::[]
def UA:Spec:=cq (kC (gy 2000 2000) kN) (fun a=>aZ (ct a.1) 2000 2000) fun a=>[a.1.n=0->a.1.m=0,a.1.a<2^28,a.1.b<2^28,a.1.n<2^28,a.1.m<2^28,lV a.1]
theorem abt {p:Pl}:bU T UX [] 60 D5 (ay D5) ⟨aP 0 [bh p 2000],[],0⟩=
  let c1:Prop:=0<1;some (aj [c1,c1] (aj [c1] (leaf ret [agg [agg [rat (p.n.x+0) 2002,rat (p.n.y+0) 2002,rat (p.n.z+0) 2002],rat (p.d+0) 2002]]))):=ag
theorem Zk {s:Sf}:aG T tf [] 60 uy (before xP [1,1,0,1]) ⟨aP 0 [aZ s 2000 2000,.func kQ []],[],0⟩=
  let c5:AV:=int i64 0;let c4:Prop:=2000+10<=2100;let c3:Nat:=2^40;let c2:Prop:=0<1;let c1:AV:=agg [c5,c5,nil,nil,nil];some (aj [c2,c2,c2,bt (fun i=>rat (s.ku i) 2000) s.a 2000,c4,(2100:Nat)<c3,s.a<c3,c2,bt (fun i=>rat (s.kv i) 2000) s.b 2000,c4,(2100:Nat)<c3,s.b<c3,c2] (aj [c2] (leaf normal ([ptr 4096 0 5 0 [],ptr 53248 0 5 0 [],func kQ [],aq 1 s.n fun i=>aq 12 s.m fun i_1=>bh (s.f i i_1) 2000,int i64 (↑s.n:Int),c5],[(53248,ak.mk false true 5 1 fun j=>if(j==0)=true then aV (agg ((((c1.kids.set 0 (aV (int i64 s.u))).set 1 (aV (int i64 s.v))).set 2 (aV (br (fun i=>aL (rat (s.ku i) 2000)) s.a 2100))).set 3 (aV (br (fun i=>aL (rat (s.kv i) 2000)) s.b 2100))))else c1),(4096,ak.mk false true 5 1 fun x=>c1)])))):=ag
theorem akK {s:Sf} {i:Nat}:aG T tf [26] 60 uy (before A6 [1,1,0]) ⟨aB uy (Dy s i),Aj s i,3⟩=
  let c1:List AV×aE:=([ptr 0 0 5 0 [],ptr 1 0 5 0 [],func kQ [],aq 1 s.n fun i=>aq 12 s.m fun i_1=>bh (s.f i i_1) 2000,int i64 (↑s.n:Int),int i64 (↑i:Int)],[(2,ak.mk true true 1 i fun i=>aq 12 s.m fun i_1=>bh (s.f i i_1) 2100),(1,ak.mk false true 5 1 fun x=>agg [int i64 s.u,int i64 s.v,aq 3 s.a fun i=>rat (s.ku i) 2100,aq 3 s.b fun i=>rat (s.kv i) 2100,own 2 1 0 i]),(0,ak.mk false true 5 1 fun x=>agg [int i64 0,int i64 0,nil,nil,nil])]);some (fork (decide ((↑i:Int)<(↑s.n:Int))) (leaf normal c1) (leaf (exit 0) c1)):=ag
theorem YW {s:Sf} {i:Nat}:aG T tf [] 60 Bt (before z8 [1,1,0,1]) ⟨aB uy (Dy s i),Aj s i,3⟩=
  let c2:AV:=int i64 0;let c1:Nat:=(↑i:Int).toNat;some (aj [(0:Int)<=(↑i:Int)/\c1<s.n] (leaf normal ([ptr 0 0 5 0 [],ptr 1 0 5 0 [],func kQ [],aq 1 s.n fun i=>aq 12 s.m fun i_1=>bh (s.f i i_1) 2000,int i64 (↑s.n:Int),int i64 (↑i:Int),nil,aq 12 s.m fun i=>bh (s.f c1 i) 2000,int i64 (↑s.m:Int),c2],[(2,ak.mk true true 1 i fun i=>aq 12 s.m fun i_1=>bh (s.f i i_1) 2100),(1,ak.mk false true 5 1 fun x=>agg [int i64 s.u,int i64 s.v,aq 3 s.a fun i=>rat (s.ku i) 2100,aq 3 s.b fun i=>rat (s.kv i) 2100,own 2 1 0 i]),(0,ak.mk false true 5 1 fun x=>agg [c2,c2,nil,nil,nil])]))):=ag
theorem Z9 {s:Sf} {i j:Nat}:aG T tf [32] 60 Bt [part z8 [1,1,0,1,0,0]] ⟨aB Bt (Kq s i j),H6 s i j,4⟩=
  let c11:Prop:=2000<=2000;let c10:Int:=(↑s.m:Int);let c8:AV:=ptr 1 0 5 0 [];let c7:AV:=ptr 0 0 5 0 [];let c6:AV:=rat 0 1;let c5:Int:=(↑j:Int);let c4:AV:=aq 12 s.m fun i_1=>bh (s.f i i_1) 2000;let c3:AV:=aq 1 s.n fun i=>aq 12 s.m fun i_1=>bh (s.f i i_1) 2000;let c2:Nat×ak:=(2,ak.mk true true 1 i fun i=>aq 12 s.m fun i_1=>bh (s.f i i_1) 2100);let c1:List (Nat×ak):=[(1,ak.mk false true 5 1 fun x=>agg [int i64 s.u,int i64 s.v,aq 3 s.a fun i=>rat (s.ku i) 2100,aq 3 s.b fun i=>rat (s.kv i) 2100,own 2 1 0 i]),(0,ak.mk false true 5 1 fun x=>agg [int i64 0,int i64 0,nil,nil,nil])];let c12:Int:=c5+1;let c9:Pl:=s.f i c5.toNat;some (fork (decide (c5<c10)) (aj [(0:Int)<=c5/\c5.toNat<s.m,(0:Nat)<1] (aj [(0:Nat)<1,c11,c11,Max.max 2000 2000<=2000,(1:Nat)*12<=2^24,(j+1)*((224:Nat)+1)*2<=2^47] (aj [-(2:Int)^63<=c12/\c12<2^63] (leaf normal ([c7,c8,func kQ [],c3,int i64 (↑s.n:Int),int i64 (↑i:Int),own 40964 12 0 (j+1),c4,int i64 c10,int i64 c12],c2::(40964,ak.mk true true 12 (j+1) fun i_1=>if i_1<j then bh (s.f i i_1) 2100 else nth [bh c9 2100] (agg [agg [c6,c6,c6],c6]) (i_1-j+0))::c1))))) (leaf (exit 2) ([c7,c8,func kQ [],c3,int i64 (↑s.n:Int),int i64 (↑i:Int),own 3 12 0 j,c4,int i64 c10,int i64 c5],c2::(3,ak.mk true true 12 j fun j=>bh (s.f i j) 2100)::c1))):=ag
theorem X0 {s:Sf} {i j:Nat}:aG T tf [] 60 uy (behind z8 [1,1,0,1]++[part A6 [1,1,1]]) ⟨aB Bt (Kq s i j),H6 s i j,4⟩=
  let c2:Int:=(↑i:Int)+1;let c1:AV:=agg [int i64 s.u,int i64 s.v,br s.ku s.a 2100,br s.kv s.b 2100,own 2 1 0 i];some (aj [(0:Nat)<1,(1:Nat)*1<=2^24,(i+1)*((24:Nat)+1)*2<=2^47,(0:Nat)<1] (aj [-(2:Int)^63<=c2/\c2<2^63] (leaf normal ([ptr 0 0 5 0 [],ptr 1 0 5 0 [],func kQ [],aq 1 s.n fun i=>aq 12 s.m fun i_1=>bh (s.f i i_1) 2000,int i64 (↑s.n:Int),int i64 c2],[(16388,ak.mk true true 1 (i+1) fun i_1=>if i_1<i then bH (s.f i_1) s.m 2100 else nth [aq 12 j fun i_2=>bh (s.f i (i_2+0)) 2100] nil (i_1-i+0)),(1,ak.mk false true 5 1 fun j=>if(j==0)=true then agg (c1.kids.set 4 (aV (own (nat_lit 16387+1) 1 0 (i+1))))else c1),(0,ak.mk false true 5 1 fun x=>agg [int i64 0,int i64 0,nil,nil,nil])])))):=ag
theorem aaa {s:Sf} {i:Nat}:cj T tf [] 60 Hg [part xP [1,1,1]] ⟨aB uy (Dy s i),Aj s i,3⟩=
  let c1:Prop:=0<1;some (aj [c1,c1] (aj [c1] (leaf ret [agg [int i64 s.u,int i64 s.v,aq 3 s.a fun i=>rat (s.ku i) 2100,aq 3 s.b fun i=>rat (s.kv i) 2100,aq 1 i fun i=>aq 12 s.m fun i_1=>bh (s.f (i+0) i_1) 2100]]))):=ag
theorem aiw {s:Sf}:aG T BU [] 60 [1,2] (before (ay mz) [1]) ⟨aP 0 [aZ s 2000 2000],[],0⟩=
  let c1:Nat:=(aV (aZ s 2000 2000)).size;some (leaf normal ([ptr 0 0 c1 0 [],ptr 4096 0 5 0 []],[(4096,ak.mk false true 5 1 fun x=>agg [int i64 0,int i64 0,nil,nil,nil]),(0,ak.mk false true c1 1 fun x=>aZ s 2000 2000)])):=ag
theorem ahe {s:Sf}:cj T BU [100008] 60 mz [part (ay mz) [1]] ⟨aB [1,2] [.b6 (aZ s 2000 2000),.ptr 1 0 5 0 []],[(1,⟨false,true,5,1,fun _=>.agg [.int .i64 0,.int .i64 0,.nil,.nil,.nil]⟩),(0,⟨false,false,5,1,fun _=>aZ s 2000 2000⟩)],2⟩=
  let c5:Prop:=ec (fun i=>bH (s.f i) s.m 2000) s.n sJ;let c3:Prop:=0<1;let c2:Nat:=2^28;let c1:Nat:=fW (bH (s.f 0) s.m 2000);let c4:Nat:=fW (bH (jo (fun i=>bH (s.f i) s.m 2000) 0) c1 2100);some (aj [decide ((↑s.n:Int)>0)=true,c5,bt (fun i=>rat (s.ku i) 2000) s.a sJ,bt (fun i=>rat (s.kv i) 2000) s.b sJ,c5,s.n<2^40,wm c1 qo (Sf.mk s.u s.v s.a (fun i=>aL (rat (s.ku i) 2000)) s.b (fun i=>aL (rat (s.kv i) 2000)) s.n c1 (jo fun i=>bH (s.f i) s.m 2000))] (aj [bt (fun i=>rat (s.ku i) 2000) s.a 2000,bt (fun i=>rat (s.kv i) 2000) s.b 2000,ec (fun i=>bH (s.f i) s.m 2000) s.n 2000,s.a<c2,s.b<c2,s.n<c2,c1<c2,c3] (aj [c3,c3,c3,ec (fun i=>bH (jo (fun i=>bH (s.f i) s.m 2000) i) c1 2100) s.n 2100,s.n=0->c4=0,s.n<c2,c4<c2,c3] (aj [c3] (leaf ret [agg [int i64 s.v,int i64 s.u,aq 3 s.b fun i=>rat (aL (rat (s.kv i) 2000)) 2100,aq 3 s.a fun i=>rat (aL (rat (s.ku i) 2000)) 2100,aq 1 c4 fun i=>aq 12 s.n fun i_1=>agg [agg [rat (aL (rat (aL (rat (s.f i_1 i).n.x 2000)) 2100)) 2100,rat (aL (rat (aL (rat (s.f i_1 i).n.y 2000)) 2100)) 2100,rat (aL (rat (aL (rat (s.f i_1 i).n.z 2000)) 2100)) 2100],rat (aL (rat (aL (rat (s.f i_1 i).d 2000)) 2100)) 2100]]]))))):=ag
theorem ace {s:Sf}:cj T BU [200008] 60 mz [part (ay mz) [1]] ⟨aB [1,2] [.b6 (aZ s 2000 2000),.ptr 1 0 5 0 []],[(1,⟨false,true,5,1,fun _=>.agg [.int .i64 0,.int .i64 0,.nil,.nil,.nil]⟩),(0,⟨false,false,5,1,fun _=>aZ s 2000 2000⟩)],2⟩=
  let c4:Nat:=fW (bH (s.f 0) s.m 2000);let c3:Prop:=0<1;let c2:Nat:=2^28;let c1:Nat:=fW (bH (jo (fun i=>bH (s.f i) s.m 2000) 0) c4 2100);some (aj [decide ((↑s.n:Int)>0)=false] (aj [bt (fun i=>rat (s.ku i) 2000) s.a 2000,bt (fun i=>rat (s.kv i) 2000) s.b 2000,ec (fun i=>bH (s.f i) s.m 2000) s.n 2000,s.a<c2,s.b<c2,s.n<c2,c4<c2,c3] (aj [c3,c3,c3,ec (fun i=>bH (jo (fun i=>bH (s.f i) s.m 2000) i) c4 2100) s.n 2100,s.n=0->c1=0,s.n<c2,c1<c2,c3] (aj [c3] (leaf ret [agg [int i64 s.v,int i64 s.u,aq 3 s.b fun i=>rat (aL (rat (s.kv i) 2000)) 2100,aq 3 s.a fun i=>rat (aL (rat (s.ku i) 2000)) 2100,aq 1 c1 fun i=>aq 12 s.n fun i_1=>agg [agg [rat (aL (rat (aL (rat (s.f i_1 i).n.x 2000)) 2100)) 2100,rat (aL (rat (aL (rat (s.f i_1 i).n.y 2000)) 2100)) 2100,rat (aL (rat (aL (rat (s.f i_1 i).n.z 2000)) 2100)) 2100],rat (aL (rat (aL (rat (s.f i_1 i).d 2000)) 2100)) 2100]]]))))):=ag
theorem aiG:bu P UX:=j7 (s8 aly xO)
theorem amv:aW P UK kQ:=ck fun⟨p,_⟩ K _=>by
 refine bZ (r:=aJ (bh p 2100) []) hT aiG hm adU rfl aX rfl 60 (abt (p:=p)) (fun _=>?_) K []
 simp only[ah.all,aA]
 exact⟨⟨aa,aa⟩,aa,b7 ⟨b7 ⟨bO (Rat.add_zero _) (by decide),bO (Rat.add_zero _) (by decide),bO (Rat.add_zero _) (by decide),trivial⟩,bO (Rat.add_zero _) (by decide),trivial⟩⟩
theorem S9:bu P tf:=cz (aI amv (aI (HF _ _) bz))
theorem VU {s:Sf} (h1:s.a<2^28) (h2:s.b<2^28) (h3:s.n<2^28) (h4:s.m<2^28) (K:Nat):aQ P Df K [aZ s 2000 2000,.func kQ []] [] (aJ (aZ s 2100 2100) []):=by
 refine fc (r:=aJ (aZ s 2100 2100) []) hT Oi rfl aX rfl (fun _ cx h00=>?_) K []
 have hk:=gV h00
 have hv:∀{rl:List (Nat×Nat)} {a l:Nat} {u:AV},u.isTuple=false->fR (bp rl) u (.own 2 1 0 l)->eZ rl (.agg [.int .i64 s.u,.int .i64 s.v,br s.ku s.a 2100,br s.kv s.b 2100,u]) (.agg [.int .i64 s.u,.int .i64 s.v,br s.ku s.a 2100,br s.kv s.b 2100,.own 2 1 0 l]):=
  fun h5 h6=>gz ⟨aM,aM,aM,aM,⟨h5,h6⟩,trivial⟩
 refine au.wR hT S9 hm (x:=xP) [1,1,0,1] (i:=0) (y:=A6) (z:=part xP [1,1,1]) ag ag ag Oi.dst [1,1,0] (j:=1) (x1:=z8) (zb:=part A6 [1,1,1]) ag ag ag [1,1,0,1] (i2:=2) (y2:=part z8 [1,1,0,1,0,0]) ag ag rfl
  hk (f1:=[]) (f2:=[26]) (f3:=[]) (f4:=[32]) (f5:=[]) 60 uy Bt 3 4 (fun i:Nat=>Dy s i) (fun i=>Aj s i) (fun i=>i<=s.n) (fun i=>i=s.n) (fun i=>s.n-i) (fun i=>i<s.n) (fun _=>False) (fun _=>False)
  (fun i (j:Nat)=>Kq s i j) (fun i j=>H6 s i j) (fun _ j=>j<=s.m) (fun _ j=>j=s.m) (fun _ j=>s.m-j) ⟨_,Zk,?_⟩ (fun i hi=>⟨_,akK,?_⟩) (fun i hi hg=>⟨_,YW,?_⟩) (fun i hi hg j hj=>⟨_,Z9,?_⟩) (fun i hi hg j hj=>⟨_,X0,?_⟩) (fun i hi=>?_) (fun _ _ h=>h.elim) (fun _ _ h=>h.elim)
 all_goals try simp only[ah.all,aA,bq,bw,bn,Nat.add_zero]
 ·exact⟨⟨aa,aa,aa,bP aY,aa,aa,aa,aa,bP aY,aa,aa,aa,aa⟩,aa,0,Nat.zero_le _,[(0,4096),(1,53248)],rfl,rfl,rfl,fV rfl aa aa (bG rfl rfl (hv (a:=0) rfl (jd aa)) (aC trivial))⟩
 ·exact⟨fun h=>⟨aa,[(0,0),(1,1),(2,2)],rfl,rfl,rfl,bk (bG rfl rfl (hv (a:=0) rfl (bW rfl rfl rfl)) (aC trivial))⟩,fun h=>⟨rfl,i,aa,[(0,0),(1,1),(2,2)],rfl,rfl,rfl,bk (bG rfl rfl (hv (a:=0) rfl (bW rfl rfl rfl)) (aC trivial))⟩⟩
 ·exact⟨aa,0,Nat.zero_le _,[(0,0),(1,1),(2,2)],rfl,rfl,rfl,fV rfl aa aa (bk (bG rfl rfl (hv (a:=0) rfl (bW rfl rfl rfl)) (aC trivial)))⟩
 ·refine⟨fun h=>⟨⟨aa,aa⟩,⟨aa,aa,aa,by decide,aa,aa⟩,aa,j+1,aa,by dsimp only;omega,[(0,0),(1,1),(2,2),(3,40964)],rfl,rfl,rfl,bJ rfl rfl rfl (fun k hk=>vT (y:=fun j=>s.f i j) (fun _ _=>rfl) (.refl _) rfl aY aY hk) (bk (bG rfl rfl (hv (a:=0) rfl (bW rfl rfl rfl)) (aC trivial)))⟩,
   fun h=>⟨rfl,j,aa,[(0,0),(1,1),(2,2),(3,3)],rfl,rfl,rfl,bk (bk (bG rfl rfl (hv (a:=0) rfl (bW rfl rfl rfl)) (aC trivial)))⟩⟩
 ·subst hj
  exact⟨⟨aa,aa,aa,aa⟩,aa,i+1,aa,by dsimp only;omega,[(0,0),(1,1),(2,16388)],rfl,rfl,rfl,bJ rfl rfl rfl (fun k hk=>rowAt (g:=fun i=>bH (s.f i) s.m 2100) hk rfl rfl) (bG rfl rfl (hv (a:=0) rfl (bW rfl rfl rfl)) (aC trivial))⟩
 ·subst hi
  refine au.gr ((aH.fin hT S9 hm 60 aaa ag ?_).mono fun _ _ h=>.inl h)
  simp only[ah.all,aA]
  exact⟨⟨aa,aa⟩,aa,.refl _⟩
theorem W9:aW P PC Df:=ck fun⟨s,_,_⟩ K hn=>VU hn.1 hn.2.1 hn.2.2.1 hn.2.2.2 K
theorem I5:bu P BU:=cz (aI OS (aI W9 (aI JH bz)))
theorem ahm:aW P UA Mk:=ck fun⟨s,_⟩ K hn=>by
 obtain⟨n1,n2,n3,n4,n5,n6⟩:(s.n=0->s.m=0)/\s.a<2^28/\s.b<2^28/\s.n<2^28/\s.m<2^28/\lV s:=hn
 refine fc (r:=aJ (aZ (ct s) 2000 2000) []) hT RR rfl aX rfl (fun _ cx h00=>?_) K []
 have hk:=gV h00
 refine au.hole [1] ag (aH.bC hT I5 hm 60 [1,2] aiw (mS RR.dst) ?_)
 intro s' hs'
 show au _ _ _ (part (ay mz) [1]) s' _
 rw[show behind (ay mz) [1]=[]from by kernel_rfl]
 refine au.jn (s2:=⟨aB [1,2] [.ptr 0 0 5 0 [],.ptr 1 0 5 0 []],[(1,⟨false,true,5,1,fun _=>.agg [.int .i64 0,.int .i64 0,.nil,.nil,.nil]⟩),(0,⟨false,true,5,1,fun _=>aZ s 2000 2000⟩)],2⟩) (cU.le ⟨[(0,0),(1,4096)],rfl,rfl,rfl,aC (aC trivial)⟩ hs' hk) ((?_:au P cx mz.ntmps (part (ay mz) [1]) _ (eo cx (Fin T mz (aZ (ct s) 2000 2000)))).mono fun e s' h=>by cases e<;>exact h)
 refine au.L4 (t:=1) (k:=0) rfl rfl rfl rfl rfl ?_
 have lv:fW (bH (s.f 0) s.m 2000)=s.m:=rfl
 have lv2:fW (bH (jo (fun i=>bH (s.f i) s.m 2000) 0) s.m 2100)=s.m:=rfl
 rcases Nat.eq_zero_or_pos s.n with h0|h0
 ·refine au.gr ((aH.fin hT I5 hm 60 ace ag ?_).mono fun _ _ h=>.inl h)
  simp only[ah.all,aA,lv,lv2]
  (repeat' with_reducible refine And.intro ?_ ?_)
  all_goals first|omega|exact decide_eq_false aa|exact bP (by decide)|exact gh (by decide)|skip
  exact n6.swap.up (x:=2100) (y:=2100)
 refine au.gr ((aH.fin hT I5 hm 60 ahe ag ?_).mono fun _ _ h=>.inl h)
 simp only[ah.all,aA,lv,lv2]
 (repeat' with_reducible refine And.intro ?_ ?_)
 all_goals first|omega|exact decide_eq_true aa|exact bP (by decide)|exact gh (by decide)|exact .inr ⟨rfl,rfl,h0⟩|skip
 exact n6.swap.up (x:=2100) (y:=2100)
theorem gd.swap {s:Sf} (h:gd s):gd (ct s):=⟨h.kv,h.ku,h.v0,h.v6,h.u0,h.u6,h.b,h.a,h.m,h.n,fun i j hi hj=>h.w j i hj hi⟩
theorem YL:aT P DJ Mg (ay Mg):=aU Proofs.Tryz.func191 ag ag ag
def lg (f:Nat->Rat) (i m q:Nat):Rat:=if m-1<=q then 0 else if i<=q then f (q+1)else f q
def Ln:Spec:=fun _ args pre=>match args,pre with
 |[.own b 3 0 m,.int .i64 i,.int .i64 j],[(b',⟨true,true,3,mb,fb⟩)]=>match b'==b with
  |true=>some ⟨.own b 3 0 (m-1),[(b,⟨true,true,3,m,fun q=>.rat (lg (fun q=>aL (fb q)) i.toNat m q) 2048⟩)],[mb=m,oS fb m 2048,0<=i,i<m,j=i+1]⟩
  |false=>none
 |_,_=>none
theorem anf {m cap:Nat} {i:Int} {f:Nat->Rat}:aG T [nG] [16] 60 [6] [ay Mg] ⟨[(0,.bM cap (.own 0 3 0 m)),(1,.int .i64 i),(2,.int .i64 (i+1))],[(0,⟨true,true,3,m,fun q=>.rat (f q) 2048⟩)],1⟩=
  let c8:Int:=(↑(0:Nat):Int);let c6:Int:=i+1;let c4:Int:=(↑m:Int);let c3:Nat:=Int.toNat (0:Int);let c7:Nat:=i.toNat-c3;let c1:Nat:=c7+(c4.toNat-c6.toNat);let c9:Int:=(↑c1:Int);let c5:Nat:=0+c9.toNat;let c2:Nat:=c5+(c4.toNat-c9.toNat);some (aj [(0:Int)<=i/\i<=c6/\c6<=c4/\c4<=c4] (fork (i==c6) (leaf ret ([bM cap (own 0 3 0 m)],[(0,ak.mk true true 3 m fun q=>rat (f q) 2048)])) (aj [(0:Int)<=0/\(0:Int)<=i/\i<=(↑cap:Int)/\c8+i<=c4,(0:Int)<=c6/\c6<=c4/\c4<=(↑cap:Int)/\c8+c4<=c4,c1<=cap-c3/\c1<=m] (aj [(0:Int)<=c9/\c9<=c4/\c4<=(↑(cap-c3):Int)/\c8+c4<=c4] (leaf ret ([bM (cap-c3) (own 0 3 0 c1)],[(0,ak.mk true true 3 m fun i=>if c5<=i/\i<c2 then rat 0 1 else if c7<=i/\i<c1 then rat (f (i-c7+((0:Nat)+c6.toNat))) 2048 else rat (f i) 2048)])))))):=ag
theorem agr {b m:Nat} {i:Int} {fb:Nat->AV} (hf:oS fb m 2048) (h0:0<=i) (h1:i<m) (K:Nat):aQ P DJ K [.own b 3 0 m,.int .i64 i,.int .i64 (i+1)] [(b,⟨true,true,3,m,fb⟩)] ⟨jh [.own b 3 0 (m-1)],[(b,⟨true,true,3,m,fun q=>.rat (lg (fun q=>aL (fb q)) i.toNat m q) 2048⟩)],[]⟩:=by
 refine ZD hT YL (rest:=[.int .i64 i,.int .i64 (i+1)]) (ws:=[.own b 3 0 (m-1)]) (o:=⟨true,true,3,m,fun q=>.rat (aL (fb q)) 2048⟩) rfl rfl aX (fun _ ρ=>hf.obj rfl ρ) fun _ c hk=>?_
 refine au.bM (t:=0) rfl fun cap hcap=>?_
 refine au.bC hT (cz bz) hm 60 [6] (anf (m:=m) (cap:=cap) (i:=i) (f:=fun q=>aL (fb q))) ag ?_
 simp only[ah.all,aA,beq_iff_eq,beq_eq_false_iff_ne,ne_eq]
 refine⟨⟨aa,aa,aa,aa⟩,fun h=>absurd h aa,fun _=>⟨⟨⟨aa,aa,aa,aa⟩,⟨aa,aa,aa,aa⟩,⟨aa,aa⟩⟩,⟨aa,aa,aa,aa⟩,fun s' hs'=>⟨.inr trivial,[6],_,[.bM (cap-Int.toNat 0) (.own 0 3 0 (i.toNat-Int.toNat 0+((m:Int).toNat-(i+1).toNat)))],[],_,_,hs',ag,trivial,⟨⟨rfl,aos rfl (bW (by simp[bp,look]) rfl aa)⟩,trivial⟩,nS,jl rfl fun q hq=>?_⟩⟩⟩
 have hq:q<m:=hq
 have e0:Int.toNat 0=0:=rfl
 have e1:i.toNat-Int.toNat 0+((m:Int).toNat-(i+1).toNat)=m-1:=aa
 refine mZ (nQ rfl (nQ rfl rfl)) ?_
 simp only[e1]
 unfold lg
 by_cases c1:m-1<=q
 ·rw[if_pos c1,if_pos aa];exact bO rfl (by decide)
 ·rw[if_neg c1,if_neg aa]
  by_cases c2:i.toNat<=q
  ·rw[if_pos c2,if_pos aa,show q-(i.toNat-Int.toNat 0)+(0+(i+1).toNat)=q+1 by omega];exact .refl _
  ·rw[if_neg c2,if_neg aa];exact .refl _
theorem an8:aW P Ln DJ:=by
 intro K args pre r h
 unfold Ln at h
 split at h
 ·rename_i b m i j b' mb fb
  split at h
  ·rename_i hc
   have hc:=eq_of_beq hc
   subst hc
   simp only[az]at h
   subst h
   intro need
   obtain⟨rfl,n1,n2,n3,rfl⟩:=need
   exact agr n1 n2 n3 K trivial
  ·simp at h
 ·simp at h
def ey (k:Nat->Rat) (j:Nat):Nat->Int
 |0=>-1
 |l+1=>if k (j+l)=k (j+l+1)then ey k j l else(j+l:Nat)
theorem Qw {k:Nat->Rat} {j:Nat}:∀{l:Nat},k j≠k (j+l)->∃P:Nat,ey k j l=(P:Int)/\j<=P/\P<j+l/\k P≠k (P+1)
 |0,h=>absurd rfl h
 |l+1,h=>by
  unfold ey
  by_cases he:k (j+l)=k (j+l+1)
  ·rw[if_pos he]
   obtain⟨P,h1,h2,h3,h4⟩:=Qw (k:=k) (j:=j) (l:=l) (by rw[he];exact h)
   exact⟨P,h1,h2,by omega,h4⟩
  ·rw[if_neg he]
   exact⟨j+l,rfl,by omega,by omega,he⟩
theorem Kn.piece {n p:Nat} {k:Nat->Rat} (h:Kn n p k) {j:Nat} (hj:j+p+1<n):∃P:Nat,ey k j (p+1)=(P:Int)/\j<=P/\P<=j+p/\k P<k (P+1)/\p<=P/\P+p+1<n:=by
 have hp:=h.p1
 have hne:k j≠k (j+(p+1)):=by
  have hlt:k j<k (j+(p+1)):=by
   by_cases h0:j=0
   ·subst h0
    have hl:=h.len
    have a1:=h.mult 1 (by omega) (by omega)
    rw[h.first 1 (by omega),show 1+p=0+(p+1) by omega]at a1
    exact a1
   ·have a1:=h.mult j (by omega) (by omega)
    have a2:=h.mono (show j+p<=j+(p+1) by omega) (by omega)
    grind
  grind
 obtain⟨P,h1,h2,h3,h4⟩:=Qw hne
 have hs:=h.sorted P (by omega)
 refine⟨P,h1,h2,by omega,by grind,?_,?_⟩
 ·rcases Nat.lt_or_ge P p with hh|hh
  ·exact absurd (by rw[h.first P (by omega),h.first (P+1) (by omega)]) h4
  ·exact hh
 ·rcases Nat.lt_or_ge (P+p+1) n with hh|hh
  ·exact hh
  ·exact absurd (by rw[h.last P (by omega) (by omega),h.last (P+1) (by omega) (by omega)]) h4
theorem Qz {k:Nat->Rat} {c:Nat}:∀{l a:Nat},cS (fun i=>k (c+i)) a l=cS k (c+a) l
 |0,_=>rfl
 |l+1,a=>by rw[cS,cS,Qz];rfl
theorem Gv {f g:Nat->Rat}:∀{l a:Nat},(∀i,a<=i->i<a+l->f i=g i)->cS f a l=cS g a l
 |0,_,_=>rfl
 |l+1,a,h=>by rw[cS,cS,h a (by omega) (by omega),Gv fun i h1 h2=>h i (by omega) (by omega)]
variable {k:Nat->Rat} {b p:Nat}
theorem abZ {a c u v f:Rat}:fr a c (u+f*(v-u))=fr a c u+f*(fr a c v-fr a c u):=by
 unfold fr
 rw[Rat.div_def,Rat.div_def (u-a),Rat.div_def (v-a)]
 generalize (c-a)⁻¹=q
 grind
theorem Uv {f:Rat}:∀{l:List Rat} {r:Nat} {x y:Nat->Rat} {j:Nat},bl k b p r (fun j=>x j+f*(y j-x j)) l j=bl k b p r x l j+f*(bl k b p r y l j-bl k b p r x l j)
 |[],_,_,_,_=>rfl
 |t::l,r,x,y,j=>by
  rw[bl,bl,bl,<-Uv (l:=l)]
  congr 1
  funext j
  unfold iA
  split<;>grind
theorem Wb {u v f:Rat} {l:List Rat} {x:Nat->Rat} (hl:l.length+1=p):bl k b p 0 x ((u+f*(v-u))::l) p=bl k b p 0 x (u::l) p+f*(bl k b p 0 x (v::l) p-bl k b p 0 x (u::l) p):=by
 rw[bl,bl,bl,<-Uv]
 refine HU (by omega) fun j h1 _=>?_
 simp only[iA]
 rw[if_pos (by omega),if_pos (by omega),if_pos (by omega),abZ];grind
theorem Q6 {a c t:Rat} (h:a<c):a+fr a c t*(c-a)=t:=by rw[nU h];grind
def eW (k:Nat->Rat) (t:Rat) (q j:Nat):Rat:=if j<q then k j else if j=q then t else k (j-1)
theorem lO {t:Rat} {q j:Nat} (h:j<q):eW k t q j=k j:=if_pos h
theorem v7 {t:Rat} {q:Nat}:eW k t q q=t:=by unfold eW;rw[if_neg (by omega),if_pos rfl]
theorem lD {t:Rat} {q j:Nat} (h:q<j):eW k t q j=k (j-1):=by unfold eW;rw[if_neg (by omega),if_neg (by omega)]
theorem IE {f g:Nat->Rat}:∀{l a:Nat},(∀i,a+1<=i->i<a+1+l->f i=g (i-1))->cS f (a+1) l=cS g a l
 |0,_,_=>rfl
 |l+1,a,h=>by
  rw[cS,cS,h (a+1) (Nat.le_refl _) (by omega),IE (l:=l) (a:=a+1) fun i h1 h2=>h i (by omega) (by omega)];rfl
theorem D8 {n:Nat} {P J:Nat} {x:Nat->Rat} (h:At n k P) (hP:p<=P) (hP2:P+p<n) (h1:P<=J+p) (h2:J<=P):bl k (P-p) p 0 (fun q=>x (P-p+q)) (cS k (J+1) p) p=x J:=by
 have:=aaG (k:=k) (b:=P-p) (p:=p) (n:=n) (by rwa [show P-p+p=P by omega]) (by omega) (J:=J-(P-p)) (by omega) (x:=fun q=>x (P-p+q))
 rw[show P-p+(J-(P-p))=J by omega]at this
 exact this
theorem af5 {n:Nat} {x:Nat->Rat} {t:Rat} {a j P:Nat} (hs:∀i,i+1<n->k i<=k (i+1)) (hp:1<=p) (hlo:k a<=t) (hhi:t<k (a+1)) (ha:p<=a) (h:At n k P) (hP:p<=P) (hP2:P+p<n)
  (h1:j+p<=a->j<=P/\P<=j+p) (h2:a<j->j<=P+1/\P+1<=j+p) (h3:a<j+p->j<=a->j<=P/\P+1<=j+p):
  bl k (P-p) p 0 (fun q=>x (P-p+q)) (cS (eW k t (a+1)) (j+1) p) p=if j+p<=a then x j else if a<j then x (j-1)else x (j-1)+fr (k j) (k (j+p)) t*(x j-x (j-1)):=by
 by_cases c1:j+p<=a
 ·obtain⟨g1,g2⟩:=h1 c1
  rw[if_pos c1,Gv (g:=k) fun i _ hi=>lO (by omega)]
  exact D8 h hP hP2 g2 g1
 ·rw[if_neg c1]
  by_cases c2:a<j
  ·obtain⟨g1,g2⟩:=h2 c2
   rw[if_pos c2,IE (g:=k) fun i hi _=>lD (by omega)]
   have:=D8 (x:=x) (J:=j-1) h hP hP2 (by omega) (by omega)
   rwa [show j-1+1=j by omega]at this
  ·obtain⟨g1,g2⟩:=h3 (by omega) (by omega)
   rw[if_neg c2]
   have hA:At n k (P-p+p):=by rwa [show P-p+p=P by omega]
   have e1:cS (eW k t (a+1)) (j+1) p=cS k (j+1) (a-j)++t::cS k (a+1) (j+p-a-1):=by
    have:=E1 (t:=eW k t (a+1)) (l:=a-j) (a:=j+1) (m:=(j+p-a-1)+1)
    rw[show a-j+(j+p-a-1+1)=p by omega,show j+1+(a-j)=a+1 by omega]at this
    rw[this,Gv (g:=k) (fun i _ hi=>lO (by omega)),cS,v7,IE (g:=k) fun i hi _=>lD (by omega)]
   have e2:cS k (j+1) (p-1)=cS k (j+1) (a-j)++cS k (a+1) (j+p-a-1):=by
    have:=E1 (t:=k) (l:=a-j) (a:=j+1) (m:=j+p-a-1)
    rw[show a-j+(j+p-a-1)=p-1 by omega,show j+1+(a-j)=a+1 by omega]at this
    exact this
   have hw:k j<k (j+p):=by
    have m1:=gX hs (show j<=a by omega) (show a<n by omega)
    have m2:=gX hs (show a+1<=j+p by omega) (show j+p<n by omega)
    grind
   have q1:(cS (eW k t (a+1)) (j+1) p).Perm (t::cS k (j+1) (p-1)):=by rw[e1,e2];exact List.perm_middle
   rw[MK hA (by omega) q1 (by rw[rV];omega),<-Q6 (t:=t) hw,Wb (by rw[rV];omega)]
   have d1:=D8 (x:=x) (J:=j-1) h hP hP2 (by omega) (by omega)
   rw[show j-1+1=j by omega,show p=p-1+1 by omega,cS]at d1
   have d2:=D8 (x:=x) (J:=j) h hP hP2 (by omega) (by omega)
   have q2:(cS k (j+1) p).Perm (k (j+p)::cS k (j+1) (p-1)):=by
    have:=Kg (t:=k) (l:=p-1) (a:=j+1)
    rw[show p-1+1=p by omega,show j+1+(p-1)=j+p by omega]at this
    rw[this];exact List.perm_append_singleton _ _
   rw[MK hA (by omega) q2 (by rw[rV];omega)]at d2
   rw[show p-1+1=p by omega]at d1
   rw[d1,d2,Q6 hw]
def IF (k:Nat->Rat) (p:Nat) (x:Nat->Rat) (P:Nat) (l:List Rat):Rat:=bl k (P-p) p 0 (fun q=>x (P-p+q)) l p
def iT (k:Nat->Rat) (p:Nat) (x:Nat->Rat) (t:Rat) (a j:Nat):Rat:=if j+p<=a then x j else if a<j then x (j-1)else x (j-1)+fr (k j) (k (j+p)) t*(x j-x (j-1))
def kP (a Q:Nat):Nat:=if Q<=a then Q else Q-1
theorem alu {n:Nat} {x:Nat->Rat} {t:Rat} {a j Q:Nat} (hs:∀i,i+1<n->k i<=k (i+1)) (hp:1<=p) (hlo:k a<=t) (hhi:t<k (a+1)) (ha:p<=a) (h:At n k (kP a Q)) (hP:p<=kP a Q) (hP2:kP a Q+p<n) (h1:j<=Q) (h2:Q<=j+p):
  IF k p x (kP a Q) (cS (eW k t (a+1)) (j+1) p)=iT k p x t a j:=by
 refine af5 hs hp hlo hhi ha h hP hP2 ?_ ?_ ?_<;>unfold kP<;>split<;>omega
end Go.Am.B
namespace Go.Am.B
theorem Jz {k:Nat->Rat} {t:Rat} {n:Nat}:cL k t (n+1)=cL k t n+if k n=t then 1 else 0:=rfl
theorem Ki {k:Nat->Rat} {t:Rat} {n:Nat}:∀{m:Nat},cL k t n<=cL k t (n+m)
 |0=>Nat.le_refl _
 |m+1=>by
  have:=Ki (k:=k) (t:=t) (n:=n) (m:=m)
  rw[<-Nat.add_assoc,Jz];omega
theorem LX {k:Nat->Rat} {t:Rat} {i:Nat}:∀{l:Nat},(∀j,i<=j->j<i+l->k j=t)->l<=cL k t (i+l)
 |0,_=>Nat.zero_le _
 |l+1,h=>by
  have:=LX (k:=k) (t:=t) (i:=i) (l:=l) fun j h1 h2=>h j h1 (by omega)
  rw[<-Nat.add_assoc,Jz,if_pos (h (i+l) (by omega) (by omega))];omega
theorem Pt {k:Nat->Rat} {t:Rat} {lo hi:Nat} (hlh:lo<=hi):∀{n:Nat},(∀j,j<n->k j=t->lo<=j/\j<hi)->cL k t n<=min n hi-lo
 |0,_=>by simp[cL]
 |n+1,h=>by
  have:=Pt (k:=k) (t:=t) hlh (n:=n) fun j hj=>h j (by omega)
  rw[Jz]
  by_cases hn:k n=t
  ·rw[if_pos hn]
   have:=h n (by omega) hn
   omega
  ·rw[if_neg hn];omega
theorem Q1 {n a i:Nat} {k:Nat->Rat} {t:Rat} (hs:∀i,i+1<n->k i<=k (i+1)) (hhi:t<k (a+1)) (ha:a+1<n) (hlo:k a<=t) (hi:i<=a) (h:a<i+cL k t n):k i=t:=by
 by_cases he:k i=t
 ·exact he
 ·have h1:=gX hs hi (by omega)
  have hlt:k i<t:=by grind
  have:=Pt (k:=k) (t:=t) (lo:=i+1) (hi:=a+1) (by omega) (n:=n) fun j hj hjt=>by
   constructor
   ·by_cases c:j<=i
    ·have:=gX hs c (by omega)
     grind
    ·omega
   ·by_cases c:a+1<=j
    ·have:=gX hs c hj
     grind
    ·omega
  omega
theorem Kn.xh {n p a:Nat} {k:Nat->Rat} {t:Rat} (h:Kn n p k) (h0:k 0<t) (h1:t<k (n-1)) (hlo:k a<=t) (hhi:t<k (a+1)) (ha:a+1<n):p<=a/\a+p+1<n:=by
 have hl:=h.len
 constructor
 ·by_cases c:p<=a
  ·exact c
  ·have:=h.first (a+1) (by omega)
   grind
 ·by_cases c:a+p+1<n
  ·exact c
  ·have:=h.last a (by omega) (by omega)
   grind
theorem Kn.eW {n p a:Nat} {k:Nat->Rat} {t:Rat} (h:Kn n p k) (h0:k 0<t) (h1:t<k (n-1)) (hlo:k a<=t) (hhi:t<k (a+1)) (ha:a+1<n) (ht:cL k t n<p):Kn (n+1) p (eW k t (a+1)):=by
 obtain⟨g1,g2⟩:=h.xh h0 h1 hlo hhi ha
 have hp:=h.p1
 have hl:=h.len
 refine⟨hp,by omega,fun i hi=>?_,fun i hi=>?_,fun i h2 h3=>?_,fun i h2 h3=>?_⟩
 ·by_cases c1:i<a
  ·rw[lO (by omega),lO (by omega)];exact h.sorted i (by omega)
  ·by_cases c2:i=a
   ·subst c2;rw[lO (by omega),v7];exact hlo
   ·by_cases c3:i=a+1
    ·subst c3;rw[v7,lD (by omega)];exact Rat.le_of_lt hhi
    ·rw[lD (by omega),lD (by omega)]
     have:=h.sorted (i-1) (by omega)
     rwa [show i-1+1=i+1-1 by omega]at this
 ·rw[lO (by omega),lO (by omega)];exact h.first i hi
 ·rw[lD (by omega),lD (by omega),h.last (i-1) (by omega) (by omega),show n+1-1-1=n-1 by omega]
 ·by_cases c1:i+p<a+1
  ·rw[lO (by omega),lO (by omega)];exact h.mult i h2 (by omega)
  ·by_cases c2:i+p=a+1
   ·rw[c2,v7,lO (by omega)]
    have m:=h.mono (show i<=a by omega) (by omega)
    by_cases e:k i=t
    ·exfalso
     have hb:∀j,i<=j->j<i+p->k j=t:=fun j hj1 hj2=>by
      have a1:=h.mono hj1 (by omega)
      have a2:=h.mono (show j<=a by omega) (by omega)
      grind
     have b1:=LX hb
     have b2:=Ki (k:=k) (t:=t) (n:=i+p) (m:=n-(i+p))
     rw[show i+p+(n-(i+p))=n by omega]at b2
     omega
    ·grind
   ·by_cases c3:i<=a
    ·rw[lO (by omega),lD (by omega)]
     have m1:=h.mono c3 (by omega)
     have m2:=h.mono (show a+1<=i+p-1 by omega) (by omega)
     grind
    ·by_cases c4:i=a+1
     ·subst c4;rw[v7,lD (by omega)]
      have m2:=h.mono (show a+1<=a+1+p-1 by omega) (by omega)
      grind
     ·rw[lD (by omega),lD (by omega)]
      have:=h.mult (i-1) (by omega) (by omega)
      rwa [show i-1+p=i+p-1 by omega]at this
theorem akt {k x:Nat->Rat} {p a j:Nat} {t:Rat} {n:Nat} (hs:∀i,i+1<n->k i<=k (i+1)) (hlo:k a<=t) (hhi:t<k (a+1)) (hn:a+p<n) (hx:∀j,0<x j):0<iT k p x t a j:=by
 unfold iT
 split
 ·exact hx _
 ·split
  ·exact hx _
  ·have m1:=gX hs (show j<=a by omega) (by omega)
   have m2:=gX hs (show a+1<=j+p by omega) (by omega)
   have hw:k j<k (j+p):=by grind
   have f0:=aeu (t:=t) hw (by grind)
   have f1:=aky (t:=t) hw (by grind)
   generalize fr (k j) (k (j+p)) t=f at*
   have x0:=hx (j-1)
   have x1:=hx j
   by_cases e:f=1
   ·subst e;grind
   ·have:=Rat.mul_pos (a:=1-f) (b:=x (j-1)) (by grind) x0
    have:=Rat.mul_nonneg (a:=f) (b:=x j) f0 (by grind)
    grind
theorem KN {n:Nat} {k:Nat->Rat} {pc:Nat->Nat->Nat} (h0:∀i,pc 0 i=i) (h1:∀f i,pc (f+1) i=if i+1<n/\k (i+1)<=k i then pc f (i+1)else i):∀{f i l:Nat},k i<k (i+l)->i+l<n->l<=f->i<=pc f i/\pc f i<i+l/\k (pc f i)<k (pc f i+1)
 |0,i,l,hk,hn,hl=>by
  have:l=0:=by omega
  subst this;exact absurd hk (by rw[Nat.add_zero];exact Rat.lt_irrefl)
 |f+1,i,l,hk,hn,hl=>by
  have hl0:l≠0:=fun e=>by subst e;rw[Nat.add_zero]at hk;exact absurd hk Rat.lt_irrefl
  rw[h1]
  by_cases c:i+1<n/\k (i+1)<=k i
  ·rw[if_pos c]
   have:=KN h0 h1 (f:=f) (i:=i+1) (l:=l-1) (by rw[show i+1+(l-1)=i+l by omega];have:=c.2;grind) (by omega) (by omega)
   obtain⟨a1,a2,a3⟩:=this
   exact⟨by omega,by omega,a3⟩
  ·rw[if_neg c]
   exact⟨Nat.le_refl _,by omega,Rat.not_le.1 fun e=>c ⟨by omega,e⟩⟩
theorem IM {n i:Nat} {k:Nat->Rat} (h:At n k i):cM n k (k i)=i:=wB ⟨h,Rat.le_refl,Rat.le_of_lt h.wide,.inl h.wide⟩
theorem YR {n a q:Nat} {k:Nat->Rat} {t:Rat} (hs:∀i,i+1<n->k i<=k (i+1)) (hlo:k a<=t) (hhi:t<k (a+1)) (ha:a+1<n) (hq:q+1<n+1) (hw:eW k t (a+1) q<eW k t (a+1) (q+1)):
  At n k (kP a q)/\cM n k (eW k t (a+1) q)=kP a q/\k 0<=eW k t (a+1) q/\eW k t (a+1) q<=k (n-1):=by
 have key:∀i,At n k i->k 0<=k i/\k i<=k (n-1):=fun i h=>⟨gX hs (Nat.zero_le _) (by have:=h.lt;omega),gX hs (by have:=h.lt;omega) (by omega)⟩
 by_cases c1:q<=a
 ·have e:kP a q=q:=if_pos c1
  rw[e,lO (by omega)]at*
  have hA:At n k q:=⟨by omega,hs,by
   by_cases c2:q=a
   ·subst c2;grind
   ·rwa [lO (by omega)]at hw⟩
  exact⟨hA,IM hA,key q hA⟩
 ·have e:kP a q=q-1:=if_neg c1
  rw[e]
  by_cases c2:q=a+1
  ·subst c2
   rw[v7]
   have hA:At n k a:=⟨ha,hs,by grind⟩
   have:=key a hA
   have m:=gX hs (show a+1<=n-1 by omega) (by omega)
   exact⟨hA,wB ⟨hA,hlo,Rat.le_of_lt hhi,.inl hhi⟩,by grind,by grind⟩
  ·rw[lD (by omega)]at hw ⊢
   rw[lD (by omega)]at hw
   have hA:At n k (q-1):=⟨by omega,hs,by rwa [show q-1+1=q+1-1 by omega]⟩
   exact⟨hA,IM hA,key _ hA⟩
open Go Go.Am.N AV ah ax IntKind
theorem ake:aT P ET Cm (ay Cm):=aU Proofs.Tryz.func221 ag ag ag
abbrev acV (m:Nat) (f:Nat->Pl) (w:Nat):ak:=⟨true,true,12,m,fun j=>bh (f j) w⟩
def RZ:bf:=[(Y2,iz T (sG::nr) [] 100 aks)]
def C8:bf:=nG::(Ac,sw)::(Bc,vw)::(CW,DM 2000 2002)::(wg,Nb)::(IB++(RZ++((yq,jC kR kR Lg oU)::nY)))
def yY (f:Rat) (a b:Pl):Pl:=⟨⟨a.n.x+f*(b.n.x-a.n.x),a.n.y+f*(b.n.y-a.n.y),a.n.z+f*(b.n.z-a.n.z)⟩,a.d+f*(b.d-a.d)⟩
def kH (c:Cu) (t:Rat) (a s i:Nat):Pl:=
 if i+c.p.toNat<=a then c.f i else if a<i+s then c.f (i-1)else
  ⟨rm (yY ((t-c.k i)/(c.k (i+c.p.toNat)-c.k i)) (cP (c.f (i-1))) (cP (c.f i))),(yY ((t-c.k i)/(c.k (i+c.p.toNat)-c.k i)) (cP (c.f (i-1))) (cP (c.f i))).d⟩
abbrev yU:List Nat:=[2,3,4,5,6,8,9,10]
abbrev LB (c:Cu) (a s i:Nat):List AV:=[.ptr 0 0 3 0 [],.ptr 1 0 3 0 [],.ptr 2 0 3 0 [],.int .i64 c.p,.int .i64 a,.int .i64 s,.ptr 3 0 3 0 [],.int .i64 i]
abbrev xY (c:Cu) (t:Rat) (N:Nat) (K:Nat->Rat) (f:Nat->Pl) (i:Nat):aE:=[(4,acV i f sE),(3,⟨false,true,3,1,fun _=>.agg [.int .i64 c.p,br K N 2002,.own 4 12 0 i]⟩),(2,Md),(1,tP t 2000),(0,⟨false,true,3,1,fun _=>bV c 2000 2000⟩)]
abbrev AB:Code:=ay Cm
theorem amw {c:Cu} {t:Rat}:aG T C8 [] 60 yU (before AB [1,1,1,1,1,0,1]) ⟨aP 0 [bV c 2000 2000,.rat t 2000],[],0⟩=
  let c6:AV:=rat t 2000;let c5:Nat:=(aV (bV c 2000 2000)).size;let c4:Prop:=bt (fun i=>rat (c.k i) 2000) c.n sK;let c3:Prop:=c.n<2^40;let c2:AV:=agg [int i64 0,nil,nil];let c1:Prop:=0<1;some (aj [c1] (aj [c1,c1,c4,(2000:Nat)<=sK,Kn c.n c.p.toNat fun i=>aL (rat (c.k i) 2000),(0:Int)<=c.p,c3] (aj [c1,c1,c4,(2000:Nat)<=sK,c3] (aj [c1,c1,bt (fun i=>rat (c.k i) 2000) c.n 2000,(2000:Nat)<=2000,c3,c1] (leaf normal ([ptr 0 0 c5 0 [],ptr 4096 0 (aV c6).size 0 [],ptr 8192 0 3 0 [],int i64 c.p,int i64 (↑(fI c.n (fun i=>aL (rat (c.k i) 2000)) t):Int),int i64 (↑(cL (fun i=>aL (rat (c.k i) 2000)) t c.n):Int),ptr 110592 0 3 0 [],int i64 0],[((110592:Nat),aS fun j=>if(j==0)=true then aV (agg ((c2.kids.set 0 (aV (int i64 c.p))).set 1 (aV (br (dK (fun i=>aL (rat (c.k i) 2000)) t (dB (fun i=>aL (rat (c.k i) 2000)) t c.n)) (c.n+1) 2002))))else c2),((8192:Nat),aS fun x=>c2),(4096,ak.mk false true (aV c6).size 1 fun x=>c6),(0,ak.mk false true c5 1 fun x=>bV c 2000 2000)])))))):=ag
theorem an9 {c:Cu} {t:Rat} {a s i N:Nat} {K:Nat->Rat} {f:Nat->Pl}:aG T C8 [36,81,97] 60 yU [part AB [1,1,1,1,1,0,1,0,0]] ⟨aB yU (LB c a s i),xY c t N K f i,5⟩=
  let c29:AV:=int i64 c.p;let c28:AV:=own 4 12 0 i;let c27:Nat:=2^41;let c25:AV:=ptr 2 0 3 0 [];let c24:AV:=ptr 3 0 3 0 [];let c23:AV:=ptr 1 0 3 0 [];let c22:AV:=ptr 0 0 3 0 [];let c20:Nat:=i+1;let c19:Int:=(↑a:Int);let c11:AV:=rat 0 1;let c9:Int:=(2:Int)^63;let c6:Prop:=0<1;let c5:Nat:=2000+2000;let c4:Int:=(↑i:Int);let c33:Int:=c4+1;let c30:Prop:=(0:Int)<=c4;let c26:Int:=c19-(↑s:Int);let c21:AV:=agg [agg [c11,c11,c11],c11];let c18:Nat:=c5+1;let c16:Int:=c4-1;let c14:Prop:=2000<c27;let c13:Pl:=c.f c4.toNat;let c10:List Prop:=[(1:Nat)*12<=2^24,c20*((224:Nat)+1)*2<=2^47,c6];let c8:Rat:=(t-c.k c4.toNat)/(c.k (c4+c.p).toNat-c.k c4.toNat);let c7:AV:=agg [c29,br K N 2002,c28];let c1:List (Nat×ak):=[((2:Nat),aS fun x=>agg [int i64 0,nil,nil]),((1:Nat),aS fun x=>rat t 2000),((0:Nat),aS fun x=>agg [c29,aq 3 c.n fun i=>rat (c.k i) 2000,aq 12 c.m fun i=>bh (c.f i) 2000])];let c31:Prop:=(0:Int)<=c16/\c16.toNat<c.m;let c17:Prop:=-c9<=c33/\c33<c9;let c12:Prop:=c5+(c18+c18+(c5+c5+1))+1<=sH;let c3:List AV:=[c22,c23,c25,c29,int i64 c19,int i64 (↑s:Int),c24,int i64 c33];let c2:Pl:=c.f c16.toNat;let c32:Rat:=c2.d+c8*(c13.d-c2.d);let c15:Rat:=(↑(1:Int):Rat)/c32;some (aj [c6] (fork (decide (c4<=(↑c.m:Int))) (aj [-c9<=c19-c.p/\c19-c.p<c9] (fork (decide (c4<=c19-c.p)) (aj (c6::c6::(c30/\c4.toNat<c.m)::c10) (aj [c17] (leaf normal (c3,(77829,ak.mk true true 12 c20 fun i_1=>if i_1<i then bh (f i_1) sE else nth [bh c13 2000] c21 (i_1-i+0))::((3:Nat),aS fun j=>if(j==0)=true then agg (c7.kids.set 2 (aV (own (nat_lit 77828+1) 12 0 c20)))else c7)::c1)))) (aj [-c9<=c26/\c26<c9] (fork (decide (c4>c26)) (aj (c6::c6::(-c9<=c16/\c16<c9)::c31::c10) (aj [c17] (leaf normal (c3,(106501,ak.mk true true 12 c20 fun i_1=>if i_1<i then bh (f i_1) sE else nth [bh c2 2000] c21 (i_1-i+0))::((3:Nat),aS fun j=>if(j==0)=true then agg (c7.kids.set 2 (aV (own (nat_lit 106500+1) 12 0 c20)))else c7)::c1)))) (aj [c6,c6,c30/\c4.toNat<c.n,c14,c14,c6,-c9<=c4+c.p/\c4+c.p<c9,(0:Int)<=c4+c.p/\(c4+c.p).toNat<c.n,c6,c30/\c4.toNat<c.n,c14,c14,c18<c27,c18<c27,c6] (aj (c6::c6::c6::(-c9<=c16/\c16<c9)::c31::c6::c6::c6::(c30/\c4.toNat<c.m)::c6::c6::c6::c12::c12::c12::((2000:Nat)+(c18+c18+c18)+1<=sH)::c10) (aj [c17] (leaf normal (c3,(241669,ak.mk true true 12 c20 fun i_1=>if i_1<i then bh (f i_1) sE else nth [agg [agg [rat (c15*(c2.d*c2.n.x+c8*(c13.d*c13.n.x-c2.d*c2.n.x))) sE,rat (c15*(c2.d*c2.n.y+c8*(c13.d*c13.n.y-c2.d*c2.n.y))) sE,rat (c15*(c2.d*c2.n.z+c8*(c13.d*c13.n.z-c2.d*c2.n.z))) sE],rat c32 sH]] c21 (i_1-i+0))::((3:Nat),aS fun j=>if(j==0)=true then agg (c7.kids.set 2 (aV (own (nat_lit 241668+1) 12 0 c20)))else c7)::c1))))))))) (leaf (exit 0) ([c22,c23,c25,c29,int i64 c19,int i64 (↑s:Int),c24,int i64 c4],(4,ak.mk true true 12 i fun j=>bh (f j) 4294967298)::((3:Nat),aS fun x=>agg [c29,aq 3 N fun i=>rat (K i) 2002,c28])::c1)))):=ag
theorem alz {c:Cu} {t:Rat} {a s i N:Nat} {K:Nat->Rat} {f:Nat->Pl}:cj T C8 [] 60 Cm [part AB [1,1,1,1,1,1]] ⟨aB yU (LB c a s i),xY c t N K f i,5⟩=
  let c1:Prop:=0<1;some (aj [c1,c1] (aj [c1] (leaf ret [agg [int i64 c.p,aq 3 N fun i=>rat (K i) 2002,aq 12 i fun i=>bh (f (i+0)) 4294967298]]))):=ag
theorem aeH (c:Cu) (s r:Nat):(aV (bV c s r)).size=3:=ag
theorem aoE:bu P RZ:=aI (iU hT (j7 oy) hm (aU Proofs.Tryz.func275 ag ag ag) _ _) bz
theorem ajv:bu P C8:=cz (aI Us (aI NV (aI (aaR (by decide) (by decide)) (aI Y9 (s8 Tb (s8 aoE (aI (jY fun _ _ K hn=>HY hn.1 hn.2 K) oW)))))))
def K4 (c:Cu) (t:Rat) (a:Nat):Cu:=⟨c.p,c.n+1,dK c.k t (dB c.k t c.n),c.m+1,kH c t a (cL c.k t c.n)⟩
theorem Fa {rl:List (Nat×Nat)} {c:Cu} {N:Nat} {K:Nat->Rat} {a i i':Nat} (h:bp rl 4=some a) (e:i=i'):eZ rl (.agg [.int .i64 c.p,br K N 2002,.own a 12 0 i]) (.agg [.int .i64 c.p,br K N 2002,.own 4 12 0 i']):=
 gz ⟨aM,aM,⟨rfl,bW h rfl e⟩,trivial⟩
set_option maxHeartbeats 1000000 in
theorem VJ {c:Cu} {t:Rat} {a:Nat} (hc:kJ c) (h0:c.k 0<t) (h1:t<c.k (c.n-1)) (hlo:c.k a<=t) (hhi:t<c.k (a+1)) (ha:a+1<c.n) (K:Nat):aQ P ET K [bV c 2000 2000,.rat t 2000] [] (aJ (bV (K4 c t a) 2002 sE) []):=by
 obtain⟨k1,k2,k3,k4,k5⟩:=id hc
 have hl:=k1.len
 obtain⟨i1,i2⟩:=k1.xh h0 h1 hlo hhi ha
 have hI:fI c.n c.k t=a:=by
  unfold fI;rw[if_neg (by unfold dI;rintro(h|h)<;>grind)];exact wB ⟨⟨ha,k1.sorted,by grind⟩,hlo,Rat.le_of_lt hhi,.inl hhi⟩
 have hs2:=CJ (k:=c.k) (t:=t) (n:=c.n)
 obtain⟨s,hs⟩:∃s,s=cL c.k t c.n:=⟨_,rfl⟩
 unfold K4
 rw[<-hs]at hs2 ⊢
 refine ij (r:=aJ (bV ⟨c.p,c.n+1,dK c.k t (dB c.k t c.n),c.m+1,kH c t a s⟩ 2002 sE) []) hT ajv hm ake rfl aX rfl [1,1,1,1,1,0,1] (i:=0) (y:=part AB [1,1,1,1,1,0,1,0,0]) (z:=part AB [1,1,1,1,1,1]) ag ag ag (f1:=[]) (f2:=[36,81,97]) (f3:=[]) 60 yU 5
  (fun i:Nat=>LB c a s i) (fun i=>xY c t (c.n+1) (dK c.k t (dB c.k t c.n)) (kH c t a s) i) (fun i=>i<=c.m+1) (fun i=>i=c.m+1) (fun i=>c.m+1-i) (fun _=>⟨⟨_,amw,?_⟩,fun i hi=>⟨_,an9,?_⟩,fun i hi=>⟨_,alz,?_⟩⟩) K []
 ·have e1:fI c.n (fun i=>aL (rat (c.k i) 2000)) t=a:=hI
  have e2:cL (fun i=>aL (rat (c.k i) 2000)) t c.n=s:=hs.symm
  simp only[ah.all,aA,e1,e2]
  rw[aeH c 2000 2000]
  exact⟨aa,⟨aa,aa,bP (by decide),by decide,k1,aa,aa⟩,⟨aa,aa,bP (by decide),by decide,aa⟩,⟨aa,aa,bP aY,aa,aa,aa⟩,0,Nat.zero_le _,[(0,0),(1,4096),(2,8192),(3,110592)],rfl,rfl,rfl,fV rfl aa aa
   (bG rfl rfl (gz ⟨aM,aM,⟨rfl,jd aa⟩,trivial⟩) (aC (aC (aC trivial))))⟩
 ·have e3:((i:Int)+c.p).toNat=i+c.p.toNat:=aa
  have e4:((i:Int)-1).toNat=i-1:=aa
  simp only[ah.all,aA,bq,bw,bn,e3,e4]
  have tl:∀{i' j:Nat},i'=i->jv 5 [(0,0),(1,1),(2,2),(3,3),(4,4)] (xY c t (c.n+1) (dK c.k t (dB c.k t c.n)) (kH c t a s) i) (xY c t (c.n+1) (dK c.k t (dB c.k t c.n)) (kH c t a s) i):=fun _=>bk (bG rfl rfl (Fa rfl rfl) (aC (aC (aC trivial))))
  refine⟨aa,fun g1=>⟨aa,fun g2=>⟨aa,aa,i+1,aa,by dsimp only;omega,[(0,0),(1,1),(2,2),(3,3),(4,77829)],rfl,rfl,rfl,bJ rfl rfl rfl (fun k hk=>vT (y:=kH c t a s) (fun _ _=>rfl) (s':=sE) ?_ rfl aY aY hk) (bG rfl rfl (Fa rfl rfl) (aC (aC (aC trivial))))⟩,
   fun g2=>⟨aa,fun g3=>⟨aa,aa,i+1,aa,by dsimp only;omega,[(0,0),(1,1),(2,2),(3,3),(4,106501)],rfl,rfl,rfl,bJ rfl rfl rfl (fun k hk=>vT (y:=kH c t a s) (fun _ _=>rfl) (s':=sE) ?_ rfl aY aY hk) (bG rfl rfl (Fa rfl rfl) (aC (aC (aC trivial))))⟩,
    fun g3=>⟨?_,?_,aa,i+1,aa,by dsimp only;omega,[(0,0),(1,1),(2,2),(3,3),(4,241669)],rfl,rfl,rfl,bJ rfl rfl rfl (fun k hk=>vT (y:=kH c t a s) (fun _ _=>rfl) (s':=sE) ?_ rfl aY aY hk) (bG rfl rfl (Fa rfl rfl) (aC (aC (aC trivial))))⟩⟩⟩,
   fun g1=>⟨rfl,i,aa,_,rfl,rfl,rfl,tl (i':=i) (j:=i) rfl⟩⟩
  ·rw[show kH c t a s i=c.f i from if_pos aa]
   exact b7 ⟨b7 ⟨bO rfl (by decide),bO rfl (by decide),bO rfl (by decide),trivial⟩,bO rfl (by decide),trivial⟩
  ·rw[show kH c t a s i=c.f (i-1)from(if_neg aa).trans (if_pos aa)]
   exact b7 ⟨b7 ⟨bO rfl (by decide),bO rfl (by decide),bO rfl (by decide),trivial⟩,bO rfl (by decide),trivial⟩
  ·(repeat' with_reducible refine And.intro ?_ ?_)<;>omega
  ·(repeat' with_reducible refine And.intro ?_ ?_)<;>first|omega|decide
  ·rw[show kH c t a s i=⟨rm (yY ((t-c.k i)/(c.k (i+c.p.toNat)-c.k i)) (cP (c.f (i-1))) (cP (c.f i))),(yY ((t-c.k i)/(c.k (i+c.p.toNat)-c.k i)) (cP (c.f (i-1))) (cP (c.f i))).d⟩from(if_neg aa).trans (if_neg aa)]
   exact b7 ⟨b7 ⟨bO rfl aY,bO rfl aY,bO rfl aY,trivial⟩,bO rfl (by decide),trivial⟩
 ·subst hi
  simp only[ah.all,aA]
  exact⟨aa,aa,.refl _⟩
theorem Rz {k:Nat->Rat} {t:Rat}:∀{i:Nat},(∀j,j<i->k j<=t)->dB k t i=i
 |0,_=>rfl
 |i+1,h=>Me (Rz fun j hj=>h j aa) (h i aa)
theorem JV {n a:Nat} {k:Nat->Rat} {t:Rat} (hs:∀i,i+1<n->k i<=k (i+1)) (hlo:k a<=t) (hhi:t<k (a+1)) (ha:a+1<n):dB k t n=a+1:=
 KQ (Rz fun j hj=>Rat.le_trans (gX hs (show j<=a by omega) aa) hlo) hhi aa
theorem ae1 {k:Nat->Rat} {t:Rat} {q:Nat}:dK k t q=eW k t q:=rfl
def mX (c:Cu) (t:Rat) (a j:Nat):Pl:=
 ⟨⟨iT c.k c.p.toNat (fun q=>(cP (c.f q)).n.x) t a j,iT c.k c.p.toNat (fun q=>(cP (c.f q)).n.y) t a j,iT c.k c.p.toNat (fun q=>(cP (c.f q)).n.z) t a j⟩,iT c.k c.p.toNat (fun q=>(cP (c.f q)).d) t a j⟩
theorem Kn.KX {n p j:Nat} {k:Nat->Rat} (h:Kn n p k) (hj:j+p+1<n):k j<k (j+(p+1)):=by
 have hp:=h.p1
 have hl:=h.len
 by_cases c:j=0
 ·subst c
  have m:=h.mult 1 aa aa
  rw[h.first 1 aa]at m
  rwa [show 0+(p+1)=1+p by omega]
 ·have m:=h.mult j aa hj
  have:=h.mono (show j+p<=j+(p+1) by omega) aa
  grind
theorem Kn.wide {n p P:Nat} {k:Nat->Rat} (h:Kn n p k) (hA:At n k P):p<=P/\P+p+1<n:=by
 have hw:=hA.wide
 have hlt:=hA.lt
 have hl:=h.len
 constructor
 ·by_cases c:p<=P
  ·exact c
  ·rw[h.first P aa,h.first (P+1) aa]at hw
   exact absurd hw Rat.lt_irrefl
 ·by_cases c:P+p+1<n
  ·exact c
  ·rw[h.last P aa aa,h.last (P+1) aa aa]at hw
   exact absurd hw Rat.lt_irrefl
theorem akM {c:Cu} {t:Rat} {a q j e:Nat} (hc:kJ c) (h0:c.k 0<t) (h1:t<c.k (c.n-1)) (hlo:c.k a<=t) (hhi:t<c.k (a+1)) (ha:a+1<c.n) (hA:At c.n c.k (kP a q)) (g1:j<=q) (g2:q<=j+c.p.toNat):
  hH ⟨c.p,c.n,c.k,c.m,fun i=>cP (c.f i)⟩ (kP a q:Nat) c.p.toNat (fun i=>eW c.k t (a+1) (i+(j+1))) e=iT c.k c.p.toNat (fun i=>gP (cP (c.f i)) e) t a j:=by
 obtain⟨k1,k2,k3,k4,k5⟩:=hc
 obtain⟨i1,i2⟩:=k1.xh h0 h1 hlo hhi ha
 obtain⟨w1,w2⟩:=k1.wide hA
 have hw:=hA.wide
 have hE:iF c.n c.k c.p.toNat c.m c.p.toNat (kP a q:Nat)=0:=Dp aa rfl (by
  rw[bn]
  rintro(h|h|h)
  ·omega
  ·omega
  ·exact absurd h (Rat.not_le.2 hw))
 unfold hH nk
 dsimp only
 rw[if_pos hE,bn,Nd]
 have e1:cS (fun i=>eW c.k t (a+1) (i+(j+1))) 0 c.p.toNat=cS (eW c.k t (a+1)) (j+1) c.p.toNat:=by
  have:=Qz (k:=eW c.k t (a+1)) (c:=j+1) (l:=c.p.toNat) (a:=0)
  rw[Nat.add_zero]at this
  rw[<-this]
  exact Gv fun i _ _=>by rw[Nat.add_comm i (j+1)]
 rw[e1]
 exact alu (n:=c.n) (x:=fun i=>gP (cP (c.f i)) e) k1.sorted aa hlo hhi i1 hA w1 aa g1 g2
theorem ais {c:Cu} {t:Rat} {a j:Nat} (hc:kJ c) (h0:c.k 0<t) (h1:t<c.k (c.n-1)) (hlo:c.k a<=t) (hhi:t<c.k (a+1)) (ha:a+1<c.n) (ht:cL c.k t c.n<c.p.toNat) (hj:j<c.m+1):
  (qc ⟨c.p,c.n,c.k,c.m,fun i=>cP (c.f i)⟩ t).f j=mX c t a j:=by
 obtain⟨k1,k2,k3,k4,k5⟩:=id hc
 have hK:=k1.eW h0 h1 hlo hhi ha ht
 have hl:=k1.len
 obtain⟨q,hq⟩:∃q,q=fC (eW c.k t (a+1)) (c.n+1) j:=⟨_,rfl⟩
 obtain⟨g1,g2,g3⟩:j<=q/\q<j+(c.p.toNat+1)/\eW c.k t (a+1) q<eW c.k t (a+1) (q+1):=by
  rw[hq]
  exact KN (n:=c.n+1) (k:=eW c.k t (a+1)) (pc:=ng (eW c.k t (a+1)) (c.n+1)) (fun _=>rfl) (fun _ _=>rfl) (hK.KX aa) aa aa
 obtain⟨hA,hI,o1,o2⟩:=YR k1.sorted hlo hhi ha aa g3
 have hI2:fI c.n c.k (eW c.k t (a+1) q)=kP a q:=by
  unfold fI;rw[if_neg (by unfold dI;rintro(h|h)<;>grind)];exact hI
 show oI _ (fI c.n c.k (dK c.k t (dB c.k t c.n) (fC (dK c.k t (dB c.k t c.n)) (c.n+1) j))) c.p.toNat (fun q=>dK c.k t (dB c.k t c.n) (q+(j+1)))=_
 rw[JV k1.sorted hlo hhi ha,ae1,<-hq,hI2]
 have key:∀e,hH ⟨c.p,c.n,c.k,c.m,fun i=>cP (c.f i)⟩ (kP a q:Nat) c.p.toNat (fun i=>eW c.k t (a+1) (i+(j+1))) e=iT c.k c.p.toNat (fun i=>gP (cP (c.f i)) e) t a j:=fun e=>akM hc h0 h1 hlo hhi ha hA g1 aa
 unfold oI
 rw[key 0,key 1,key 2,key 3]
 rfl
theorem AD {p:Pl} (h:p.d≠0):dU (cP p)=p:=by
 obtain⟨⟨x,y,z⟩,d⟩:=p
 have key:∀x:Rat,d*x/d=x:=fun x=>by rw[Rat.div_def,Rat.mul_comm d x,Rat.mul_assoc,Rat.mul_inv_cancel _ h,Rat.mul_one]
 unfold dU cP
 dsimp only
 rw[key,key,key]
theorem agA {c:Cu} {t:Rat} {a i:Nat} (hc:kJ c) (hlo:c.k a<=t) (hhi:t<c.k (a+1)) (ha:a+1<c.n) (hw:∀i,(c.f i).d≠0):kH c t a (cL c.k t c.n) i=dU (mX c t a i):=by
 obtain⟨k1,k2,k3,k4,k5⟩:=id hc
 unfold kH mX iT
 by_cases c1:i+c.p.toNat<=a
 ·simp only[if_pos c1]
  exact(AD (hw i)).symm
 ·simp only[if_neg c1]
  by_cases c2:a<i
  ·simp only[if_pos (show a<i+cL c.k t c.n by omega),if_pos c2]
   exact(AD (hw (i-1))).symm
  ·simp only[if_neg c2]
   by_cases c3:a<i+cL c.k t c.n
   ·simp only[if_pos c3]
    have e:=Q1 k1.sorted hhi ha hlo (i:=i) aa c3
    have z:∀x y:Rat,x+fr (c.k i) (c.k (i+c.p.toNat)) t*(y-x)=x:=fun x y=>by rw[e,Ql];grind
    simp only[z]
    exact(AD (hw (i-1))).symm
   ·simp only[if_neg c3]
    show(⟨rm (yY (fr (c.k i) (c.k (i+c.p.toNat)) t) (cP (c.f (i-1))) (cP (c.f i))),_⟩:Pl)=_
    rw[<-F4];rfl
def uB (c:Cu) (t:Rat) (a:Nat):Cu:=⟨c.p,c.n+1,eW c.k t (a+1),c.m+1,fun j=>dU (mX c t a j)⟩
theorem acQ:aT P LK Dr (ay Dr):=aU Proofs.Tryz.func219 ag ag ag
theorem aaF:aT P DU FX (ay FX):=aU Proofs.Tryz.func132 ag ag ag
def gj (c:Cu) (t:Rat):Cu:=if cV c t=0 then uB c t (cM c.n c.k t)else pz
def P1:Spec:=cq (kC (kL 2000) (kC (gN 2000) kN)) (fun a=>.bool (decide (a.1.2 0<a.2.1)&&decide (a.2.1<a.1.2 (a.1.1-1)))) fun a=>[1<=a.1.1,a.1.1<2^40]
def Pg:Spec:=cq (kC (wH 2000 2000) (kC (gN 2000) kN)) (fun a=>bV (uB a.1 a.2.1 (cM a.1.n a.1.k a.2.1)) 2002 sE) fun a=>[kJ a.1,a.1.k 0<a.2.1,a.2.1<a.1.k (a.1.n-1),∀i,(a.1.f i).d≠0]
def Rq:bf:=nG::(LK,P1)::(Bc,vw)::(ET,Pg)::[]
def adu:Spec:=cq (kC (wH 2000 2000) (kC (gN 2000) kN)) (fun a=>.tuple [bV (gj a.1 a.2.1) 2002 sE,.int .i64 (cV a.1 a.2.1)]) fun a=>[kJ a.1,∀i,(a.1.f i).d≠0]
theorem adJ {n:Nat} {k:Nat->Rat} {t:Rat}:bU T (nG::nY) [11] 60 Dr (ay Dr) ⟨aP 0 [br k n 2000,.rat t 2000],[],0⟩=
  let c6:Prop:=0<1;let c4:Prop:=(0:Int)<=0/\Int.toNat (0:Int)<n;let c3:Int:=(↑n:Int)-1;let c2:Int:=eV (k (Int.toNat (0:Int))) t;let c1:Prop:=2000<2^41;let c5:Bool:=decide (c2<0);some (fork c5 (aj [c4,c6,c1,c1,c5=true,c6,-(2:Int)^63<=c3/\c3<2^63,(0:Int)<=c3/\c3.toNat<n,c1,c1] (leaf ret [AV.bool (bif true then decide (eV t (k c3.toNat)<0)else false)])) (aj [c4,c6,c1,c1,c5=false] (leaf ret [AV.bool false]))):=ag
theorem aoc {c:Cu} {t:Rat}:bU T Rq [6,13,22] 60 FX (ay FX) ⟨aP 0 [bV c 2000 2000,.rat t 2000],[],0⟩=
  let c10:Prop:=2000<=2000;let c9:Prop:=c.n<2^40;let c8:Nat:=c.p.toNat;let c7:Prop:=bt (fun i=>rat (c.k i) 2000) c.n 2000;let c6:Int:=(↑(cL (fun i=>aL (rat (c.k i) 2000)) t c.n):Int);let c5:AV:=agg [int i64 0,nil,nil];let c4:Rat:=aL (rat (c.k 0) 2000);let c3:Rat:=aL (rat (c.k (c.n-1)) 2000);let c2:Prop:=0<1;let c1:Nat:=cM c.n (fun i=>aL (rat (c.k i) 2000)) t;some (aj [c2,c2,c7,c10,(1:Nat)<=c.n,c9] (fork (!(decide (c4<t)&&decide (t<c3))) (aj [c2] (aj [c2] (leaf ret [c5,int i64 7]))) (aj [c2,c2,bt (fun i=>rat (c.k i) 2000) c.n sK,(2000:Nat)<=sK,c9,c2] (fork (decide (c6>=c.p)) (aj [c2] (aj [c2] (leaf ret [c5,int i64 5]))) (aj [c2] (fork (decide ((↑c.m:Int)>=40)) (aj [c2] (aj [c2] (leaf ret [c5,int i64 2]))) (aj [c2,c2,c7,ki (fun i=>bh (c.f i) 2000) c.m 2000,c10,kJ (Cu.mk c.p c.n (fun i=>aL (rat (c.k i) 2000)) c.m fun i=>lS (bh (c.f i) 2000)),c4<t,t<c3,∀(i:Nat),aL (rat (c.f i).d 2000)≠0,c2] (aj [c2] (leaf ret [agg [int i64 c.p,aq 3 (c.n+1) fun i=>rat (eW (fun i=>aL (rat (c.k i) 2000)) t (c1+1) i) 2002,aq 12 (c.m+1) fun i=>agg [agg [rat (iT (fun i=>aL (rat (c.k i) 2000)) c8 (fun q=>aL (rat (c.f q).d 2000)*aL (rat (c.f q).n.x 2000)) t c1 i/iT (fun i=>aL (rat (c.k i) 2000)) c8 (fun q=>aL (rat (c.f q).d 2000)) t c1 i) 4294967298,rat (iT (fun i=>aL (rat (c.k i) 2000)) c8 (fun q=>aL (rat (c.f q).d 2000)*aL (rat (c.f q).n.y 2000)) t c1 i/iT (fun i=>aL (rat (c.k i) 2000)) c8 (fun q=>aL (rat (c.f q).d 2000)) t c1 i) 4294967298,rat (iT (fun i=>aL (rat (c.k i) 2000)) c8 (fun q=>aL (rat (c.f q).d 2000)*aL (rat (c.f q).n.z 2000)) t c1 i/iT (fun i=>aL (rat (c.k i) 2000)) c8 (fun q=>aL (rat (c.f q).d 2000)) t c1 i) 4294967298],rat (iT (fun i=>aL (rat (c.k i) 2000)) c8 (fun q=>aL (rat (c.f q).d 2000)) t c1 i) 4294967298]],int i64 0]))))))))):=ag
theorem Jj {n p:Nat} {k:Nat->Rat} {t:Rat} (h:Kn n p k) (h0:k 0<t) (h1:t<k (n-1)):k (cM n k t)<=t/\t<k (cM n k t+1)/\cM n k t+1<n:=by
 obtain⟨g1,g2,g3⟩:=h.K2 (Rat.le_of_lt h0) (Rat.le_of_lt h1)
 refine⟨g1.lo,?_,aa⟩
 rcases g1.TO with e|e
 ·exact e
 ·rw[e];exact h1
theorem amV:aW P P1 LK:=ck fun⟨⟨n,k⟩,t,_⟩ K hn=>by
 obtain⟨h1,h2⟩:=hn
 have h1:1<=n:=h1
 have h2:n<2^40:=h2
 refine bZ (r:=aJ (.bool (decide (k 0<t)&&decide (t<k (n-1)))) []) hT (cz oW) hm acQ rfl aX rfl 60 adJ (fun _=>?_) K []
 have e1:((n:Int)-1).toNat=n-1:=aa
 simp only[ah.all,aA,e1,Int.toNat_zero,cond_true,cond_false,bq,bw,acB]
 refine⟨fun h=>?_,fun h=>?_⟩
 ·(repeat' with_reducible refine And.intro ?_ ?_)
  all_goals first|omega|exact h|decide|skip
  exact gl (by rw[decide_eq_true h,Bool.true_and])
 ·(repeat' with_reducible refine And.intro ?_ ?_)
  all_goals first|omega|exact h|decide|skip
  exact gl (by rw[decide_eq_false h,Bool.false_and])
theorem am8:aW P Pg ET:=ck fun⟨c,t,_⟩ K hn=>by
 obtain⟨hc,h0,h1,hw⟩:=hn
 have hc:kJ c:=hc
 have h0:c.k 0<t:=h0
 have h1:t<c.k (c.n-1):=h1
 have hw:∀i,(c.f i).d≠0:=hw
 obtain⟨g1,g2,g3⟩:=Jj hc.1 h0 h1
 refine EO (u:=bV (K4 c t (cM c.n c.k t)) 2002 sE) (l:=[]) (VJ hc h0 h1 g1 g2 g3 K) (fun h=>trivial) rfl rfl ?_
 refine b7 ⟨.refl _,nv rfl fun i _=>?_,nv rfl fun i _=>?_,trivial⟩
 ·show AV.rat (dK c.k t (dB c.k t c.n) i) 2002=_
  rw[JV hc.1.sorted g1 g2 g3];rfl
 ·show bh (kH c t (cM c.n c.k t) (cL c.k t c.n) i) sE=_
  rw[agA hc g1 g2 g3 hw];rfl
theorem abS:bu P Rq:=cz (aI amV (aI NV (aI am8 bz)))
theorem RJ {c:Cu} {t:Rat} (h:cV c t=0):c.k 0<t/\t<c.k (c.n-1)/\cL c.k t c.n<c.p.toNat/\c.m<40:=by
 unfold cV at h
 split at h
 ·omega
 ·rename_i g1
  split at h
  ·omega
  ·split at h
   ·omega
   ·have g1:=Classical.not_not.1 g1
    exact⟨g1.1,g1.2,aa,aa⟩
theorem ac5:aW P adu DU:=ck fun⟨c,t,_⟩ K hn=>by
 obtain⟨hc,hw⟩:=hn
 have hc:kJ c:=hc
 have hw:∀i,(c.f i).d≠0:=hw
 obtain⟨k1,k2,k3,k4,k5⟩:=id hc
 have hl:=k1.len
 refine bZ (r:=aJ (.tuple [bV (gj c t) 2002 sE,.int .i64 (cV c t)]) []) hT abS hm aaF rfl aX rfl 60 aoc (fun _=>?_) K []
 have no:∀{e:Int},cV c t=e->e≠0->fj [.agg [.int .i64 0,.nil,.nil],.int .i64 e] (.tuple [bV (gj c t) 2002 sE,.int .i64 (cV c t)]):=fun {e} he h0=>by
  refine⟨?_,bK he.symm,trivial⟩
  rw[show gj c t=pz from if_neg (by rw[he];exact h0)]
  exact Ud
 simp only[ah.all,aA,bq,bw,Bool.not_eq_true',Bool.not_eq_false',Bool.and_eq_true,Bool.and_eq_false_iff]
 refine⟨⟨aa,aa,bP aY,aa,aa,aa⟩,fun ho=>⟨aa,aa,no ?_ (by decide)⟩,fun hi=>⟨⟨aa,aa,bP (by decide),by decide,aa,aa⟩,fun h6=>⟨aa,aa,no ?_ (by decide)⟩,fun h6=>⟨aa,fun h7=>⟨aa,aa,no ?_ (by decide)⟩,fun h7=>⟨⟨aa,aa,bP aY,nw aY,aa,hc,hi.1,hi.2,hw,aa⟩,aa,?_⟩⟩⟩⟩
 ·unfold cV;rw[if_pos fun h=>ho.elim (fun g=>g h.1) fun g=>g h.2]
 ·unfold cV;rw[if_neg (fun g=>g hi),if_pos (show c.p<=(cL c.k t c.n:Int)from h6)]
 ·unfold cV;rw[if_neg (fun g=>g hi),if_neg (show¬c.p<=(cL c.k t c.n:Int)from h6),if_pos aa]
 ·have he:cV c t=0:=by unfold cV;rw[if_neg (fun g=>g hi),if_neg (show¬c.p<=(cL c.k t c.n:Int)from h6),if_neg aa]
  refine⟨?_,bK he.symm,trivial⟩
  rw[show gj c t=uB c t (cM c.n c.k t)from if_pos he]
  exact .refl _
open Go
theorem lU {x:Int} {n:Nat} (h:x.natAbs<2^n) (hn:1<=n):Sz (x:Rat) n:=
 ⟨by rw[Rat.num_intCast];exact h,by rw[Rat.den_intCast];exact Nat.lt_of_lt_of_le (show 1<2^1 by decide) (Nat.pow_le_pow_right (by decide) hn)⟩
def ej (x:Rat):Prop:=∃z:Int,(z:Rat)=x*55440/\-110880<=z/\z<=776160
theorem ej.sz {x:Rat} (h:ej x):Sz x 40:=by
 obtain⟨z,e,h1,h2⟩:=h
 have:x=(z:Rat)/((55440:Int):Rat):=by
  rw[e,Rat.div_def,Rat.mul_assoc,show(55440:Rat)=((55440:Int):Rat)from rfl,Rat.mul_inv_cancel _ (by decide+kernel),Rat.mul_one]
 rw[this]
 exact(lU (n:=20) aa (by decide)).div (lU (n:=20) (by decide) (by decide))
theorem ej.order {x y:Rat} {z w:Int} (h:(z:Rat)=x*55440) (h':(w:Rat)=y*55440) (hxy:x<=y):z<=w:=by
 have:(z:Rat)<=(w:Rat):=by rw[h,h'];exact Rat.mul_le_mul_of_nonneg_right hxy (by decide+kernel)
 exact Rat.intCast_le_intCast.1 this
theorem aoJ {x y f:Rat} {u v:Int} {s:Nat} (hf:f*(v:Rat)=(u:Rat)) (h0:0<=u) (h1:u<=v) (h2:0<v) (h3:v<2^20) (hx:Sz x s) (hy:Sz y s):Sz (x+f*(y-x)) (2*s+61):=by
 have hv:(v:Rat)≠0:=by
  intro e
  have:v=0:=by
   have e2:(v:Rat)=((0:Int):Rat):=e
   exact Rat.intCast_inj.1 e2
  omega
 have key:x+f*(y-x)=(((v-u:Int):Rat)*x+(u:Rat)*y)/(v:Rat):=by
  have e1:((v-u:Int):Rat)=(v:Rat)-(u:Rat):=by rw[Rat.intCast_sub]
  rw[e1,Rat.div_def,<-hf]
  have e2:((v:Rat)-f*(v:Rat))*x+f*(v:Rat)*y=(x+f*(y-x))*(v:Rat):=by grind
  rw[e2,Rat.mul_assoc,Rat.mul_inv_cancel _ hv,Rat.mul_one]
 rw[key]
 have a1:=(lU (x:=v-u) (n:=20) aa (by decide)).mul hx
 have a2:=(lU (x:=u) (n:=20) aa (by decide)).mul hy
 have a3:=(a1.add a2).div (lU (x:=v) (n:=20) aa (by decide))
 exact a3.more aa
theorem FE {k x:Nat->Rat} {p a j n s:Nat} {t:Rat} (hs:∀i,i+1<n->k i<=k (i+1)) (hlo:k a<=t) (hhi:t<k (a+1)) (hn:a+p<n) (hk:∀i,ej (k i)) (ht:ej t) (hx:∀i,Sz (x i) s):Sz (iT k p x t a j) (2*s+61):=by
 unfold iT
 split
 ·exact(hx _).more aa
 ·split
  ·exact(hx _).more aa
  ·have m1:=gX hs (show j<=a by omega) aa
   have m2:=gX hs (show a+1<=j+p by omega) aa
   have hw:k j<k (j+p):=by grind
   obtain⟨z1,e1,b1,c1⟩:=hk j
   obtain⟨z2,e2,b2,c2⟩:=hk (j+p)
   obtain⟨z3,e3,b3,c3⟩:=ht
   have o1:=ej.order e1 e3 (by grind)
   have o2:=ej.order e3 e2 (by grind)
   have o3:z1<z2:=by
    have:(z1:Rat)<(z2:Rat):=by rw[e1,e2];exact Rat.mul_lt_mul_of_pos_right hw (by decide+kernel)
    exact Rat.intCast_lt_intCast.1 this
   refine aoJ (u:=z3-z1) (v:=z2-z1) ?_ aa aa aa aa (hx _) (hx _)
   have hf:=nU (t:=t) hw
   rw[Rat.intCast_sub,Rat.intCast_sub,e1,e2,e3]
   have:fr (k j) (k (j+p)) t*(k (j+p)*55440-k j*55440)=fr (k j) (k (j+p)) t*(k (j+p)-k j)*55440:=by grind
   rw[this,hf];grind
theorem ajz {k:Nat->Rat} {t:Rat} {q:Nat} (hk:∀i,ej (k i)) (ht:ej t) (i:Nat):ej (eW k t q i):=by
 unfold eW
 split
 ·exact hk _
 ·split
  ·exact ht
  ·exact hk _
theorem Kn.OY {n p P:Nat} {k:Nat->Rat} (h:Kn n p k) (hA:At n k P):p<=P/\P+p+1<n:=by
 have hw:=hA.wide
 have hlt:=hA.lt
 have hl:=h.len
 constructor
 ·by_cases c:p<=P
  ·exact c
  ·rw[h.first P (by omega),h.first (P+1) (by omega)]at hw
   exact absurd hw Rat.lt_irrefl
 ·by_cases c:P+p+1<n
  ·exact c
  ·rw[h.last P (by omega) (by omega),h.last (P+1) (by omega) (by omega)]at hw
   exact absurd hw Rat.lt_irrefl
open Go Go.Am.N AV ah ax IntKind
structure jj (c:Cu) (s:Nat):Prop where
 kn:kJ c
 pos:∀i,0<(c.f i).d
 kd:∀i,ej (c.k i)
 sx:∀i,Sz (cP (c.f i)).n.x s
 sy:∀i,Sz (cP (c.f i)).n.y s
 sz:∀i,Sz (cP (c.f i)).n.z s
 sd:∀i,Sz (c.f i).d s
theorem aka {h:Pl} (hd:h.d≠0):cP (dU h)=h:=by
 obtain⟨⟨x,y,z⟩,d⟩:=h
 have key:∀x:Rat,d*(x/d)=x:=fun x=>by rw[Rat.div_def,Rat.mul_comm d,Rat.mul_assoc,Rat.inv_mul_cancel _ hd,Rat.mul_one]
 unfold dU cP
 dsimp only
 rw[key,key,key]
theorem W8 {c:Cu} {t:Rat} {a i:Nat} (hc:kJ c) (hp:∀i,0<(c.f i).d) (h0:c.k 0<t) (h1:t<c.k (c.n-1)) (hlo:c.k a<=t) (hhi:t<c.k (a+1)) (ha:a+1<c.n):0<(mX c t a i).d:=by
 obtain⟨g1,g2⟩:=hc.1.xh h0 h1 hlo hhi ha
 exact akt (n:=c.n) hc.1.sorted hlo hhi aa fun i=>hp i
theorem Fl {x:Rat} (h:0<x):x≠0:=fun e=>by rw[e]at h;exact absurd h Rat.lt_irrefl
theorem jj.ins {c:Cu} {s:Nat} {t:Rat} (h:jj c s) (ht:ej t) (he:cV c t=0):jj (gj c t) (2*s+61):=by
 obtain⟨e1,e2,e3,e4⟩:=RJ he
 obtain⟨k1,k2,k3,k4,k5⟩:=id h.kn
 obtain⟨a1,a2,a3⟩:=Jj k1 e1 e2
 obtain⟨g1,g2⟩:=k1.xh e1 e2 a1 a2 a3
 rw[show gj c t=uB c t (cM c.n c.k t)from if_pos he]
 have hpos:∀i,0<(mX c t (cM c.n c.k t) i).d:=fun i=>W8 h.kn h.pos e1 e2 a1 a2 a3
 have hl:∀i,cP (dU (mX c t (cM c.n c.k t) i))=mX c t (cM c.n c.k t) i:=fun i=>aka (Fl (hpos i))
 refine⟨⟨k1.eW e1 e2 a1 a2 a3 e3,k2,k3,show c.n+1<=c.p.toNat+41 by omega,show((c.m+1:Nat):Int)=((c.n+1:Nat):Int)-c.p-1 by omega⟩,hpos,ajz h.kd ht,fun i=>?_,fun i=>?_,fun i=>?_,fun i=>?_⟩
 ·show Sz (cP (dU (mX c t (cM c.n c.k t) i))).n.x _
  rw[hl];exact FE (n:=c.n) k1.sorted a1 a2 aa h.kd ht h.sx
 ·show Sz (cP (dU (mX c t (cM c.n c.k t) i))).n.y _
  rw[hl];exact FE (n:=c.n) k1.sorted a1 a2 aa h.kd ht h.sy
 ·show Sz (cP (dU (mX c t (cM c.n c.k t) i))).n.z _
  rw[hl];exact FE (n:=c.n) k1.sorted a1 a2 aa h.kd ht h.sz
 ·exact FE (n:=c.n) k1.sorted a1 a2 aa h.kd ht h.sd
theorem jj.ag0 {c:Cu} {s r:Nat} (h:jj c s):bt (fun i=>.rat (c.k i) r) c.n 2000:=fun i _=>dn rfl ((h.kd i).sz.more (by decide))
theorem jj.x {c:Cu} {s:Nat} (h:jj c s) (i:Nat):Sz (c.f i).n.x (s+s)/\Sz (c.f i).n.y (s+s)/\Sz (c.f i).n.z (s+s):=by
 have e:=AD (Fl (h.pos i))
 have d:(cP (c.f i)).d=(c.f i).d:=rfl
 refine⟨?_,?_,?_⟩
 ·rw[<-e];exact(h.sx i).div (d▸h.sd i)
 ·rw[<-e];exact(h.sy i).div (d▸h.sd i)
 ·rw[<-e];exact(h.sz i).div (d▸h.sd i)
theorem jj.pls {c:Cu} {s r:Nat} (h:jj c s) (hs:s<=1000):ki (fun i=>bh (c.f i) r) c.m 2000:=fun i _=>by
 obtain⟨a,b,d⟩:=h.x i
 exact b7 ⟨b7 ⟨dn rfl (a.more aa),dn rfl (b.more aa),dn rfl (d.more aa),trivial⟩,dn rfl ((h.sd i).more aa),trivial⟩
theorem Kn.split {N p a:Nat} {K:Nat->Rat} {t:Rat} (h:Kn N p K) (h0:K 0<t) (h1:t<K (N-1)) (hlo:K a<=t) (hhi:t<K (a+1)) (ha:a+1<N) (ht:cL K t N=p):
  (∀i,i<=a->a<i+p->K i=t)/\(∀i,i+p<=a->K i<t)/\p+p<=a:=by
 obtain⟨g1,g2⟩:=h.xh h0 h1 hlo hhi ha
 have hp:=h.p1
 have run:∀i,i<=a->a<i+p->K i=t:=fun i hi h2=>Q1 h.sorted hhi ha hlo hi (by rw[ht];exact h2)
 refine⟨run,fun i hi=>?_,?_⟩
 ·have m:=h.mono (show i<=a by omega) (by omega)
  by_cases e:K i=t
  ·exfalso
   have hb:∀j,i<=j->j<i+(p+1)->K j=t:=fun j hj1 hj2=>by
    have a1:=h.mono hj1 (by omega)
    have a2:=h.mono (show j<=a by omega) (by omega)
    grind
   have b1:=LX hb
   have b2:=Ki (k:=K) (t:=t) (n:=i+(p+1)) (m:=N-(i+(p+1)))
   rw[show i+(p+1)+(N-(i+(p+1)))=N by omega]at b2
   omega
  ·grind
 ·by_cases c:p+p<=a
  ·exact c
  ·have e:=run p g1 (by omega)
   rw[h.first p (Nat.le_refl _)]at e
   rw[e]at h0
   exact absurd h0 Rat.lt_irrefl
abbrev ID:ak:=⟨false,true,3,1,fun _=>.agg [.int .i64 0,.nil,.nil]⟩
abbrev LN (c:Cu):ak:=⟨false,true,3,1,fun _=>dY c 2000 4000⟩
theorem ajP:aT P CZ FZ (ay FZ):=aU Proofs.Tryz.func187 ag ag ag
abbrev zz (z:Nat->Int):Nat->AV:=fun i=>.int .i64 (z i)
theorem akw {x y:Int}:bU T GA [7] 60 FZ (ay FZ) ⟨aP 0 [.int .i64 x,.int .i64 y],[],0⟩=
  let c3:List Prop:=[(0:Nat)<1];let c2:Int:=(2:Int)^63;let c1:Rat:=sQ (decide (x<0)!=decide (y<0)) x.natAbs y.natAbs;some (fork (y==0) (aj c3 (aj c3 (leaf ret [agg [AV.bool false,mag 0,mag 0],int i64 3]))) (aj ((-c2<=x)::(x<c2)::(-c2<=y)::(y<c2)::(nl x.natAbs<2^40)::(nl y.natAbs<2^40)::c3) (aj c3 (leaf ret [rat c1 (cZ c1),int i64 0])))):=ag
theorem XP {x y:Int} (h1:-2^63<=x) (h2:x<2^63) (h3:-2^63<=y) (h4:y<2^63) (K:Nat):aQ P CZ K [.int .i64 x,.int .i64 y] [] (aJ (.tuple [.rat ((x:Rat)/(y:Rat)) 64,.int .i64 (if y=0 then 3 else 0)]) []):=by
 refine bZ hT wU hm ajP rfl aX rfl 60 akw (fun _=>?_) K []
 simp only[ah.all,aA,beq_iff_eq,beq_eq_false_iff_ne,ne_eq]
 refine⟨fun hb=>⟨aa,aa,?_,bK (by rw[if_pos hb]),trivial⟩,fun hb=>⟨⟨h1,h2,h3,h4,jZ (n:=64) aa aa,jZ (n:=64) aa aa,aa⟩,aa,dn (DO hb) (JS h1 h2 h3 h4 hb),bK (by rw[if_neg hb]),trivial⟩⟩
 rw[hb,show((x:Rat)/((0:Int):Rat))=0 by rw[Rat.intCast_zero,Rat.div_def,Rat.inv_zero,Rat.mul_zero]]
 exact kG
def QB:Spec:=cq (kC kI (kC kI kN)) (fun a=>.tuple [.rat ((a.1:Rat)/(a.2.1:Rat)) 64,.int .i64 (if a.2.1=0 then 3 else 0)]) fun a=>[-2^63<=a.1,a.1<2^63,-2^63<=a.2.1,a.2.1<2^63]
theorem agw:aW P QB CZ:=ck fun⟨x,y,_⟩ K hn=>XP hn.1 hn.2.1 hn.2.2.1 hn.2.2.2 K
def bS (k:Nat->Rat) (n:Nat):Nat->Nat
 |0=>0
 |i+1=>bS k n i+if i+1=n\/k i≠k (i+1)then 1 else 0
def cR (k:Nat->Rat) (n:Nat):Nat->Nat->Rat
 |0,_=>0
 |i+1,q=>if q<i+bS k n i then cR k n i q else k i
def gE (k:Nat->Rat):Nat->Nat
 |0=>0
 |i+1=>gE k i+if i=0\/k i≠k (i-1)then 1 else 0
section
variable {k:Nat->Rat} {n:Nat}
theorem zA {i:Nat} (h:i+1=n\/k i≠k (i+1)):bS k n (i+1)=bS k n i+1:=by rw[bS,if_pos h]
theorem vi {i:Nat} (h:¬(i+1=n\/k i≠k (i+1))):bS k n (i+1)=bS k n i:=by rw[bS,if_neg h];rfl
theorem pN {i:Nat}:bS k n i<=bS k n (i+1)/\bS k n (i+1)<=bS k n i+1:=by
 rw[bS];split<;>omega
theorem Bs {i:Nat}:∀{j:Nat},i<=j->bS k n i<=bS k n j
 |0,h=>by rw[show i=0 by omega];exact Nat.le_refl _
 |j+1,h=>by
  by_cases e:i=j+1
  ·rw[e];exact Nat.le_refl _
  ·exact Nat.le_trans (Bs (j:=j) (by omega)) pN.1
theorem AL:∀{i:Nat},bS k n i<=i
 |0=>Nat.le_refl _
 |i+1=>by have:=AL (i:=i);have:=(pN (k:=k) (n:=n) (i:=i)).2;omega
theorem Mr {i:Nat}:∀{j:Nat},i<=j->(∀q,i<=q->q<j->¬(q+1=n\/k q≠k (q+1)))->bS k n j=bS k n i
 |0,h,_=>by rw[show i=0 by omega]
 |j+1,h,hq=>by
  by_cases e:i=j+1
  ·rw[e]
  ·rw[vi (hq j (by omega) (by omega)),Mr (j:=j) (by omega) fun q h1 h2=>hq q h1 (by omega)]
theorem nD {i q:Nat}:∀{m:Nat},i<m->i+bS k n i<=q->q<i+1+bS k n (i+1)->cR k n m q=k i
 |0,h,_,_=>by omega
 |m+1,h,h1,h2=>by
  by_cases e:i=m
  ·subst e;rw[cR,if_neg (by omega)]
  ·have:=Bs (k:=k) (n:=n) (show i+1<=m by omega)
   rw[cR,if_pos (by omega),nD (m:=m) (by omega) h1 h2]
theorem Hx {Q:Nat}:∀{m:Nat},Q<m+bS k n m->∃i,i<m/\i+bS k n i<=Q/\Q<i+1+bS k n (i+1)
 |0,h=>by
    have:bS k n 0=0:=rfl
    omega
 |m+1,h=>by
  by_cases e:Q<m+bS k n m
  ·obtain⟨i,h1,h2,h3⟩:=Hx e
   exact⟨i,by omega,h2,h3⟩
  ·exact⟨m,by omega,by omega,h⟩
theorem B4 {p:Nat} (h:Kn n p k):Kn (n+bS k n n) (p+1) (cR k n n):=by
 have hp:=h.p1
 have hl:=h.len
 have src:∀{Q},Q<n+bS k n n->∃i,i<n/\i+bS k n i<=Q/\Q<i+1+bS k n (i+1)/\cR k n n Q=k i:=fun {Q} hQ=>by
  obtain⟨i,h1,h2,h3⟩:=Hx hQ
  exact⟨i,h1,h2,h3,nD h1 h2 h3⟩
 have ord:∀{Q Q' i i'},Q<=Q'->i+bS k n i<=Q->Q'<i'+1+bS k n (i'+1)->i<=i':=fun {Q Q' i i'} hQ h1 h2=>by
  by_cases c:i<=i'
  ·exact c
  ·have:=Bs (k:=k) (n:=n) (show i'+1<=i by omega)
   omega
 have dp:bS k n (p+1)=bS k n p+1:=by
  refine zA (.inr fun e=>?_)
  have m:=h.mult 1 (by omega) (by omega)
  rw[h.first 1 (by omega),show 1+p=p+1 by omega,<-e,h.first p (by omega)]at m
  exact Rat.lt_irrefl m
 have dl:bS k n n=bS k n (n-1)+1:=by
  have:=zA (k:=k) (n:=n) (i:=n-1) (.inl (by omega))
  rwa [show n-1+1=n by omega]at this
 have m1:=Bs (k:=k) (n:=n) (show p+1<=n-1 by omega)
 have fl:bS k n (n-1)=bS k n (n-p-1):=Mr (by omega) fun q h1 h2=>by
  rintro(e|e)
  ·omega
  ·exact e (by rw[h.last q (by omega) (by omega),h.last (q+1) (by omega) (by omega)])
 refine⟨by omega,by omega,fun Q hQ=>?_,fun Q hQ=>?_,fun Q h1 h2=>?_,fun Q h1 h2=>?_⟩
 ·obtain⟨i,a1,a2,a3,a4⟩:=src (Q:=Q) (by omega)
  obtain⟨j,b1,b2,b3,b4⟩:=src (Q:=Q+1) hQ
  rw[a4,b4]
  exact h.mono (ord (show Q<=Q+1 by omega) a2 b3) b1
 ·obtain⟨i,a1,a2,a3,a4⟩:=src (Q:=Q) (by omega)
  obtain⟨j,b1,b2,b3,b4⟩:=src (Q:=0) (by omega)
  have c1:=ord (i:=i) (i':=p) (Q:=Q) (Q':=p+1) (by omega) a2 (by omega)
  have c2:=ord (i:=j) (i':=p) (Q:=0) (Q':=p+1) (by omega) b2 (by omega)
  rw[a4,b4,h.first i c1,h.first j c2]
 ·obtain⟨i,a1,a2,a3,a4⟩:=src (Q:=Q) (by omega)
  obtain⟨j,b1,b2,b3,b4⟩:=src (Q:=n+bS k n n-1) (by omega)
  have c1:n<=i+p+1:=by
   by_cases c:n<=i+p+1
   ·exact c
   ·have:=Bs (k:=k) (n:=n) (show i+1<=n-p-1 by omega)
    omega
  have c2:=ord (show Q<=n+bS k n n-1 by omega) a2 b3
  rw[a4,b4,h.last i c1 a1,h.last j (by omega) b1]
 ·obtain⟨i,a1,a2,a3,a4⟩:=src (Q:=Q) (by omega)
  obtain⟨j,b1,b2,b3,b4⟩:=src (Q:=Q+(p+1)) (by omega)
  have c1:=ord (show Q<=Q+(p+1) by omega) a2 b3
  have c2:=h.mono c1 b1
  rw[a4,b4]
  by_cases e:k i<k j
  ·exact e
  ·exfalso
   have e2:k i=k j:=by grind
   have flat:∀q,i<=q->q<j->¬(q+1=n\/k q≠k (q+1)):=fun q g1 g2=>by
    rintro(g|g)
    ·omega
    ·have u1:=h.mono g1 (by omega)
     have u2:=h.mono (show q<=q+1 by omega) (by omega)
     have u3:=h.mono (show q+1<=j by omega) b1
     exact g (by grind)
   have g1:=Mr c1 flat
   have s1:=(pN (k:=k) (n:=n) (i:=i)).2
   have s2:=(pN (k:=k) (n:=n) (i:=j)).2
   have g2:i+p<=j/\Q=i+bS k n i:=by
    by_cases c:i<j
    ·have:=vi (flat i (Nat.le_refl _) c)
     omega
    ·omega
   have i0:1<=i:=by
    by_cases c:i=0
    ·subst c
     have:bS k n 0=0:=rfl
     omega
    ·omega
   have hj:i+p+1<n:=by
    by_cases c:i+p+1<n
    ·exact c
    ·have e3:j=n-1:=by omega
     subst e3
     omega
   have:=h.mult i i0 hj
   have:=h.mono g2.1 b1
   grind
theorem Mm:∀{i:Nat},i+1<=n->gE k (i+1)=bS k n (i+1)+if i+1<n/\k i=k (i+1)then 1 else 0
 |0,hn=>by
  rw[gE,bS,if_pos (.inl rfl)]
  show 0+1=0+_+_
  by_cases c:0+1<n/\k 0=k (0+1)
  ·rw[if_neg (fun h=>h.elim (fun e=>by omega) fun e=>e c.2),if_pos c]
  ·rw[if_pos (by
    by_cases e:0+1=n
    ·exact .inl e
    ·exact .inr fun e2=>c ⟨by omega,e2⟩),if_neg c]
 |i+1,hn=>by
  have s1:gE k (i+1+1)=gE k (i+1)+(if i+1=0\/k (i+1)≠k i then 1 else 0):=rfl
  have s2:bS k n (i+1+1)=bS k n (i+1)+(if i+1+1=n\/k (i+1)≠k (i+1+1)then 1 else 0):=rfl
  rw[s1,s2,Mm (i:=i) (by omega)]
  have e1:(if i+1<n/\k i=k (i+1)then 1 else 0)+(if i+1=0\/k (i+1)≠k i then 1 else 0)=1:=by
   by_cases c:k i=k (i+1)
   ·rw[if_pos ⟨by omega,c⟩,if_neg (fun h=>h.elim (fun e=>by omega) fun e=>e c.symm)]
   ·rw[if_neg (fun h=>c h.2),if_pos (.inr fun e=>c e.symm)]
  have e2:(if i+1+1=n\/k (i+1)≠k (i+1+1)then 1 else 0)+(if i+1+1<n/\k (i+1)=k (i+1+1)then 1 else 0)=1:=by
   by_cases c:i+1+1=n\/k (i+1)≠k (i+1+1)
   ·rw[if_pos c,if_neg (fun h=>c.elim (fun e=>by omega) fun e=>e h.2)]
   ·rw[if_neg c,if_pos ⟨by
     by_cases e:i+1+1=n
     ·exact absurd (.inl e) c
     ·omega,Classical.not_not.1 fun e=>c (.inr e)⟩]
  omega
theorem abB (hn:1<=n):gE k n=bS k n n:=by
 have:=Mm (k:=k) (n:=n) (i:=n-1) (by omega)
 rw[show n-1+1=n by omega,if_neg (by omega)]at this
 exact this
theorem Q4 {i:Nat} (hi:i<n):cR k n n (i+bS k n i)=k i/\cR k n n (i+bS k n i+1)=(if i+1=n\/k i≠k (i+1)then k i else k (i+1)):=by
 refine⟨nD hi (Nat.le_refl _) (by have:=(pN (k:=k) (n:=n) (i:=i)).1;omega),?_⟩
 by_cases c:i+1=n\/k i≠k (i+1)
 ·rw[if_pos c,nD hi (by omega) (by rw[zA c];omega)]
 ·have hi2:i+1<n:=by
   by_cases e:i+1=n
   ·exact absurd (.inl e) c
   ·omega
  rw[if_neg c,nD (i:=i+1) hi2 (by rw[vi c];omega) (by have:=(pN (k:=k) (n:=n) (i:=i+1)).1;rw[vi c]at this;omega)]
theorem ai5 {i:Nat} (hi:i<n):cR k n n (i+gE k i)=k i/\(i=0\/k i≠k (i-1)->cR k n n (i+gE k i+1)=k i):=by
 have same:(if i+1=n\/k i≠k (i+1)then k i else k (i+1))=k i:=by
  split
  ·rfl
  ·rename_i c;exact(Classical.not_not.1 fun e=>c (.inr e)).symm
 obtain⟨h1,h2⟩:=Q4 (k:=k) hi
 rw[same]at h2
 cases i with
 |zero=>exact⟨h1,fun _=>h2⟩
 |succ i=>
  rw[Mm (n:=n) (i:=i) (by omega)]
  by_cases c:i+1<n/\k i=k (i+1)
  ·rw[if_pos c]
   exact⟨h2,fun g=>by
    rcases g with g|g
    ·omega
    ·exact absurd c.2.symm g⟩
  ·rw[if_neg c]
   exact⟨h1,fun _=>h2⟩
end
end Go.Am.B
