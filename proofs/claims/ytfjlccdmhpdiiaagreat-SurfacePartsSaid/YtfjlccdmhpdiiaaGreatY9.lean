/- surface: transposed, alongU. -/
import Derived.Test.YtfjlccdmhpdiiaaGreatY8
import Derived.Test.YtfjlccdmhpdiiaaGreatZ2
import Derived.Test.YtfjlccdmhpdiiaaGreatY7
set_option linter.unusedVariables false
noncomputable section
namespace Go.Am.B
open Go Go.Am.N AV ag aq IntKind Proofs.Tryz
theorem Dg:aW 97 f97:=aT func97
theorem HA:aW 135 f135:=aT func135
abbrev xS:Code:=aF f97
abbrev yI:Code:=part xS [1,1,1,0,1,0,0]
abbrev w8:Code:=part yI [1,1,0,0]
abbrev rM:List Nat:=[2,0,3,13,14]
abbrev B1 (f:Nat->Nat->Pl) (n m r j:Nat):List AV:=[.nil,fN f n m r,.own 0 1 0 j,.int .i64 m,.int .i64 j]
abbrev zl:List Nat:=[2,0,3,13,14,4,5,18,19]
abbrev E3 (f:Nat->Nat->Pl) (n m r j i:Nat):List AV:=[.nil,fN f n m r,.own 0 1 0 j,.int .i64 m,.int .i64 j,.int .i64 j,.own 1 12 0 i,.int .i64 n,.int .i64 i]
abbrev xo (f:Nat->Nat->Pl) (n r j:Nat):aC:=[(0,⟨true,true,1,j,fun j=>aZ (fun i=>f i j) n r⟩)]
abbrev EZ (f:Nat->Nat->Pl) (n r j i:Nat):aC:=(1,⟨true,true,12,i,fun i=>bJ (f i j) r⟩)::xo f n r j
def cK (s:Sf) (j:Nat):Cu:=⟨s.u,s.a,s.ku,s.n,fun i=>bM (s.f i j)⟩
abbrev lD (s:Sf) (n:Nat):AV:=.ak 3 n (fun j=>dD (cK s j) 2000 (4000))
def tn:AV->Nat
 |.ak _ _ g=>(match g 0 with
  |.agg (.agg (.rat _ r::_)::_)=>r
  |_=>1)
 |_=>1
def SK:Kind ((Nat×Nat×(Nat->Nat->Pl))×Nat):=⟨fun v=>match v with
 |.ak 1 n g=>some (((n,dn (g 0),fq g),tn (g 0)),[dG g n (tn (g 0))])
 |_=>none,fun a=>fN a.1.2.2 a.1.1 a.1.2.1 a.2,fun {v a q} h hq=>by
  split at h
  ·simp only[ay,Prod.mk.injEq]at h
   obtain⟨rfl,rfl⟩:=h
   exact fB hq
  ·simp at h⟩
def BO:Spec:=cA (kC SK kN) (fun a=>fN (fun j i=>a.1.1.2.2 i j) a.1.1.2.1 a.1.1.1 a.1.2) fun a=>[a.1.1.1=0->a.1.1.2.1=0,a.1.1.1<2^28,a.1.1.2.1<2^28]
def sS:aX:=nG::(97,BO)::(192,iZ T Pq [] 80 f192)::gW
abbrev xz:Code:=aF f135
abbrev w7:Code:=part xz [1,1,0,1,0,0]
abbrev xm:Code:=part w7 [1,1,0,0]
abbrev rT:List Nat:=[2,1,3,11,12,13]
abbrev A3 (s:Sf) (j:Nat):List AV:=[.nil,.ptr 0 0 5 0 [],.own 1 3 0 j,fN (fun j i=>s.f i j) s.m s.n 2000,.int .i64 s.m,.int .i64 j]
abbrev zc:List Nat:=[2,1,3,11,12,13,6,22,23,24]
abbrev ED (s:Sf) (j i:Nat):List AV:=[.nil,.ptr 0 0 5 0 [],.own 1 3 0 j,fN (fun j i=>s.f i j) s.m s.n 2000,.int .i64 s.m,.int .i64 j,.ptr 2 0 3 0 [],aZ (fun i=>s.f i j) s.n 2000,.int .i64 s.n,.int .i64 i]
abbrev zg (s:Sf) (j:Nat):aC:=[(1,⟨true,true,3,j,fun j=>dD (cK s j) 2000 (4000)⟩),(0,⟨false,true,5,1,fun _=>bu s 2000 2000⟩)]
abbrev Gx (s:Sf) (j i:Nat):aC:=(3,⟨true,true,12,i,fun i=>bV (bM (s.f i j)) (4000)⟩)::(2,⟨false,true,3,1,fun _=>.agg [.int .i64 s.u,bD s.ku s.a 2000,.own 3 12 0 i]⟩)::zg s j
theorem ac5 {n m r:Nat} {f:Nat->Nat->Pl}:aH T [nG] [200009] 60 rM (before xS [1,1,1,0,1]) ⟨aQ 0 [fN f n m r],[],0⟩=
  some (aj [((↑n:Int)==0)=false] (aj [(0:Int)<=0/\Int.toNat (0:Int)<n] (leaf normal ([nil,ak 1 n fun i=>ak 12 m fun i_1=>bJ (f i i_1) r,nil,int i64 (↑m:Int),int i64 0],[])))):=ah
theorem Yl {n m r j:Nat} {f:Nat->Nat->Pl}:aH T [nG] [15] 60 rM (before yI [1,1,0]) ⟨aA rM (B1 f n m r j),xo f n r j,1⟩=
  let c1:List AV×aC:=([nil,ak 1 n fun i=>ak 12 m fun i_1=>bJ (f i i_1) r,own 0 1 0 j,int i64 (↑m:Int),int i64 (↑j:Int)],[(0,au.mk true true 1 j fun j=>ak 12 n fun i=>bJ (f i j) r)]);some (fork (decide ((↑j:Int)<(↑m:Int))) (leaf normal c1) (leaf (exit 0) c1)):=ah
theorem aaR {n m r j:Nat} {f:Nat->Nat->Pl}:aH T [nG] [] 60 zl (before w8 [1,1,0,1]) ⟨aA rM (B1 f n m r j),xo f n r j,1⟩=
  some (leaf normal ([nil,ak 1 n fun i=>ak 12 m fun i_1=>bJ (f i i_1) r,own 0 1 0 j,int i64 (↑m:Int),int i64 (↑j:Int),int i64 (↑j:Int),nil,int i64 (↑n:Int),int i64 0],[(0,au.mk true true 1 j fun j=>ak 12 n fun i=>bJ (f i j) r)])):=ah
theorem Wq {n m r j i:Nat} {f:Nat->Nat->Pl}:aH T [nG] [20] 60 zl [part w8 [1,1,0,1,0,0]] ⟨aA zl (E3 f n m r j i),EZ f n r j i,2⟩=
  let c10:Int:=(↑n:Int);let c9:Int:=(↑j:Int);let c7:AV:=own 0 1 0 j;let c5:Int:=(↑i:Int);let c4:AV:=rat 0 1;let c2:AV:=ak 1 n fun i=>ak 12 m fun i_1=>bJ (f i i_1) r;let c1:Nat×au:=(0,au.mk true true 1 j fun j=>ak 12 n fun i=>bJ (f i j) r);let c8:Int:=c5+1;let c6:AV:=int i64 c9;let c3:Pl:=f c5.toNat c9.toNat;some (fork (decide (c5<c10)) (aj [(0:Int)<=c5/\c5.toNat<n,(0:Int)<=c9/\c9.toNat<m,(1:Nat)*12<=2^24,(i+1)*((224:Nat)+1)*2<=2^47] (aj [-(2:Int)^63<=c8/\c8<2^63] (leaf normal ([nil,c2,c7,int i64 (↑m:Int),c6,c6,own 49154 12 0 (i+1),int i64 c10,int i64 c8],[(49154,au.mk true true 12 (i+1) fun i_1=>if i_1<i then bJ (f i_1 j) r else nth [bJ c3 r] (agg [agg [c4,c4,c4],c4]) (i_1-i+0)),c1])))) (leaf (exit 2) ([nil,c2,c7,int i64 (↑m:Int),c6,c6,own 1 12 0 i,int i64 c10,int i64 c5],[(1,au.mk true true 12 i fun i=>bJ (f i j) r),c1]))):=ah
theorem aeT {n m r j i:Nat} {f:Nat->Nat->Pl}:aH T [nG] [] 60 rM (behind w8 [1,1,0,1]++[part yI [1,1,1]]) ⟨aA zl (E3 f n m r j i),EZ f n r j i,2⟩=
  let c1:Int:=(↑j:Int)+1;some (aj [(1:Nat)*1<=2^24,(j+1)*((24:Nat)+1)*2<=2^47] (aj [-(2:Int)^63<=c1/\c1<2^63] (leaf normal ([nil,ak 1 n fun i=>ak 12 m fun i_1=>bJ (f i i_1) r,own 12290 1 0 (j+1),int i64 (↑m:Int),int i64 c1],[(12290,au.mk true true 1 (j+1) fun i_1=>if i_1<j then aZ (fun i=>f i i_1) n r else nth [ak 12 i fun i=>bJ (f (i+0) j) r] nil (i_1-j+0))])))):=ah
theorem ahg {n m r j:Nat} {f:Nat->Nat->Pl}:cy T [nG] [] 60 f97 [part xS [1,1,1,1]] ⟨aA rM (B1 f n m r j),xo f n r j,1⟩=
  some (leaf ret [ak 1 j fun i=>ak 12 n fun i_1=>bJ (f i_1 (i+0)) r]):=ah
theorem aet {r:Nat} {f:Nat->Nat->Pl}:bU T [nG] [100009] 60 f97 (aF f97) ⟨aQ 0 [fN f 0 0 r],[],0⟩=
  some (aj [((↑(0:Nat):Int)==0)=true] (leaf ret [nil])):=ah
theorem afx {s:Sf}:aH T sS [] 60 rT (before xz [1,1,0,1]) ⟨aQ 0 [bu s 2000 2000],[],0⟩=
  let c2:Nat:=(bp (bu s 2000 2000)).size;let c1:AV:=aZ (s.f 0) s.m 2000;some (aj [(0:Nat)<1,dG (fun i=>aZ (s.f i) s.m 2000) s.n (tn c1),s.n=0->dn c1=0,s.n<2^28,dn c1<2^28] (leaf normal ([nil,ptr 0 0 c2 0 [],nil,ak 1 (dn c1) fun i=>ak 12 s.n fun i_1=>agg [agg [rat (aE (rat (s.f i_1 i).n.x 2000)) (tn c1),rat (aE (rat (s.f i_1 i).n.y 2000)) (tn c1),rat (aE (rat (s.f i_1 i).n.z 2000)) (tn c1)],rat (aE (rat (s.f i_1 i).d 2000)) (tn c1)],int i64 (↑(dn c1):Int),int i64 0],[(0,au.mk false true c2 1 fun x=>bu s 2000 2000)]))):=ah
theorem ZT {s:Sf} {j:Nat}:aH T sS [14] 60 rT (before w7 [1,1,0]) ⟨aA rT (A3 s j),zg s j,2⟩=
  let c2:AV:=ak 3 s.a fun i=>rat (s.ku i) 2000;let c1:List AV×aC:=([nil,ptr 0 0 5 0 [],own 1 3 0 j,ak 1 s.m fun i=>ak 12 s.n fun i_1=>bJ (s.f i_1 i) 2000,int i64 (↑s.m:Int),int i64 (↑j:Int)],[(1,au.mk true true 3 j fun j=>agg [int i64 s.u,c2,ak 12 s.n fun i=>bV (bM (s.f i j)) 4000]),(0,au.mk false true 5 1 fun x=>agg [int i64 s.u,int i64 s.v,c2,ak 3 s.b fun i=>rat (s.kv i) 2000,ak 1 s.n fun i=>ak 12 s.m fun i_1=>bJ (s.f i i_1) 2000])]);some (fork (decide ((↑j:Int)<(↑s.m:Int))) (leaf normal c1) (leaf (exit 0) c1)):=ah
theorem aid {s:Sf} {j:Nat}:aH T sS [] 60 zc (before xm [1,1,0,1]) ⟨aA rT (A3 s j),zg s j,2⟩=
  let c4:AV:=agg [int i64 0,nil,nil];let c3:Prop:=0<1;let c2:AV:=ak 3 s.a fun i=>rat (s.ku i) 2000;let c1:Nat:=(↑j:Int).toNat;some (aj [(0:Int)<=(↑j:Int)/\c1<s.m] (aj [c3,c3,c3] (leaf normal ([nil,ptr 0 0 5 0 [],own 1 3 0 j,ak 1 s.m fun i=>ak 12 s.n fun i_1=>bJ (s.f i_1 i) 2000,int i64 (↑s.m:Int),int i64 (↑j:Int),ptr 32770 0 3 0 [],ak 12 s.n fun i=>bJ (s.f i c1) 2000,int i64 (↑s.n:Int),int i64 0],[((32770:Nat),bP fun j=>if(j==0)=true then bp (agg ((c4.kids.set 0 (bp (int i64 s.u))).set 1 (bp (bD s.ku s.a 2000))))else c4),(1,au.mk true true 3 j fun j=>agg [int i64 s.u,c2,ak 12 s.n fun i=>bV (bM (s.f i j)) 4000]),(0,au.mk false true 5 1 fun x=>agg [int i64 s.u,int i64 s.v,c2,ak 3 s.b fun i=>rat (s.kv i) 2000,ak 1 s.n fun i=>ak 12 s.m fun i_1=>bJ (s.f i i_1) 2000])])))):=ah
theorem afP {s:Sf} {j i:Nat}:aH T sS [25] 60 zc [part xm [1,1,0,1,0,0]] ⟨aA zc (ED s j i),Gx s j i,4⟩=
  let c22:AV:=int i64 s.u;let c21:Int:=(↑s.n:Int);let c20:Int:=(↑(3:Nat):Int);let c19:AV:=own 1 3 0 j;let c18:AV:=own 3 12 0 i;let c17:AV:=ptr 2 0 3 0 [];let c16:AV:=ptr 0 0 5 0 [];let c15:Int:=(↑(4:Nat):Int);let c14:Nat:=2000+2000;let c13:Int:=(↑i:Int);let c12:AV:=rat 0 1;let c9:AV:=ak 3 s.a fun i=>rat (s.ku i) 2000;let c7:Int:=(2:Int)^63;let c6:AV:=ak 12 s.n fun i=>bJ (s.f i j) 2000;let c5:Prop:=2000<2^42;let c4:AV:=ak 1 s.m fun i=>ak 12 s.n fun i_1=>bJ (s.f i_1 i) 2000;let c3:Int:=(0:Int)+1;let c2:Prop:=0<1;let c23:Int:=c13+1;let c11:Int:=c3+1;let c10:AV:=agg [c22,bD s.ku s.a 2000,c18];let c8:Pl:=s.f c13.toNat j;let c1:List (Nat×au):=[(1,au.mk true true 3 j fun j=>agg [c22,c9,ak 12 s.n fun i=>bV (bM (s.f i j)) 4000]),(0,au.mk false true 5 1 fun x=>agg [c22,int i64 s.v,c9,ak 3 s.b fun i=>rat (s.kv i) 2000,ak 1 s.n fun i=>ak 12 s.m fun i_1=>bJ (s.f i i_1) 2000])];some (fork (decide (c13<c21)) (aj [(0:Int)<=c13/\c13.toNat<s.n,c2] (aj [c2,c2,c2,(0:Int)<=0/\(0:Int)<c20,c2,c2,c2,c5,c5,(0:Int)<=0/\(0:Int)<c15,c2,-c7<=c3/\c3<c7,(0:Int)<=c3/\c3<c20,c2,c2,c2,c5,c5,(0:Int)<=c3/\c3<c15,c2,-c7<=c11/\c11<c7,(0:Int)<=c11/\c11<c20,c2,c2,c2,c5,c5,(0:Int)<=c11/\c11<c15,c2,-c7<=c11+1/\c11+1<c7,c2,c5,(1:Nat)<2^42,(0:Int)<=3/\(3:Int)<c15,c2,c2,c2,c2,(1:Nat)*12<=2^24,(i+1)*((224:Nat)+1)*2<=2^47,c2] (aj [-c7<=c23/\c23<c7] (leaf normal ([nil,c16,c19,c4,int i64 (↑s.m:Int),int i64 (↑j:Int),c17,c6,int i64 c21,int i64 c23],(40964,au.mk true true 12 (i+1) fun i_1=>if i_1<i then bV (bM (s.f i_1 j)) 4000 else nth [agg [rat (c8.d*c8.n.x) c14,rat (c8.d*c8.n.y) c14,rat (c8.d*c8.n.z) c14,rat (c8.d+0) ((2000:Nat)+1+1)]] (agg [c12,c12,c12,c12]) (i_1-i+0))::((2:Nat),bP fun j=>if(j==0)=true then agg (c10.kids.set 2 (bp (own (nat_lit 40963+1) 12 0 (i+1))))else c10)::c1))))) (leaf (exit 2) ([nil,c16,c19,c4,int i64 (↑s.m:Int),int i64 (↑j:Int),c17,c6,int i64 c21,int i64 c13],(3,au.mk true true 12 i fun i=>bV (bM (s.f i j)) 4000)::((2:Nat),bP fun x=>agg [c22,c9,c18])::c1))):=ah
theorem aiT {s:Sf} {j i:Nat}:aH T sS [] 60 rT (behind xm [1,1,0,1]++[part w7 [1,1,1]]) ⟨aA zc (ED s j i),Gx s j i,4⟩=
  let c2:Int:=(↑j:Int)+1;let c1:AV:=ak 3 s.a fun i=>rat (s.ku i) 2000;some (aj [(0:Nat)<1,(1:Nat)*3<=2^24,(j+1)*((56:Nat)+1)*2<=2^47] (aj [-(2:Int)^63<=c2/\c2<2^63] (leaf normal ([nil,ptr 0 0 5 0 [],own 12292 3 0 (j+1),ak 1 s.m fun i=>ak 12 s.n fun i_1=>bJ (s.f i_1 i) 2000,int i64 (↑s.m:Int),int i64 c2],[(12292,au.mk true true 3 (j+1) fun i_1=>if i_1<j then dD (cK s i_1) 2000 4000 else nth [agg [int i64 s.u,c1,ak 12 i fun i=>bV (bM (s.f (i+0) j)) 4000]] (agg [int i64 0,nil,nil]) (i_1-j+0)),(0,au.mk false true 5 1 fun x=>agg [int i64 s.u,int i64 s.v,c1,ak 3 s.b fun i=>rat (s.kv i) 2000,ak 1 s.n fun i=>ak 12 s.m fun i_1=>bJ (s.f i i_1) 2000])])))):=ah
theorem aiB {s:Sf} {j:Nat}:cy T sS [] 60 f135 [part xz [1,1,1]] ⟨aA rT (A3 s j),zg s j,2⟩=
  some (leaf ret [ak 3 j fun i=>agg [int i64 s.u,ak 3 s.a fun i=>rat (s.ku i) 2000,ak 12 s.n fun i_1=>bV (bM (s.f i_1 (i+0))) 4000]]):=ah
theorem rowAt {j:Nat} {rl:List (Nat×Nat)} {g:Nat->AV} {v z:AV} {k:Nat} (hk:k<j+1) (hg:keys (g k)=[]) (hv:v=g j):ia rl (if k<j then g k else nth [v] z (k-j+0)) (g k):=by
 by_cases h:k<j
 ·rw[if_pos h];exact cR hg rfl
 ·have:k=j:=aa
  subst this
  rw[if_neg h,Nat.sub_self,hv];exact cR hg rfl
theorem agt {n m r:Nat} {f:Nat->Nat->Pl} (hn:1<=n) (h2:n<2^28) (h3:m<2^28) (K:Nat):aS P 97 K [fN f n m r] [] (aJ (fN (fun j i=>f i j) m n r) []):=by
 refine fX (r:=aJ (fN (fun j i=>f i j) m n r) []) hT Dg rfl aV rfl (fun _ cx h00=>?_) K []
 have hk:=jk h00
 refine ax.r6 hT (cz bB) hm (x:=xS) [1,1,1,0,1] (i:=0) (y:=yI) (z:=part xS [1,1,1,1]) ah ah ah Dg.dst [1,1,0] (j:=1) (x1:=w8) (zb:=part yI [1,1,1]) ah ah ah [1,1,0,1] (i2:=2) (y2:=part w8 [1,1,0,1,0,0]) ah ah rfl
  hk (f1:=[200009]) (f2:=[15]) (f3:=[]) (f4:=[20]) (f5:=[]) 60 rM zl 1 2 (fun j:Nat=>B1 f n m r j) (fun j=>xo f n r j) (fun j=>j<=m) (fun j=>j=m) (fun j=>m-j) (fun j=>j<m) (fun _=>False) (fun _=>False)
  (fun j (i:Nat)=>E3 f n m r j i) (fun j i=>EZ f n r j i) (fun _ i=>i<=n) (fun _ i=>i=n) (fun _ i=>n-i) ⟨_,ac5,?_⟩ (fun j hj=>⟨_,Yl,?_⟩) (fun j hj hg=>⟨_,aaR,?_⟩) (fun j hj hg i hi=>⟨_,Wq,?_⟩) (fun j hj hg i hi=>⟨_,aeT,?_⟩) (fun j hj=>?_) (fun _ _ h=>h.elim) (fun _ _ h=>h.elim)
 all_goals try simp only[ag.all,az,bk,bt,bf,Nat.add_zero]
 ·exact⟨beq_eq_false_iff_ne.2 aa,aa,0,Nat.zero_le _,[],rfl,rfl,rfl,ko rfl aa aa trivial⟩
 ·exact⟨fun h=>⟨aa,[(0,0)],rfl,rfl,rfl,dQ trivial⟩,fun h=>⟨rfl,j,aa,[(0,0)],rfl,rfl,rfl,dQ trivial⟩⟩
 ·exact⟨0,Nat.zero_le _,[(0,0)],rfl,rfl,rfl,ko rfl aa aa (dQ trivial)⟩
 ·refine⟨fun h=>⟨⟨aa,aa,aa,aa⟩,aa,i+1,aa,by dsimp only;omega,[(0,0),(1,49154)],rfl,rfl,rfl,b7 rfl rfl rfl (fun k hk=>OW (y:=fun i=>f i j) (fun _ _=>rfl) (.refl _) rfl bz bz hk) (dQ trivial)⟩,
   fun h=>⟨rfl,i,aa,[(0,0),(1,1)],rfl,rfl,rfl,dQ (dQ trivial)⟩⟩
 ·subst hi
  exact⟨⟨aa,aa⟩,aa,j+1,aa,by dsimp only;omega,[(0,12290)],rfl,rfl,rfl,b7 rfl rfl rfl (fun k hk=>rowAt (g:=fun j=>aZ (fun k=>f k j) i r) hk rfl rfl) trivial⟩
 ·subst hj
  refine ax.gZ ((aG.fin hT (cz bB) hm 60 ahg ah ?_).mono fun _ _ h=>.inl h)
  simp only[ag.all,az]
  exact .refl _
theorem aaL {r:Nat} {f:Nat->Nat->Pl} (K:Nat):aS P 97 K [fN f 0 0 r] [] (aJ (fN (fun j i=>f i j) 0 0 r) []):=by
 refine bX (r:=aJ (fN (fun j i=>f i j) 0 0 r) []) hT (cz bB) hm Dg rfl aV rfl 60 aet (fun _=>?_) K []
 simp only[ag.all,az]
 exact⟨rfl,iJ (es:=1) (by decide)⟩
theorem Fz:aU P BO 97:=ct fun⟨⟨⟨n,m,f⟩,r⟩,_⟩ K hn=>by
 obtain⟨h1,h2,h3⟩:(n=0->m=0)/\n<2^28/\m<2^28:=hn
 rcases Nat.eq_zero_or_pos n with h0|h0
 ·obtain rfl:=h1 h0
  subst h0
  exact aaL K
 ·exact agt h0 h2 h3 K
theorem I8:bq P sS:=cz (aI Fz (aI (jn hT agF hm aeX _ _) iN))
theorem W8 {s:Sf} (hn:1<=s.n) (h2:s.n<2^28) (h3:s.m<2^28) (K:Nat):aS P 135 K [bu s 2000 2000] [] (aJ (lD s s.m) []):=by
 refine fX (r:=aJ (lD s s.m) []) hT HA rfl aV rfl (fun _ cx h00=>?_) K []
 have hk:=jk h00
 refine ax.r6 hT I8 hm (x:=xz) [1,1,0,1] (i:=0) (y:=w7) (z:=part xz [1,1,1]) ah ah ah HA.dst [1,1,0] (j:=1) (x1:=xm) (zb:=part w7 [1,1,1]) ah ah ah [1,1,0,1] (i2:=2) (y2:=part xm [1,1,0,1,0,0]) ah ah rfl
  hk (f1:=[]) (f2:=[14]) (f3:=[]) (f4:=[25]) (f5:=[]) 60 rT zc 2 4 (fun j:Nat=>A3 s j) (fun j=>zg s j) (fun j=>j<=s.m) (fun j=>j=s.m) (fun j=>s.m-j) (fun j=>j<s.m) (fun _=>False) (fun _=>False)
  (fun j (i:Nat)=>ED s j i) (fun j i=>Gx s j i) (fun _ i=>i<=s.n) (fun _ i=>i=s.n) (fun _ i=>s.n-i) ⟨_,afx,?_⟩ (fun j hj=>⟨_,ZT,?_⟩) (fun j hj hg=>⟨_,aid,?_⟩) (fun j hj hg i hi=>⟨_,afP,?_⟩) (fun j hj hg i hi=>⟨_,aiT,?_⟩) (fun j hj=>?_) (fun _ _ h=>h.elim) (fun _ _ h=>h.elim)
 all_goals try simp only[ag.all,az,bk,bt,bf,Nat.add_zero]
 ·have e1:dn (aZ (s.f 0) s.m 2000)=s.m:=rfl
  rw[e1]
  exact⟨⟨aa,fc bz,aa,h2,h3⟩,0,Nat.zero_le _,[(0,0)],rfl,rfl,rfl,ko rfl aa aa (aM trivial)⟩
 ·exact⟨fun h=>⟨aa,[(0,0),(1,1)],rfl,rfl,rfl,dQ (aM trivial)⟩,fun h=>⟨rfl,j,aa,[(0,0),(1,1)],rfl,rfl,rfl,dQ (aM trivial)⟩⟩
 ·exact⟨aa,⟨aa,aa,aa⟩,0,Nat.zero_le _,[(0,0),(1,1),(2,32770)],rfl,rfl,rfl,ko rfl aa aa (dh rfl rfl (nF ⟨aL,aL,⟨rfl,qc aa⟩,trivial⟩) (dQ (aM trivial)))⟩
 ·refine⟨fun h=>?_,fun h=>⟨rfl,i,aa,[(0,0),(1,1),(2,2),(3,3)],rfl,rfl,rfl,dQ (dh rfl rfl (qp rfl rfl rfl) (dQ (aM trivial)))⟩⟩
  (repeat' with_reducible refine And.intro ?_ ?_)
  all_goals first|omega|skip
  exact⟨i+1,aa,by dsimp only;omega,[(0,0),(1,1),(2,2),(3,40964)],rfl,rfl,rfl,b7 rfl rfl rfl (fun k hk=>qS (g:=fun i=>bV (bM (s.f i j)) (4000)) (fun _ _=>⟨rfl,rfl⟩) rfl (cL ⟨cB rfl bz,cB rfl bz,cB rfl bz,cB (Rat.add_zero _) (by decide),trivial⟩) hk) (dh rfl rfl (qp rfl rfl rfl) (dQ (aM trivial)))⟩
 ·subst hi
  exact⟨⟨aa,aa,aa⟩,aa,j+1,aa,by dsimp only;omega,[(0,0),(1,12292)],rfl,rfl,rfl,b7 rfl rfl rfl (fun k hk=>rowAt (g:=fun j=>dD (cK s j) 2000 (4000)) hk rfl rfl) (aM trivial)⟩
 ·subst hj
  refine ax.gZ ((aG.fin hT I8 hm 60 aiB ah ?_).mono fun _ _ h=>.inl h)
  simp only[ag.all,az]
  exact .refl _
def Dv:Spec:=cA (kC (ir 2000 2000) kN) (fun a=>lD a.1 a.1.m) fun a=>[1<=a.1.n,a.1.n<2^28,a.1.m<2^28]
theorem Qx:aU P Dv 135:=ct fun⟨s,_⟩ K hn=>W8 hn.1 hn.2.1 hn.2.2 K
structure de (s:Sf):Prop where
 ku:Kn s.a s.u.toNat s.ku
 kv:Kn s.b s.v.toNat s.kv
 u0:0<=s.u
 u6:s.u<=6
 v0:0<=s.v
 v6:s.v<=6
 a:s.a<=s.u.toNat+41
 b:s.b<=s.v.toNat+41
 n:(s.n:Int)=(s.a:Int)-s.u-1
 m:(s.m:Int)=(s.b:Int)-s.v-1
 w:∀i j,i<s.n->j<s.m->0<(s.f i j).d
theorem I3 {u v:AV} (h:bh u v):bh (.bg u) (.bg v):=by
 refine⟨rfl,fun M w cs hc=>?_⟩
 cases hc with
 |bg h1 h2 h3=>cases h3;exact .bg (h.2 _ _ _ h1) h2 .nil
theorem VC {f:FuncId} {us vs:List AV} (h:fR us vs) (hv:(vs.all fun v=>!v.isAgg&&!v.isTuple)=true):bh (.func f us) (.func f vs):=by
 refine⟨rfl,fun M w cs hc=>?_⟩
 cases hc with
 |func h1 h2 h3=>cases h3;exact .func (B5 h h1) hv .nil
def AH {α:Type} (k:Kind α):Kind α:=⟨fun v=>match v with
 |.bg v=>k.read v
 |_=>none,fun a=>.bg (k.make a),fun {v a q} h hq=>by
  split at h
  ·exact I3 (k.ok h hq)
  ·simp at h⟩
def zV {α:Type} (k:Kind α):Kind (FuncId×α):=⟨fun v=>match v with
 |.func f [.bg v]=>match k.read v with
  |some (a,q)=>some ((f,a),q)
  |none=>none
 |_=>none,fun a=>.func a.1 [.bg (k.make a.2)],fun {v a q} h hq=>by
  split at h
  ·split at h
   ·rename_i h1
    simp only[ay,Prod.mk.injEq]at h
    obtain⟨rfl,rfl⟩:=h
    exact VC ⟨I3 (k.ok h1 hq),trivial⟩ rfl
   ·simp at h
  ·simp at h⟩
theorem afD:aW 153 f153:=aT func153
theorem RD:aW 94 f94:=aT func94
theorem Kq:aW 160 f160:=aT func160
theorem Q7:aW 93 f93:=aT func93
theorem IE:aW 76 f76:=aT func76
theorem Zw:aW 52 f52:=aT func52
def Dq:aX:=nG::(152,zG)::[]
def Is:Spec:=cA (kC (qq sJ) (kC (AH (ir sJ sJ)) kN)) (fun _=>.bool false) fun a=>[(a.1.1:Int)=(a.2.1.b:Int)-a.2.1.v-1,a.2.1.b<2^40,-2^40<a.2.1.v,a.2.1.v<2^40]
def IN:Spec:=cA (kC (qq sJ) (kC (AH (ir sJ sJ)) kN)) (fun _=>.bool false) fun a=>[a.1.1=a.2.1.m,1<=a.2.1.n]
def v5 (m:Nat) (g:FuncId) (s:Sf):Prop:=(g=153/\(m:Int)=(s.b:Int)-s.v-1/\s.b<2^40/\-2^40<s.v/\s.v<2^40)\/(g=94/\m=s.m/\1<=s.n)
def yb:aX:=nG::(153,Is)::(94,IN)::[]
abbrev qh:List Nat:=[4,0,1,7,8]
abbrev wE (f:Nat->Nat->Pl) (n m i:Nat) (g:FuncId) (s:Sf):List AV:=[.int .i64 0,fN f n m sJ,.func g [.bg (bu s sJ sJ)],.int .i64 n,.int .i64 i]
abbrev qu:Code:=aF f160
def Io:Spec:=cA (kC (uD sJ) (kC (zV (ir sJ sJ)) kN)) (fun _=>.int .i64 (-1)) fun a=>[a.1.1<2^40,v5 a.1.2.1 a.2.1.1 a.2.1.2]
def E8:Spec:=cA (kC (uD sJ) (kC (zV (ir sJ sJ)) kN)) (fun _=>.bool false) fun a=>[a.1.1<2^40,v5 a.1.2.1 a.2.1.1 a.2.1.2]
def N8:aX:=nG::(160,Io)::[]
def DM:aX:=nG::(152,zG)::(93,E8)::[]
def CT:Spec:=cA (kC (ir sJ sJ) kN) (fun _=>.bool true) fun a=>[de a.1]
def Px:aX:=nG::(75,Cg)::(76,CT)::[]
theorem agU {m:Nat} {f:Nat->Pl} {s:Sf}:bU T Dq [] 60 f153 (aF f153) ⟨aQ 0 [aZ f m sJ,.bg (bu s sJ sJ)],[],0⟩=
  some (aj [bn (fun i=>rat (s.kv i) sJ) s.b sK,s.b<2^40,-(2:Int)^40<s.v,s.v<2^40] (leaf ret [AV.bool ((↑m:Int)!=(↑s.b:Int)-s.v-1)])):=ah
theorem acR {m:Nat} {f:Nat->Pl} {s:Sf}:bU T Dq [] 60 f94 (aF f94) ⟨aQ 0 [aZ f m sJ,.bg (bu s sJ sJ)],[],0⟩=
  some (aj [(0:Int)<=0/\Int.toNat (0:Int)<s.n] (leaf ret [AV.bool ((↑m:Int)!=(↑s.m:Int))])):=ah
theorem KN {f:Nat->Nat->Pl} {n m:Nat} {g:FuncId} {s:Sf}:aH T yb [] 60 qh (before qu [1,0,1]) ⟨aQ 0 [fN f n m sJ,.func g [.bg (bu s sJ sJ)]],[],0⟩=
  some (leaf normal ([int i64 0,ak 1 n fun i=>ak 12 m fun i_1=>bJ (f i i_1) 4000,func g [(bu s 4000 4000).bg],int i64 (↑n:Int),int i64 0],[])):=ah
theorem T4 {f:Nat->Nat->Pl} {n m i:Nat} {s:Sf}:aH T yb [9] 60 qh [part qu [1,0,1,0,0]] ⟨aA qh (wE f n m i 153 s),[],0⟩=
  let c5:Int:=(↑n:Int);let c3:Int:=(↑i:Int);let c2:AV:=ak 1 n fun i=>ak 12 m fun i_1=>bJ (f i i_1) 4000;let c1:AV:=func 153 [(bu s 4000 4000).bg];let c4:Int:=c3+1;some (fork (decide (c3<c5)) (aj [(0:Int)<=c3/\c3.toNat<n,lW (fun i=>bJ (f c3.toNat i) sJ) m sJ,bn (fun i=>rat (s.ku i) sJ) s.a sJ,bn (fun i=>rat (s.kv i) sJ) s.b sJ,dG (fun i=>aZ (s.f i) s.m sJ) s.n sJ,(↑m:Int)=(↑s.b:Int)-s.v-1,s.b<2^40,-(2:Int)^40<s.v,s.v<2^40] (aj [-(2:Int)^63<=c4/\c4<2^63] (leaf normal ([int i64 0,c2,c1,int i64 c5,int i64 c4],[])))) (leaf (exit 0) ([int i64 0,c2,c1,int i64 c5,int i64 c3],[]))):=ah
theorem V7 {f:Nat->Nat->Pl} {n m i:Nat} {s:Sf}:aH T yb [9] 60 qh [part qu [1,0,1,0,0]] ⟨aA qh (wE f n m i 94 s),[],0⟩=
  let c5:Int:=(↑n:Int);let c3:Int:=(↑i:Int);let c2:AV:=ak 1 n fun i=>ak 12 m fun i_1=>bJ (f i i_1) 4000;let c1:AV:=func 94 [(bu s 4000 4000).bg];let c4:Int:=c3+1;some (fork (decide (c3<c5)) (aj [(0:Int)<=c3/\c3.toNat<n,lW (fun i=>bJ (f c3.toNat i) sJ) m sJ,bn (fun i=>rat (s.ku i) sJ) s.a sJ,bn (fun i=>rat (s.kv i) sJ) s.b sJ,dG (fun i=>aZ (s.f i) s.m sJ) s.n sJ,m=dn (aZ (s.f 0) s.m sJ),(1:Nat)<=s.n] (aj [-(2:Int)^63<=c4/\c4<2^63] (leaf normal ([int i64 0,c2,c1,int i64 c5,int i64 c4],[])))) (leaf (exit 0) ([int i64 0,c2,c1,int i64 c5,int i64 c3],[]))):=ah
theorem I9 {f:Nat->Nat->Pl} {n m i:Nat} {g:FuncId} {s:Sf}:cy T yb [] 60 f160 [part qu [1,1]] ⟨aA qh (wE f n m i g s),[],0⟩=
  some (leaf ret [int i64 (-1:Int)]):=ah
theorem VQ {f:Nat->Nat->Pl} {n m:Nat} {g:FuncId} {s:Sf}:bU T N8 [] 60 f93 (aF f93) ⟨aQ 0 [fN f n m sJ,.func g [.bg (bu s sJ sJ)]],[],0⟩=
  some (aj [dG (fun i=>aZ (f i) m sJ) n sJ,bn (fun i=>rat (s.ku i) sJ) s.a sJ,bn (fun i=>rat (s.kv i) sJ) s.b sJ,dG (fun i=>aZ (s.f i) s.m sJ) s.n sJ,n<2^40,v5 (dn (aZ (f 0) m sJ)) g (Sf.mk s.u s.v s.a (fun i=>aE (rat (s.ku i) sJ)) s.b (fun i=>aE (rat (s.kv i) sJ)) s.n (dn (aZ (s.f 0) s.m sJ)) (fq fun i=>aZ (s.f i) s.m sJ))] (leaf ret [AV.bool false])):=ah
theorem aij {s:Sf}:aH T DM [] 60 [1,2] (before (aF f76) [1]) ⟨aQ 0 [bu s sJ sJ],[],0⟩=
  let c1:Nat:=(bp (bu s sJ sJ)).size;some (leaf normal ([ptr 0 0 c1 0 [],AV.bool false],[(0,au.mk false true c1 1 fun x=>bu s 4000 4000)])):=ah
theorem abL {s:Sf}:cy T DM [100012] 60 f76 [part (aF f76) [1]] ⟨aA [1,2] [.bg (bu s sJ sJ),.bool false],[(0,⟨false,false,5,1,fun _=>bu s sJ sJ⟩)],1⟩=
  let c2:Nat:=dn (aZ (s.f 0) s.m sJ);let c1:Prop:=dG (fun i=>aZ (s.f i) s.m sJ) s.n sJ;some (aj [bn (fun i=>rat (s.ku i) sJ) s.a sK,s.a<2^40,-(2:Int)^40<s.u,s.u<2^40,((↑s.n:Int)==(↑s.a:Int)-s.u-1)=true,c1,bn (fun i=>rat (s.ku i) sJ) s.a sJ,bn (fun i=>rat (s.kv i) sJ) s.b sJ,c1,s.n<2^40,v5 c2 153 (Sf.mk s.u s.v s.a (fun i=>aE (rat (s.ku i) sJ)) s.b (fun i=>aE (rat (s.kv i) sJ)) s.n c2 (fq fun i=>aZ (s.f i) s.m sJ))] (leaf ret [AV.bool true])):=ah
theorem ajA {s:Sf}:bU T Px [100009,100017] 60 f52 (aF f52) ⟨aQ 0 [bu s sJ sJ],[],0⟩=
  let c3:Prop:=bn (fun i=>rat (s.ku i) sJ) s.a sJ;let c2:Prop:=bn (fun i=>rat (s.kv i) sJ) s.b sJ;let c1:Prop:=0<1;some (aj [c1,c1,c3,s.a<2^40,(gC s.a (fun i=>aE (rat (s.ku i) sJ)) s.u==0)=true,c1,c1,c2,s.b<2^40,(bif true then gC s.b (fun i=>aE (rat (s.kv i) sJ)) s.v==0 else false)=true,c1,c3,c2,dG (fun i=>aZ (s.f i) s.m sJ) s.n sJ,de (Sf.mk s.u s.v s.a (fun i=>aE (rat (s.ku i) sJ)) s.b (fun i=>aE (rat (s.kv i) sJ)) s.n (dn (aZ (s.f 0) s.m sJ)) (fq fun i=>aZ (s.f i) s.m sJ))] (leaf ret [AV.bool true])):=ah
theorem JM:bq P Dq:=cz (aI z6 bB)
theorem ZB:aU P Is 153:=ct fun⟨⟨m,f⟩,s,_⟩ K hn=>by
 obtain⟨h1,h2,h3,h4⟩:=hn
 refine bX (r:=aJ (.bool false) []) hT JM hm afD rfl aV rfl 60 (agU (m:=m) (f:=f) (s:=s)) (fun _=>?_) K []
 dsimp only at h1 h2 h3 h4
 simp only[ag.all,az]
 (repeat' with_reducible refine And.intro ?_ ?_)
 all_goals first|omega|exact bI (by decide)|skip
 exact fF (bne_eq_false_iff_eq.2 h1)
theorem Ui:aU P IN 94:=ct fun⟨⟨m,f⟩,s,_⟩ K hn=>by
 obtain⟨h1,h2⟩:=hn
 refine bX (r:=aJ (.bool false) []) hT JM hm RD rfl aV rfl 60 (acR (m:=m) (f:=f) (s:=s)) (fun _=>?_) K []
 dsimp only at h1 h2
 simp only[ag.all,az]
 (repeat' with_reducible refine And.intro ?_ ?_)
 all_goals first|omega|exact fF (bne_eq_false_iff_eq.2 aa)|skip
 exact h2
theorem JT:bq P yb:=cz (aI ZB (aI Ui bB))
theorem aii {f:Nat->Nat->Pl} {n m:Nat} {g:FuncId} {s:Sf} (hn:n<2^40) (hg:v5 m g s) (K:Nat):aS P 160 K [fN f n m sJ,.func g [.bg (bu s sJ sJ)]] [] (aJ (.int .i64 (-1)) []):=by
 have lv:dn (aZ (s.f 0) s.m sJ)=s.m:=rfl
 rcases hg with⟨rfl,h1,h2,h3,h4⟩|⟨rfl,h1,h2⟩
 ·refine iB (r:=aJ (.int .i64 (-1)) []) hT JT hm Kq rfl aV rfl [1,0,1] (i:=0) (y:=part qu [1,0,1,0,0]) (z:=part qu [1,1]) ah ah ah (f1:=[]) (f2:=[9]) (f3:=[]) 60 qh 0
   (fun i:Nat=>wE f n m i 153 s) (fun _=>[]) (fun i=>i<=n) (fun i=>i=n) (fun i=>n-i) (fun _=>⟨⟨_,KN,?_⟩,fun i hi=>⟨_,T4,?_⟩,fun i hi=>⟨_,I9,?_⟩⟩) K []
  ·simp only[ag.all,az]
   exact⟨0,Nat.zero_le _,[],rfl,rfl,rfl,trivial⟩
  ·simp only[ag.all,az,bk,bt,bf]
   exact⟨fun h=>⟨⟨aa,ql bz,bI bz,bI bz,fc bz,h1,h2,h3,h4⟩,aa,i+1,aa,by dsimp only;omega,[],rfl,rfl,rfl,trivial⟩,fun h=>⟨rfl,i,aa,[],rfl,rfl,rfl,trivial⟩⟩
  ·simp only[ag.all,az]
   exact .refl _
 ·refine iB (r:=aJ (.int .i64 (-1)) []) hT JT hm Kq rfl aV rfl [1,0,1] (i:=0) (y:=part qu [1,0,1,0,0]) (z:=part qu [1,1]) ah ah ah (f1:=[]) (f2:=[9]) (f3:=[]) 60 qh 0
   (fun i:Nat=>wE f n m i 94 s) (fun _=>[]) (fun i=>i<=n) (fun i=>i=n) (fun i=>n-i) (fun _=>⟨⟨_,KN,?_⟩,fun i hi=>⟨_,V7,?_⟩,fun i hi=>⟨_,I9,?_⟩⟩) K []
  ·simp only[ag.all,az]
   exact⟨0,Nat.zero_le _,[],rfl,rfl,rfl,trivial⟩
  ·simp only[ag.all,az,bk,bt,bf,lv]
   exact⟨fun h=>⟨⟨aa,ql bz,bI bz,bI bz,fc bz,h1,h2⟩,aa,i+1,aa,by dsimp only;omega,[],rfl,rfl,rfl,trivial⟩,fun h=>⟨rfl,i,aa,[],rfl,rfl,rfl,trivial⟩⟩
  ·simp only[ag.all,az]
   exact .refl _
theorem ae7:aU P Io 160:=ct fun⟨⟨n,m,f⟩,⟨g,s⟩,_⟩ K hn=>aii hn.1 hn.2 K
theorem adK:bq P N8:=cz (aI ae7 bB)
theorem Lh:aU P E8 93:=ct fun⟨⟨n,m,f⟩,⟨g,s⟩,_⟩ K hn=>by
 refine bX (r:=aJ (.bool false) []) hT adK hm Q7 rfl aV rfl 60 (VQ (f:=f) (n:=n) (m:=m) (g:=g) (s:=s)) (fun _=>?_) K []
 simp only[ag.all,az]
 exact⟨⟨fc bz,bI bz,bI bz,fc bz,hn.1,hn.2⟩,.refl _⟩
theorem P3:bq P DM:=cz (aI z6 (aI Lh bB))
theorem DF:aU P CT 76:=ct fun⟨s,_⟩ K hn=>by
 have hs:de s:=hn
 obtain⟨ku,kv,u0,u6,v0,v6,ha,hb,hn',hm2,hw⟩:=id hs
 refine fX (r:=aJ (.bool true) []) hT IE rfl aV rfl (fun _ cx h00=>?_) K []
 have hk:=jk h00
 refine ax.hole [1] ah (aG.bE hT P3 hm 60 [1,2] aij (jM IE.dst) ?_)
 intro s' hs'
 show ax _ _ _ (part (aF f76) [1]) s' _
 rw[show behind (aF f76) [1]=[]from by kernel_rfl]
 refine ax.ja (s2:=⟨aA [1,2] [.ptr 0 0 5 0 [],.bool false],[(0,⟨false,true,5,1,fun _=>bu s sJ sJ⟩)],1⟩) (dN.le ⟨[(0,0)],rfl,rfl,rfl,aM trivial⟩ hs' hk) ((?_:ax P cx f76.ntmps (part (aF f76) [1]) _ (dH cx (Fin T f76 (.bool true)))).mono fun e s' h=>by cases e<;>exact h)
 refine ax.tE (t:=1) (k:=0) rfl rfl rfl rfl rfl ?_
 refine ax.gZ ((aG.fin hT P3 hm 60 abL ah ?_).mono fun _ _ h=>.inl h)
 have lv:dn (aZ (s.f 0) s.m sJ)=s.m:=rfl
 simp only[ag.all,az,lv]
 (repeat' with_reducible refine And.intro ?_ ?_)
 all_goals first|omega|exact bI (by decide)|exact fc bz|exact beq_iff_eq.2 hn'|exact .inl ⟨rfl,hm2,by dsimp only;omega,by dsimp only;omega,by dsimp only;omega⟩|exact .refl _|skip
theorem ZJ:bq P Px:=cz (aI Hr (aI DF bB))
def Cl:Spec:=cA (kC (ir sJ sJ) kN) (fun _=>.bool true) fun a=>[de a.1]
theorem EI:aU P Cl 52:=ct fun⟨s,_⟩ K hn=>by
 have hs:de s:=hn
 obtain⟨ku,kv,u0,u6,v0,v6,ha,hb,hn',hm2,hw⟩:=id hs
 refine bX (r:=aJ (.bool true) []) hT ZJ hm Zw rfl aV rfl 60 ajA (fun _=>?_) K []
 have c1:gC s.a (fun i=>aE (rat (s.ku i) sJ)) s.u=0:=by have:=ku.zK aa ha;rwa [Int.toNat_of_nonneg u0]at this
 have c2:gC s.b (fun i=>aE (rat (s.kv i) sJ)) s.v=0:=by have:=kv.zK aa hb;rwa [Int.toNat_of_nonneg v0]at this
 simp only[ag.all,az,cond_true]
 (repeat' with_reducible refine And.intro ?_ ?_)
 all_goals first|omega|exact bI (by decide)|exact fc bz|exact beq_iff_eq.2 c1|exact beq_iff_eq.2 c2|exact hs|exact .refl _|skip
theorem Tu:aW 116 f116:=aT func116
abbrev Ct (y m:Nat) (k:Nat->Rat):au:=⟨true,true,3,m,fun i=>.rat (k i) y⟩
abbrev x7:Code:=aF f116
abbrev yB:List Nat:=[3,9,10,11]
abbrev DO (x n:Nat) (k:Nat->Rat) (i:Nat):List AV:=[.own 0 3 0 i,bD k n x,.int .i64 n,.int .i64 i]
def By:aX:=nG::gW
theorem aax {x n:Nat} {k:Nat->Rat}:aH T By [] 60 yB (before x7 [1,1,0,1]) ⟨aQ 0 [bD k n x],[],0⟩=
  let c1:Int:=(↑n:Int);some (aj [(0:Int)<=0/\(0:Int)<=c1/\c1<=2^47/\c1*(↑(56:Nat):Int)<=2^47] (leaf normal ([own 12288 3 0 0,ak 3 n fun i=>rat (k i) x,int i64 c1,int i64 0],[(12288,au.mk true true 3 0 fun x=>rat 0 1)]))):=ah
theorem afH {x y n i:Nat} {k:Nat->Rat}:aH T By [12] 60 yB [part x7 [1,1,0,1,0,0]] ⟨aA yB (DO x n k i),[(0,Ct y i k)],1⟩=
  let c4:Int:=(↑n:Int);let c2:AV:=ak 3 n fun i=>rat (k i) x;let c1:Int:=(↑i:Int);let c3:Int:=c1+1;some (fork (decide (c1<c4)) (aj [(0:Int)<=c1/\c1.toNat<n,(0:Nat)<1] (aj [(0:Nat)<1,x<2^42,(1:Nat)<2^42,(1:Nat)*3<=2^24,(i+1)*((56:Nat)+1)*2<=2^47] (aj [-(2:Int)^63<=c3/\c3<2^63] (leaf normal ([own 40961 3 0 (i+1),c2,int i64 c4,int i64 c3],[(40961,au.mk true true 3 (i+1) fun i_1=>if i_1<i then rat (k i_1) y else nth [rat (k c1.toNat+0) (x+1+1)] (rat 0 1) (i_1-i+0))]))))) (leaf (exit 0) ([own 0 3 0 i,c2,int i64 c4,int i64 c1],[(0,au.mk true true 3 i fun i=>rat (k i) y)]))):=ah
theorem af3 {x y n i:Nat} {k:Nat->Rat}:cy T By [] 60 f116 [part x7 [1,1,1]] ⟨aA yB (DO x n k i),[(0,Ct y i k)],1⟩=
  some (leaf ret [ak 3 i fun i=>rat (k (i+0)) y]):=ah
theorem acA:bq P By:=cz iN
theorem YH {x y n:Nat} {k:Nat->Rat} (hxy:x+10<=y) (hy:y<2^40) (hn:n<2^40) (K:Nat):aS P 116 K [bD k n x] [] (aJ (bD k n y) []):=by
 refine iB (r:=aJ (bD k n y) []) hT acA hm Tu rfl aV rfl [1,1,0,1] (i:=0) (y:=part x7 [1,1,0,1,0,0]) (z:=part x7 [1,1,1]) ah ah ah (f1:=[]) (f2:=[12]) (f3:=[]) 60 yB 1
  (fun i:Nat=>DO x n k i) (fun i=>[(0,Ct y i k)]) (fun i=>i<=n) (fun i=>i=n) (fun i=>n-i) (fun _=>⟨⟨_,aax,?_⟩,fun i hi=>⟨_,afH,?_⟩,fun i hi=>⟨_,af3,?_⟩⟩) K []
 ·simp only[ag.all,az]
  exact⟨aa,0,Nat.zero_le _,[(0,12288)],rfl,rfl,rfl,b7 rfl rfl rfl (fun i hi=>absurd hi (Nat.not_lt_zero i)) trivial⟩
 ·simp only[ag.all,az,bk,bt,bf,Nat.add_zero]
  exact⟨fun h2=>⟨aa,aa,aa,i+1,aa,by dsimp only;omega,[(0,40961)],rfl,rfl,rfl,b7 rfl rfl rfl (fun j hj=>v9 (fun _ _=>rfl) (Rat.add_zero _) bz aa hj) trivial⟩,fun h2=>⟨rfl,i,aa,[(0,0)],rfl,rfl,rfl,b7 rfl rfl rfl (fun j hj=>cR rfl rfl) trivial⟩⟩
 ·subst hi
  simp only[ag.all,az]
  exact tu rfl fun j hj=>rfl
def CN (x y:Nat):Spec:=cA (kC (kL x) kN) (fun a=>bD a.1.2 a.1.1 y) fun a=>[x+10<=y,y<2^40,a.1.1<2^40]
theorem He (x y:Nat):aU P (CN x y) 116:=ct fun⟨⟨n,k⟩,_⟩ K hn=>YH hn.1 hn.2.1 hn.2.2 K
theorem Gn:aW 113 f113:=aT func113
theorem aji:aW 37 f37:=aT func37
theorem Lt:aW 38 f38:=aT func38
theorem D8 {f:Nat->Pl} {m s s':Nat} (h:s<=s'):l9 (fun i=>bV (f i) s) m s':=fun _ _=>pT rfl h
def qP:Cu:=⟨0,0,fun _=>0,0,fun _=>⟨⟨0,0,0⟩,0⟩⟩
def lH (s:Sf) (u:Rat):Cu:=if bQ s.a s.ku u then qP else⟨s.v,s.b,s.kv,s.m,fun j=>fm (cK s j) u⟩
def vt:aX:=nG::(52,Cl)::(135,Dv)::(114,IA)::[]
abbrev yH:List Nat:=[4,5,3,6,21,22,23]
abbrev Gg (s:Sf) (j:Nat):List AV:=[.ptr 1 0 3 0 [],.int .i64 0,.ptr 0 0 3 0 [],.ptr 2 0 3 0 [],lD s s.m,.int .i64 s.m,.int .i64 j]
abbrev D0 (s:Sf) (u:Rat) (j:Nat):aC:=[(3,⟨true,true,12,j,fun j=>bV (fm (cK s j) u) sH⟩),(2,⟨false,true,3,1,fun _=>.agg [.int .i64 s.v,bD s.kv s.b 2000,.own 3 12 0 j]⟩),(1,⟨false,true,3,1,fun _=>.agg [.int .i64 0,.nil,.nil]⟩),(0,tP u sK)]
abbrev nw:Code:=aF f113
abbrev BQ:List Nat:=[4,5,3,21,22,23]
abbrev L6 (s:Sf):List AV:=[.ptr 1 0 3 0 [],.int .i64 0,.ptr 0 0 3 0 [],lD s s.m,.int .i64 s.m,.int .i64 ((0:Nat):Int)]
abbrev Np (u:Rat):aC:=[(1,⟨false,true,3,1,fun _=>.agg [.int .i64 0,.nil,.nil]⟩),(0,tP u sK)]
abbrev YC (u:Rat):aC:=[(0,tP u sK),(1,⟨false,true,3,1,fun j=>if(j==0)=true then bp (.agg (AV.kids (.agg [.int .i64 0,.nil,.nil])))else .agg [.int .i64 0,.nil,.nil]⟩)]
def Ii:Spec:=cA (kC (uO sK sH) (kC (gp sK) kN)) (fun a=>.tuple [bV (fm a.1 a.2.1) nX,.int .i64 (cS a.1.n a.1.k a.2.1)]) fun a=>[Kn a.1.n a.1.p.toNat a.1.k,0<=a.1.p,a.1.p<=6,a.1.n<2^40,(a.1.m:Int)=(a.1.n:Int)-a.1.p-1]
def NG:Spec:=cA (kC (FI nX) kN) (fun a=>bJ (dJ a.1) CZ) fun _=>[]
def Ff:Spec:=cA (kC (ir 2000 2000) (kC (gp sK) kN)) (fun a=>.tuple [dD (lH a.1 a.2.1) 2000 sH,.int .i64 (cS a.1.a a.1.ku a.2.1)]) fun a=>[de a.1,1<=a.1.u,1<=a.1.v]
def JG:aX:=nG::(113,Ff)::(114,Ii)::(115,NG)::[]
def Bm:aX:=nG::(113,Ff)::(116,CN 2000 sK)::(115,Pz)::[]
abbrev xJ:List Nat:=[4,5,8,28,29,30]
abbrev Hf (c:Cu) (j:Nat):List AV:=[.ptr 0 0 3 0 [],.int .i64 0,.ptr 1 0 3 0 [],qD c.f c.m sH,.int .i64 c.m,.int .i64 j]
abbrev DP (c:Cu) (j:Nat):aC:=[(2,⟨true,true,12,j,fun j=>bJ (dJ (c.f j)) sE⟩),(1,⟨false,true,3,1,fun _=>.agg [.int .i64 c.p,bD c.k c.n sK,.own 2 12 0 j]⟩),(0,⟨false,true,3,1,fun _=>.agg [.int .i64 0,.nil,.nil]⟩)]
abbrev u7:Code:=aF f38
theorem agS {e:Int}:kH T f38 .ret ⟨aA [4,5] [.ptr 8192 0 3 0 [],.int .i64 e],[(8192,⟨false,true,3,1,fun j=>if(j==0)=true then bp (.agg (AV.kids (.agg [.int .i64 0,.nil,.nil])))else .agg [.int .i64 0,.nil,.nil]⟩)],8193⟩=
  some (aj [(0:Nat)<1] (leaf ret [agg [int i64 0,nil,nil],int i64 e])):=ah
theorem ZE {s:Sf} {u:Rat}:aH T vt [200013] 60 yH (before nw [1,1,1,0,1]) ⟨aQ 0 [bu s 2000 2000,.rat u sK],[],0⟩=
  let c4:AV:=int i64 0;let c2:Prop:=0<1;let c1:Nat:=dn (aZ (s.f 0) s.m 2000);let c3:AV:=agg [c4,nil,nil];some (aj [c2,bn (fun i=>rat (s.ku i) 2000) s.a sJ,bn (fun i=>rat (s.kv i) 2000) s.b sJ,dG (fun i=>aZ (s.f i) s.m 2000) s.n sJ,de (Sf.mk s.u s.v s.a (fun i=>aE (rat (s.ku i) 2000)) s.b (fun i=>aE (rat (s.kv i) 2000)) s.n c1 (fq fun i=>aZ (s.f i) s.m 2000))] (aj [(!true)=false] (aj [c2,c2,c2] (aj [c2,bn (fun i=>rat (s.ku i) 2000) s.a 2000,bn (fun i=>rat (s.kv i) 2000) s.b 2000,dG (fun i=>aZ (s.f i) s.m 2000) s.n 2000,(1:Nat)<=s.n,s.n<2^28,c1<2^28] (leaf normal ([ptr 8192 0 3 0 [],c4,ptr 4096 0 (bp (rat u sK)).size 0 [],ptr 49152 0 3 0 [],ak 3 c1 fun j=>agg [int i64 s.u,ak 3 s.a fun i=>rat (aE (rat (s.ku i) 2000)) 2000,ak 12 s.n fun i=>agg [rat (aE (rat (s.f i j).d 2000)*aE (rat (s.f i j).n.x 2000)) 4000,rat (aE (rat (s.f i j).d 2000)*aE (rat (s.f i j).n.y 2000)) 4000,rat (aE (rat (s.f i j).d 2000)*aE (rat (s.f i j).n.z 2000)) 4000,rat (aE (rat (s.f i j).d 2000)) 4000]],int i64 (↑c1:Int),c4],[((49152:Nat),bP fun j=>if(j==0)=true then bp (agg ((c3.kids.set 0 (bp (int i64 s.v))).set 1 (bp (bD s.kv s.b 2000))))else c3),(4096,au.mk false true (bp (rat u sK)).size 1 fun x=>rat u 4096),((8192:Nat),bP fun x=>c3)])))))):=ah
theorem aao {s:Sf} {u:Rat} {j:Nat}:aH T vt [24,34] 60 yH [part nw [1,1,1,0,1,0,0]] ⟨aA yH (Gg s j),D0 s u j,4⟩=
  let c19:Int:=(↑s.m:Int);let c18:AV:=int i64 0;let c17:AV:=own 3 12 0 j;let c16:AV:=ptr 2 0 3 0 [];let c15:AV:=ptr 0 0 3 0 [];let c14:Int:=cS s.a (fun i=>aE (rat (s.ku i) 2000)) u;let c12:AV:=rat 0 1;let c11:Int:=(↑j:Int);let c10:Nat×au:=((0:Nat),bP fun x=>rat u 4096);let c8:AV:=ptr 1 0 3 0 [];let c7:Prop:=0<1;let c3:Nat×au:=(3,au.mk true true 12 j fun j=>bV (fm (cK s j) u) 2147483648);let c1:AV:=lD s s.m;let c20:Int:=c11+1;let c13:AV:=agg [c18,nil,nil];let c9:AV:=agg [int i64 s.v,bD s.kv s.b 2000,c17];let c6:List AV:=[c15,c16,c1,int i64 c19,int i64 c11];let c4:Nat×au:=((2:Nat),bP fun x=>agg [int i64 s.v,ak 3 s.b fun i=>rat (s.kv i) 2000,c17]);let c2:Pl:=fm (Cu.mk s.u s.a (fun i=>aE (rat (s.ku i) 2000)) s.n fun i=>r7 (bV (bM (s.f i c11.toNat)) 4000)) u;let c5:List (Nat×au):=[c10,((1:Nat),bP fun x=>c13)];some (fork (decide (c11<c19)) (aj [(0:Int)<=c11/\c11.toNat<s.m,c7] (aj [c7,c7,bn (fun i=>rat (s.ku i) 2000) s.a sK,l9 (fun i=>bV (bM (s.f i c11.toNat)) 4000) s.n (sJ+sJ),sK<=sK,Kn s.a s.u.toNat fun i=>aE (rat (s.ku i) 2000),(0:Int)<=s.u,s.u<=6,s.a<2^40,(↑s.n:Int)=(↑s.a:Int)-s.u-1,c7] (fork (c14 !=(0:Int)) (aj [c7] (leaf ret (c8::int i64 c14::c6,[c3,c4,c10,((1:Nat),bP fun j=>if(j==0)=true then bp (agg c13.kids)else c13)]))) (aj [c7,c7,(1:Nat)*12<=2^24,(j+1)*((224:Nat)+1)*2<=2^47,c7] (aj [-(2:Int)^63<=c20/\c20<2^63] (leaf normal ([c8,c18,c15,c16,c1,int i64 c19,int i64 c20],(81924,au.mk true true 12 (j+1) fun i=>if i<j then bV (fm (cK s i) u) sH else nth [bV c2 sH] (agg [c12,c12,c12,c12]) (i-j+0))::((2:Nat),bP fun j_1=>if(j_1==0)=true then agg (c9.kids.set 2 (bp (own (nat_lit 81923+1) 12 0 (j+1))))else c9)::c5))))))) (leaf (exit 0) (c8::c18::c6,c3::c4::c5))):=ah
theorem ajD {s:Sf} {u:Rat} {j:Nat}:cy T vt [] 60 f113 [part nw [1,1,1,1]] ⟨aA yH (Gg s j),D0 s u j,4⟩=
  let c1:Prop:=0<1;some (aj [c1,c1] (aj [c1] (leaf ret [agg [int i64 s.v,ak 3 s.b fun i=>rat (s.kv i) 2000,ak 12 j fun i=>agg [rat (fm (cK s (i+0)) u).n.x 2147483648,rat (fm (cK s (i+0)) u).n.y 2147483648,rat (fm (cK s (i+0)) u).n.z 2147483648,rat (fm (cK s (i+0)) u).d 2147483648]],int i64 0]))):=ah
theorem VY {s:Sf} {u:Rat}:aH T vt [200013] 60 BQ (before nw [1,1,1,0,1]) ⟨aQ 0 [bu s 2000 2000,.rat u sK],[],0⟩=
  let c3:AV:=int i64 0;let c2:Prop:=0<1;let c1:Nat:=dn (aZ (s.f 0) s.m 2000);some (aj [c2,bn (fun i=>rat (s.ku i) 2000) s.a sJ,bn (fun i=>rat (s.kv i) 2000) s.b sJ,dG (fun i=>aZ (s.f i) s.m 2000) s.n sJ,de (Sf.mk s.u s.v s.a (fun i=>aE (rat (s.ku i) 2000)) s.b (fun i=>aE (rat (s.kv i) 2000)) s.n c1 (fq fun i=>aZ (s.f i) s.m 2000))] (aj [(!true)=false] (aj [c2,c2,c2] (aj [c2,bn (fun i=>rat (s.ku i) 2000) s.a 2000,bn (fun i=>rat (s.kv i) 2000) s.b 2000,dG (fun i=>aZ (s.f i) s.m 2000) s.n 2000,(1:Nat)<=s.n,s.n<2^28,c1<2^28] (leaf normal ([ptr 8192 0 3 0 [],c3,ptr 4096 0 (bp (rat u sK)).size 0 [],ak 3 c1 fun j=>agg [int i64 s.u,ak 3 s.a fun i=>rat (aE (rat (s.ku i) 2000)) 2000,ak 12 s.n fun i=>agg [rat (aE (rat (s.f i j).d 2000)*aE (rat (s.f i j).n.x 2000)) 4000,rat (aE (rat (s.f i j).d 2000)*aE (rat (s.f i j).n.y 2000)) 4000,rat (aE (rat (s.f i j).d 2000)*aE (rat (s.f i j).n.z 2000)) 4000,rat (aE (rat (s.f i j).d 2000)) 4000]],int i64 (↑c1:Int),c3],[(4096,au.mk false true (bp (rat u sK)).size 1 fun x=>rat u 4096),((8192:Nat),bP fun x=>agg [c3,nil,nil])])))))):=ah
theorem Q5 {s:Sf} {u:Rat}:aH T vt [100024,100034] 60 BQ [part nw [1,1,1,0,1,0,0]] ⟨aA BQ (L6 s),Np u,2⟩=
  let c4:AV:=agg [int i64 0,nil,nil];let c3:Int:=cS s.a (fun i=>aE (rat (s.ku i) 2000)) u;let c2:Int:=(↑(0:Nat):Int);let c1:Prop:=0<1;some (aj [decide (c2<(↑s.m:Int))=true] (aj [(0:Int)<=c2/\c2.toNat<s.m,c1] (aj [c1,c1,bn (fun i=>rat (s.ku i) 2000) s.a sK,l9 (fun i=>bV (bM (s.f i c2.toNat)) 4000) s.n (sJ+sJ),sK<=sK,Kn s.a s.u.toNat fun i=>aE (rat (s.ku i) 2000),(0:Int)<=s.u,s.u<=6,s.a<2^40,(↑s.n:Int)=(↑s.a:Int)-s.u-1,c1] (aj [(c3 !=(0:Int))=true] (aj [c1] (leaf ret ([ptr 1 0 3 0 [],int i64 c3,ptr 0 0 3 0 [],lD s s.m,int i64 (↑s.m:Int),int i64 0],[((0:Nat),bP fun x=>rat u 4096),((1:Nat),bP fun j=>if(j==0)=true then bp (agg c4.kids)else c4)]))))))):=ah
theorem ahb {u:Rat} {e:Int}:kH T f113 .ret ⟨aA [4,5,3] [.ptr 1 0 3 0 [],.int .i64 e,.ptr 0 0 3 0 []],YC u,2⟩=
  some (aj [(0:Nat)<1] (leaf ret [agg [int i64 0,nil,nil],int i64 e])):=ah
theorem afl {s:Sf} {u v:Rat}:bU T JG [18,28] 60 f37 (aF f37) ⟨aQ 0 [bu s 2000 2000,.rat u sK,.rat v sK],[],0⟩=
  let c7:Int:=cS s.a (fun i=>aE (rat (s.ku i) 2000)) u;let c5:AV:=rat 0 1;let c4:Sf:=Sf.mk s.u s.v s.a (fun i=>aE (rat (s.ku i) 2000)) s.b (fun i=>aE (rat (s.kv i) 2000)) s.n (dn (aZ (s.f 0) s.m 2000)) (fq fun i=>aZ (s.f i) s.m 2000);let c3:Prop:=0<1;let c1:Cu:=lH c4 u;let c6:Int:=cS c1.n (fun i=>aE (rat (c1.k i) 2000)) v;let c2:Pl:=fm (Cu.mk c1.p c1.n (fun i=>aE (rat (c1.k i) 2000)) c1.m fun i=>r7 (bV (c1.f i) sH)) v;some (aj [c3,c3,bn (fun i=>rat (s.ku i) 2000) s.a 2000,bn (fun i=>rat (s.kv i) 2000) s.b 2000,dG (fun i=>aZ (s.f i) s.m 2000) s.n 2000,sK<=sK,de c4,(1:Int)<=s.u,(1:Int)<=s.v,c3] (fork (c7 !=(0:Int)) (aj [c3] (aj [c3] (leaf ret [agg [c5,c5,c5],int i64 c7]))) (aj [c3,c3,bn (fun i=>rat (c1.k i) 2000) c1.n sK,l9 (fun i=>bV (c1.f i) sH) c1.m sH,sK<=sK,Kn c1.n c1.p.toNat fun i=>aE (rat (c1.k i) 2000),(0:Int)<=c1.p,c1.p<=6,c1.n<2^40,(↑c1.m:Int)=(↑c1.n:Int)-c1.p-1,c3] (fork (c6 !=(0:Int)) (aj [c3] (aj [c3] (leaf ret [agg [c5,c5,c5],int i64 c6]))) (aj [c3,nX<=nX,nX<=nX,nX<=nX,nX<=nX,c3] (aj [c3] (leaf ret [agg [rat (c2.n.x/c2.d) 137438953474,rat (c2.n.y/c2.d) 137438953474,rat (c2.n.z/c2.d) 137438953474],int i64 0]))))))):=ah
theorem ajv {s:Sf} {u:Rat}:aH T Bm [18] 60 xJ (before u7 [1,1,1,1,0,1]) ⟨aQ 0 [bu s 2000 2000,.rat u sK],[],0⟩=
  let c7:AV:=int i64 0;let c6:AV:=ptr 8192 0 3 0 [];let c5:Int:=cS s.a (fun i=>aE (rat (s.ku i) 2000)) u;let c2:Prop:=0<1;let c1:Sf:=Sf.mk s.u s.v s.a (fun i=>aE (rat (s.ku i) 2000)) s.b (fun i=>aE (rat (s.kv i) 2000)) s.n (dn (aZ (s.f 0) s.m 2000)) (fq fun i=>aZ (s.f i) s.m 2000);let c4:Cu:=lH c1 u;let c3:AV:=agg [c7,nil,nil];some (aj [c2,c2,bn (fun i=>rat (s.ku i) 2000) s.a 2000,bn (fun i=>rat (s.kv i) 2000) s.b 2000,dG (fun i=>aZ (s.f i) s.m 2000) s.n 2000,sK<=sK,de c1,(1:Int)<=s.u,(1:Int)<=s.v,c2] (fork (c5 !=(0:Int)) (aj [c2] (leaf ret ([c6,int i64 c5,tuple [],tuple [],tuple [],tuple []],[((8192:Nat),bP fun j=>if(j==0)=true then bp (agg c3.kids)else c3)]))) (aj [c2,c2,bn (fun i=>rat (c4.k i) 2000) c4.n 2000,(2000:Nat)+10<=sK,sK<2^40,c4.n<2^40,c2] (aj [c2] (leaf normal ([c6,c7,ptr 86016 0 3 0 [],ak 12 c4.m fun i=>bV (c4.f i) 2147483648,int i64 (↑c4.m:Int),c7],[((86016:Nat),bP fun j=>if(j==0)=true then bp (agg ((c3.kids.set 0 (bp (int i64 c4.p))).set 1 (bp (bD (fun i=>aE (rat (c4.k i) 2000)) c4.n sK))))else c3),((8192:Nat),bP fun x=>c3)])))))):=ah
theorem ag9 {c:Cu} {j:Nat}:aH T Bm [31] 60 xJ [part u7 [1,1,1,1,0,1,0,0]] ⟨aA xJ (Hf c j),DP c j,3⟩=
  let c12:Int:=(↑c.m:Int);let c11:AV:=int i64 0;let c10:AV:=own 2 12 0 j;let c9:AV:=ptr 1 0 3 0 [];let c8:AV:=ptr 0 0 3 0 [];let c7:Prop:=0<1;let c6:Int:=(↑j:Int);let c5:AV:=rat 0 1;let c1:AV:=ak 12 c.m fun i=>bV (c.f i) 2147483648;let c13:Int:=c6+1;let c4:AV:=agg [int i64 c.p,bD c.k c.n sK,c10];let c3:Nat×au:=((0:Nat),bP fun x=>agg [c11,nil,nil]);let c2:Pl:=c.f c6.toNat;some (fork (decide (c6<c12)) (aj [(0:Int)<=c6/\c6.toNat<c.m,c7] (aj [c7,c7,sH<=sH,sH<=sH,sH<=sH,sH<=sH,(1:Nat)*12<=2^24,(j+1)*((224:Nat)+1)*2<=2^47,c7] (aj [-(2:Int)^63<=c13/\c13<2^63] (leaf normal ([c8,c11,c9,c1,int i64 c12,int i64 c13],[(40963,au.mk true true 12 (j+1) fun i=>if i<j then bJ (dJ (c.f i)) sE else nth [agg [agg [rat (c2.n.x/c2.d) sE,rat (c2.n.y/c2.d) sE,rat (c2.n.z/c2.d) sE],rat c2.d sE]] (agg [agg [c5,c5,c5],c5]) (i-j+0)),((1:Nat),bP fun j_1=>if(j_1==0)=true then agg (c4.kids.set 2 (bp (own (nat_lit 40962+1) 12 0 (j+1))))else c4),c3]))))) (leaf (exit 0) ([c8,c11,c9,c1,int i64 c12,int i64 c6],[(2,au.mk true true 12 j fun j=>agg [agg [rat ((c.f j).n.x/(c.f j).d) 4294967298,rat ((c.f j).n.y/(c.f j).d) 4294967298,rat ((c.f j).n.z/(c.f j).d) 4294967298],rat (c.f j).d 4294967298]),((1:Nat),bP fun x=>agg [int i64 c.p,ak 3 c.n fun i=>rat (c.k i) 4096,c10]),c3]))):=ah
theorem SR {c:Cu} {j:Nat}:cy T Bm [] 60 f38 [part u7 [1,1,1,1,1]] ⟨aA xJ (Hf c j),DP c j,3⟩=
  let c1:Prop:=0<1;some (aj [c1,c1] (aj [c1] (leaf ret [agg [int i64 c.p,ak 3 c.n fun i=>rat (c.k i) 4096,ak 12 j fun i=>agg [agg [rat ((c.f (i+0)).n.x/(c.f (i+0)).d) 4294967298,rat ((c.f (i+0)).n.y/(c.f (i+0)).d) 4294967298,rat ((c.f (i+0)).n.z/(c.f (i+0)).d) 4294967298],rat (c.f (i+0)).d 4294967298]],int i64 0]))):=ah
theorem Vn:aU P Ii 114:=ct fun⟨c,t,_⟩ K hn=>Na (by decide) (by decide) hn.1 hn.2.1 hn.2.2.1 hn.2.2.2.1 hn.2.2.2.2 K
theorem af2:aU P NG 115:=ct fun⟨h,_⟩ K _=>EM (by decide) (by decide) (by decide) K
theorem C7:bq P vt:=cz (aI EI (aI Qx (aI T7 bB)))
theorem Y6 {s:Sf} {u:Rat} (h:bQ s.a s.ku u):lH s u=qP:=if_pos h
theorem Aa {s:Sf} {u:Rat} (h:¬bQ s.a s.ku u):lH s u=⟨s.v,s.b,s.kv,s.m,fun j=>fm (cK s j) u⟩:=if_neg h
theorem YR {x y:Nat}:bh (.agg [.int .i64 0,.nil,.nil]) (dD qP x y):=cL ⟨.refl _,iJ (by decide),iJ (by decide),trivial⟩
theorem agi {s:Sf} {u:Rat} (hs:de s) (K:Nat):aS P 113 K [bu s 2000 2000,.rat u sK] [] (aJ (.tuple [dD (lH s u) 2000 sH,.int .i64 (cS s.a s.ku u)]) []):=by
 refine fX (r:=aJ (.tuple [dD (lH s u) 2000 sH,.int .i64 (cS s.a s.ku u)]) []) hT Gn rfl aV rfl (fun _ cx h00=>?_) K []
 have hk:=jk h00
 obtain⟨ku,kv,u0,u6,v0,v6,ha,hb,hn,hm2,hw⟩:=id hs
 have hlu:=ku.len
 have hlv:=kv.len
 have hpu:=ku.p1
 have hpv:=kv.p1
 have hm1:1<=s.m:=aa
 have lv:dn (aZ (s.f 0) s.m 2000)=s.m:=rfl
 by_cases hout:bQ s.a s.ku u
 ·have hE:cS s.a s.ku u=7:=by unfold cS;rw[if_pos hout]
  refine ax.lQ hT C7 hm (x:=nw) [1,1,1,0,1] (i:=0) (y:=part nw [1,1,1,0,1,0,0]) (z:=part nw [1,1,1,1]) ah ah ah Gn.dst hk (f1:=[200013]) (f2:=[100024,100034]) 60 BQ 2 (fun _:Unit=>L6 s) (fun _=>Np u) (fun _=>True) (fun _=>False) (fun _=>0) (uw T f113 [4,5,3] (.tuple [dD (lH s u) 2000 sH,.int .i64 (cS s.a s.ku u)]))
   ⟨_,VY,?_⟩ (fun _ _=>⟨_,Q5,?_⟩) (fun _ h=>h.elim) (fun v s' hv hs'=>hv.fin (L1:=[21,22,23]) hk hs')
  ·simp only[ag.all,az,lv]
   exact⟨⟨aa,bI (by decide),bI (by decide),fc (by decide),hs⟩,rfl,⟨aa,aa,aa⟩,⟨aa,bI (by decide),bI (by decide),fc (by decide),aa,aa,aa⟩,(),trivial,[(0,4096),(1,8192)],rfl,rfl,rfl,aM (aM trivial)⟩
  ·have hE':cS s.a (fun i=>aE (rat (s.ku i) 2000)) u=7:=hE
   simp only[ag.all,az,hE']
   exact⟨decide_eq_true aa,⟨⟨aa,aa⟩,aa⟩,⟨aa,aa,bI (by decide),D8 (by decide),bz,ku,u0,u6,aa,hn,aa⟩,by decide,aa,[_,_,_],_,2,_,rfl,rfl,rfl,ahb,rfl,⟨⟨aa,fun _ _=>rfl⟩,⟨aa,fun _ _=>th rfl rfl⟩,trivial⟩,Nat.zero_lt_one,by rw[Y6 hout];exact YR,bS hE.symm,trivial⟩
 ·have hE:cS s.a s.ku u=0:=by unfold cS;rw[if_neg hout]
  refine ax.lQ hT C7 hm (x:=nw) [1,1,1,0,1] (i:=0) (y:=part nw [1,1,1,0,1,0,0]) (z:=part nw [1,1,1,1]) ah ah ah Gn.dst hk (f1:=[200013]) (f2:=[24,34]) 60 yH 4 (fun j:Nat=>Gg s j) (fun j=>D0 s u j) (fun j=>j<=s.m) (fun j=>j=s.m) (fun j=>s.m-j) (fun _=>False)
   ⟨_,ZE,?_⟩ (fun j hj=>⟨_,aao,?_⟩) (fun j hj=>?_) (fun _ _ h=>h.elim)
  ·simp only[ag.all,az,lv]
   exact⟨⟨aa,bI (by decide),bI (by decide),fc (by decide),hs⟩,rfl,⟨aa,aa,aa⟩,⟨aa,bI (by decide),bI (by decide),fc (by decide),aa,aa,aa⟩,0,Nat.zero_le _,[(0,4096),(1,8192),(2,49152)],rfl,rfl,rfl,ko rfl aa aa (dh rfl rfl (nF ⟨aL,aL,⟨rfl,qc aa⟩,trivial⟩) (aM (aM trivial)))⟩
  ·have hE':cS s.a (fun i=>aE (rat (s.ku i) 2000)) u=0:=hE
   simp only[ag.all,az,bk,bt,bf,Nat.add_zero,hE']
   exact⟨fun h=>⟨⟨⟨aa,aa⟩,aa⟩,⟨aa,aa,bI (by decide),D8 (by decide),bz,ku,u0,u6,aa,hn,aa⟩,fun h=>absurd h (by decide),fun _=>⟨⟨aa,aa,aa,aa,aa⟩,aa,j+1,aa,by dsimp only;omega,[(0,0),(1,1),(2,2),(3,81924)],rfl,rfl,rfl,b7 rfl rfl rfl (fun k hk=>qS (g:=fun j=>bV (fm (cK s j) u) sH) (fun _ _=>⟨rfl,rfl⟩) rfl (pT (h:=fm (cK s j) u) rfl bz) hk) (dh rfl rfl (qp rfl rfl rfl) (aM (aM trivial)))⟩⟩,
    fun h=>⟨rfl,j,aa,[(0,0),(1,1),(2,2),(3,3)],rfl,rfl,rfl,dQ (dh rfl rfl (qp rfl rfl rfl) (aM (aM trivial)))⟩⟩
  ·subst hj
   refine ax.gZ ((aG.fin hT C7 hm 60 ajD ah ?_).mono fun _ _ h=>.inl h)
   simp only[ag.all,az]
   exact⟨⟨aa,aa⟩,aa,by rw[Aa hout];exact .refl _,bS hE.symm,trivial⟩
theorem PF:aU P Ff 113:=ct fun⟨s,u,_⟩ K hn=>agi hn.1 K
def iL (s:Sf) (u v:Rat):V3:=if bQ s.a s.ku u then⟨0,0,0⟩else if bQ s.b s.kv v then⟨0,0,0⟩else(dJ (fm (lH s u) v)).n
def oC (s:Sf) (u v:Rat):Int:=if bQ s.a s.ku u then 7 else cS s.b s.kv v
theorem Q9:bq P JG:=cz (aI PF (aI Vn (aI af2 bB)))
def Fp:Spec:=cA (kC (ir 2000 2000) (kC (gp sK) (kC (gp sK) kN))) (fun a=>.tuple [vA (iL a.1 a.2.1 a.2.2.1) CZ,.int .i64 (oC a.1 a.2.1 a.2.2.1)]) fun a=>[de a.1]
theorem MJ:aU P Fp 37:=ct fun⟨s,u,v,_⟩ K hn=>by
 have hs:de s:=hn
 obtain⟨ku,kv,u0,u6,v0,v6,ha,hb,hn,hm2,hw⟩:=id hs
 have hpu:=ku.p1
 have hpv:=kv.p1
 refine bX (r:=aJ (.tuple [vA (iL s u v) CZ,.int .i64 (oC s u v)]) []) hT Q9 hm aji rfl aV rfl 60 afl (fun _=>?_) K []
 have hE:cS s.a (fun i=>aE (rat (s.ku i) 2000)) u=cS s.a s.ku u:=rfl
 simp only[ag.all,az,hE,bne_iff_ne,ne_eq,bne_eq_false_iff_eq]
 generalize hg:lH _ u=c1
 refine⟨⟨aa,aa,bI (by decide),bI (by decide),fc (by decide),bz,hs,aa,aa,aa⟩,fun h=>?_,fun h=>?_⟩
 ·have ho:=BJ h
  exact⟨aa,aa,x8 (u:=⟨0,0,0⟩) (by unfold iL;rw[if_pos ho]) (by decide),bS (by unfold oC cS;rw[if_pos ho,if_pos ho]),trivial⟩
 ·have ho:=CR h
  have hc:c1=lH s u:=hg.symm
  have hi:=Aa ho
  rw[hi]at hc
  subst hc
  have hE2:cS s.b (fun i=>aE (rat (s.kv i) 2000)) v=cS s.b s.kv v:=rfl
  simp only[hE2]
  refine⟨⟨aa,aa,bI (by decide),D8 (by decide),bz,kv,v0,v6,aa,hm2,aa⟩,fun h2=>?_,fun h2=>⟨⟨aa,bz,bz,bz,bz,aa⟩,aa,?_⟩⟩
  ·have ho2:=BJ h2
   exact⟨aa,aa,x8 (u:=⟨0,0,0⟩) (by unfold iL;rw[if_neg ho,if_pos ho2]) (by decide),bS (by unfold oC;rw[if_neg ho]),trivial⟩
  ·have ho2:=CR h2
   refine⟨x8 (u:=(dJ (fm ⟨s.v,s.b,s.kv,s.m,fun j=>fm (cK s j) u⟩ v)).n) (by unfold iL;rw[if_neg ho,if_neg ho2,hi]) (by decide),bS (by unfold oC;rw[if_neg ho,h2]),trivial⟩
def nU (s:Sf) (u:Rat):Cu:=if bQ s.a s.ku u then qP else⟨s.v,s.b,s.kv,s.m,fun j=>dJ (fm (cK s j) u)⟩
theorem OC:bq P Bm:=cz (aI PF (aI (He _ _) (aI W3 bB)))
def HQ:Spec:=cA (kC (ir 2000 2000) (kC (gp sK) kN)) (fun a=>.tuple [xT (nU a.1 a.2.1) sK sE,.int .i64 (cS a.1.a a.1.ku a.2.1)]) fun a=>[de a.1]
theorem S1 {x y:Nat}:bh (.agg [.int .i64 0,.nil,.nil]) (xT qP x y):=cL ⟨.refl _,iJ (by decide),iJ (by decide),trivial⟩
theorem aim {s:Sf} {u:Rat} (hs:de s) (K:Nat):aS P 38 K [bu s 2000 2000,.rat u sK] [] (aJ (.tuple [xT (nU s u) sK sE,.int .i64 (cS s.a s.ku u)]) []):=by
 refine fX (r:=aJ (.tuple [xT (nU s u) sK sE,.int .i64 (cS s.a s.ku u)]) []) hT Lt rfl aV rfl (fun _ cx h00=>?_) K []
 have hk:=jk h00
 obtain⟨ku,kv,u0,u6,v0,v6,ha,hb,hn,hm2,hw⟩:=id hs
 have hpu:=ku.p1
 have hpv:=kv.p1
 obtain⟨c,hc⟩:∃c:Cu,c=⟨s.v,s.b,s.kv,s.m,fun j=>fm (cK s j) u⟩:=⟨_,rfl⟩
 refine ax.lQ hT OC hm (x:=u7) [1,1,1,1,0,1] (i:=0) (y:=part u7 [1,1,1,1,0,1,0,0]) (z:=part u7 [1,1,1,1,1]) ah ah ah Lt.dst hk (f1:=[18]) (f2:=[31]) 60 xJ 3 (fun j:Nat=>Hf c j) (fun j=>DP c j) (fun j=>j<=c.m/\¬bQ s.a s.ku u) (fun j=>j=c.m/\¬bQ s.a s.ku u) (fun j=>c.m-j) (uw T f38 [4,5] (.tuple [xT (nU s u) sK sE,.int .i64 (cS s.a s.ku u)]))
  ⟨_,ajv,?_⟩ (fun j ⟨hj,hin⟩=>⟨_,ag9,?_⟩) (fun j ⟨hj,hin⟩=>?_) (fun v s' hv hs'=>hv.fin (L1:=[8,28,29,30]) hk hs')
 ·have hE:cS s.a (fun i=>aE (rat (s.ku i) 2000)) u=cS s.a s.ku u:=rfl
  simp only[ag.all,az,hE,bne_iff_ne,ne_eq,bne_eq_false_iff_eq]
  generalize hg:lH _ u=c1
  refine⟨⟨aa,aa,bI (by decide),bI (by decide),fc (by decide),bz,hs,aa,aa,aa⟩,fun h=>?_,fun h=>?_⟩
  ·have ho:=BJ h
   exact⟨aa,[_,_],_,8193,_,rfl,rfl,rfl,agS,rfl,⟨⟨aa,fun _ _=>th rfl rfl⟩,trivial⟩,Nat.zero_lt_one,by rw[show nU s u=qP from if_pos ho];exact S1,bS rfl,trivial⟩
  ·have ho:=CR h
   have hc1:c1=c:=by
    have:c1=lH s u:=hg.symm
    rw[this,Aa ho,hc]
   subst hc1
   have hn2:c1.n=s.b:=by rw[hc]
   exact⟨⟨aa,aa,bI (by decide),by decide,by decide,aa,aa⟩,aa,0,⟨Nat.zero_le _,ho⟩,[(0,8192),(1,86016)],rfl,rfl,rfl,ko rfl aa aa (dh rfl rfl (nF ⟨aL,aL,⟨rfl,qc aa⟩,trivial⟩) (aM trivial))⟩
 ·have hcm:c.m<2^28:=by rw[hc];dsimp only;omega
  simp only[ag.all,az,bk,bt,bf,Nat.add_zero]
  refine⟨fun h=>?_,fun h=>⟨rfl,j,⟨aa,hin⟩,[(0,0),(1,1),(2,2)],rfl,rfl,rfl,dQ (dh rfl rfl (qp rfl rfl rfl) (aM trivial))⟩⟩
  (repeat' with_reducible refine And.intro ?_ ?_)
  all_goals first|omega|exact Nat.le_refl _|skip
  exact⟨j+1,⟨aa,hin⟩,by dsimp only;omega,[(0,0),(1,1),(2,40963)],rfl,rfl,rfl,b7 rfl rfl rfl (fun i hi=>qS (g:=fun j=>bJ (dJ (c.f j)) sE) (fun _ _=>⟨rfl,rfl⟩) rfl (.refl _) hi) (dh rfl rfl (qp rfl rfl rfl) (aM trivial))⟩
 ·subst hj
  refine ax.gZ ((aG.fin hT OC hm 60 SR ah ?_).mono fun _ _ h=>.inl h)
  simp only[ag.all,az]
  have hE:cS s.a s.ku u=0:=by unfold cS;rw[if_neg hin]
  exact⟨⟨aa,aa⟩,aa,by rw[show nU s u=⟨s.v,s.b,s.kv,s.m,fun j=>dJ (fm (cK s j) u)⟩from if_neg hin,hc];exact .refl _,bS hE.symm,trivial⟩
theorem abe:aU P HQ 38:=ct fun⟨s,u,_⟩ K hn=>aim hn K
theorem LN:aW 235 f235:=aT func235
def sC:aX:=nG::(152,zG)::(222,Hp)::gW
abbrev A4:Code:=aF f235
abbrev tY:Code:=part A4 [1,1,1,1,0,1,0,0]
abbrev xP:Code:=part tY [1,1,0,0]
abbrev sB:Nat:=536870912
theorem wB:bq P sC:=cz (aI z6 (aI LA iN))
def jh (n:Nat) (k:Nat->Rat) (p m l:Nat) (i:Int):Int:=if(m:Int)≠(n:Int)-p-1\/l≠p then 1 else if i<p\/(m:Int)<=i\/k (i.toNat+1)<=k i.toNat then 7 else 0
def nL (n:Nat) (k:Nat->Rat) (p m:Nat) (c:Nat->Rat) (i:Int) (l:Nat) (a:Nat->Rat):Rat:=if jh n k p m l i=0 then bR k (i.toNat-p) p a (fun j=>c (i.toNat-p+j)) p p else 0
abbrev O7 (n:Nat) (k:Nat->Rat) (p m:Nat) (c:Nat->Rat) (i:Int) (l:Nat) (a:Nat->Rat):AV:=.tuple [.rat (nL n k p m c i l a) sB,.int .i64 (jh n k p m l i)]
theorem acs {n p m l:Nat} {k c a:Nat->Rat} {i e:Int} (h:jh n k p m l i=e) (he:e≠0):fK [.agg [.bool false,.mag 0,.mag 0],.int .i64 e] (O7 n k p m c i l a):=
 ⟨by unfold nL;rw[if_neg (by rw[h];exact he)];exact mM,bS h.symm,trivial⟩
theorem OD {n p m l:Nat} {k:Nat->Rat} {i:Int} (h:(m:Int)≠(n:Int)-p-1\/l≠p):jh n k p m l i=1:=if_pos h
theorem C9 {n p m l:Nat} {k:Nat->Rat} {i:Int} (h:(m:Int)=(n:Int)-p-1) (hl:l=p) (h2:i<p\/(m:Int)<=i\/k (i.toNat+1)<=k i.toNat):jh n k p m l i=7:=by
 unfold jh;rw[if_neg aa,if_pos h2]
theorem IB {n p m l:Nat} {k:Nat->Rat} {i:Int} (h:(m:Int)=(n:Int)-p-1) (hl:l=p) (h2:¬(i<p\/(m:Int)<=i\/k (i.toNat+1)<=k i.toNat)):jh n k p m l i=0:=by
 unfold jh;rw[if_neg aa,if_neg h2]
def nc (k:Nat->Rat) (b p r:Nat) (t:Rat) (x:Nat->Rat) (j i:Nat):Rat:=if i<=j then x i else gm k b p r t x i
def nH (r j i:Nat):Nat:=if i<=j then SB r else SB (r+1)
theorem agc {rl:List (Nat×Nat)} {k:Nat->Rat} {b p r j i s:Nat} {t:Rat} {x:Nat->Rat} (hj:r<j) (hs:s<=SB (r+1)):
  ia rl (.rat (bif i==j then nc k b p r t x j (j-1)+fr (k (b+j)) (k (b+j+(p-r))) t*(nc k b p r t x j j-nc k b p r t x j (j-1))else nc k b p r t x j i) (bif i==j then s else nH r j i)) (.rat (nc k b p r t x (j-1) i) (nH r (j-1) i)):=by
 refine .inr ⟨rfl,?_⟩
 by_cases h:i=j
 ·subst h
  simp only[beq_self_eq_true,cond_true]
  refine cB ?_ ?_
  ·unfold nc
   rw[if_pos aa,if_pos aa,if_neg aa]
   unfold gm
   rw[if_pos hj]
  ·unfold nH
   rw[if_neg aa];exact hs
 ·have hb:(i==j)=false:=by simpa using h
  rw[hb]
  refine cB ?_ ?_
  ·simp only[cond_false]
   unfold nc
   by_cases h2:i<=j
   ·rw[if_pos h2,if_pos aa]
   ·rw[if_neg h2,if_neg aa]
  ·simp only[cond_false]
   unfold nH
   by_cases h2:i<=j
   ·rw[if_pos h2,if_pos aa];exact Nat.le_refl _
   ·rw[if_neg h2,if_neg aa];exact Nat.le_refl _
theorem RE {k:Nat->Rat} {b p r i:Nat} {t:Rat} {x:Nat->Rat}:nc k b p r t x r i=gm k b p r t x i:=by
 unfold nc
 split
 ·unfold gm;rw[if_neg aa]
 ·rfl
abbrev k9 (m:Nat) (c:Nat->Rat):au:=⟨true,true,3,m,fun i=>.rat (c i) sK⟩
abbrev oI:List Nat:=[10,11,2,4,0,1,3,12,66,67,68]
abbrev vm (n:Nat) (k:Nat->Rat) (p m:Nat) (a:Nat->Rat) (i:Nat) (r:Nat):List AV:=[.ptr 1 0 3 0 [],.int .i64 0,.own 0 3 0 m,ls a p,ls k n,.int .i64 p,.int .i64 i,.own 2 3 0 (p+1),ls a p,.int .i64 p,.int .i64 r]
abbrev nV (p m:Nat) (c:Nat->Rat) (x:Nat->Rat) (s:Nat->Nat):aC:=[(2,lR (p+1) x s),(1,zO),(0,k9 m c)]
abbrev xX:List Nat:=[10,11,2,4,0,1,3,12,66,67,68,13,14,15]
abbrev Fl (n:Nat) (k:Nat->Rat) (p m:Nat) (a:Nat->Rat) (i:Nat) (r j:Nat):List AV:=[.ptr 1 0 3 0 [],.int .i64 0,.own 0 3 0 m,ls a p,ls k n,.int .i64 p,.int .i64 i,.own 2 3 0 (p+1),ls a p,.int .i64 p,.int .i64 r,.int .i64 r,.ptr 3 0 3 0 [],.int .i64 j]
theorem WX {n m p l:Nat} {k c a:Nat->Rat} {i:Int}:aH T sC [18,25,36,42,32] 60 oI (before A4 [1,1,1,1,0,1]) ⟨aQ 0 [ls k n,.int .i64 p,.own 0 3 0 m,.int .i64 i,ls a l],[(0,k9 m c)],1⟩=
  let c28:Prop:=n<2^40;let c27:Prop:=sK<2^42;let c26:Prop:=bn (fun i=>rat (k i) sK) n sK;let c25:AV:=own 0 3 0 m;let c24:Int:=i+1;let c23:AV:=ak 3 n fun i=>rat (k i) 4096;let c20:Int:=(2:Int)^40;let c19:AV:=rat 0 1;let c17:Nat×au:=(0,au.mk true true 3 m fun i=>rat (c i) 4096);let c15:AV:=ptr 1 0 3 0 [];let c14:AV:=ak 3 l fun i=>rat (a i) 4096;let c13:Int:=(2:Int)^63;let c12:Int:=(↑m:Int);let c5:Int:=(↑p:Int);let c21:Bool:=decide (i<c5);let c18:Bool:=c12 !=(↑n:Int)-c5-1;let c16:Bool:=bif false then true else decide (i>=c12);let c11:Int:=c5+1;let c10:Int:=ep (k i.toNat) (k c24.toNat);let c8:List AV:=[c25,c14,c23,int i64 c5,int i64 i,tuple [],tuple [],tuple [],tuple []];let c7:List Prop:=[(0:Int)<=i/\i.toNat<n,-c13<=c24/\c24<c13,(0:Int)<=c24/\c24.toNat<n,c27,c27];let c6:List (Nat×au):=[c17,((1:Nat),bP fun j=>if(j==0)=true then bp (agg c19.kids)else c19)];let c22:Bool:=bif false then true else decide (c10>=0);let c9:Nat:=0+Min.min (c12.toNat-(i-c5).toNat) c11.toNat;let c4:ag (List AV×aC):=aj [(0:Nat)<1] (leaf ret (c15::int i64 1::c8,c6));let c2:ag (List AV×aC):=aj [(0:Nat)<1] (leaf ret (c15::int i64 7::c8,c6));let c1:ag (List AV×aC):=aj [-c13<=c11/\c11<c13,(0:Int)<=c11/\c11<=c11/\c11<=2^47/\c11*(↑(56:Nat):Int)<=2^47] (aj [-c13<=i-c5/\i-c5<c13,(0:Int)<=i-c5/\i-c5<=c12/\c12<=c12/\c12<=c12] (leaf normal ([c15,int i64 0,c25,c14,c23,int i64 c5,int i64 i,own 163841 3 0 c11.toNat,c14,int i64 (↑l:Int),int i64 0],[(163841,au.mk true true 3 c11.toNat fun i_1=>if 0<=i_1/\i_1<c9 then rat (c (i_1-0+((0:Nat)+(i-c5).toNat))) sK else c19),c17,((1:Nat),bP fun x=>c19)])));let c3:ag (List AV×aC):=fork c21 (fork true (aj [c21=true,true=true] (fork true c2 c1)) (aj ((c21=true)::(true=false)::c7) (fork c22 c2 c1))) (fork c16 (aj [c21=false,c16=true] (fork true c2 c1)) (aj ((c21=false)::(c16=false)::c7) (fork c22 c2 c1)));some (fork c18 (aj [c26,c28,-c20<c5,c5<c20,c18=true] (fork true c4 c3)) (aj [c26,c28,-c20<c5,c5<c20,c18=false] (fork (bif false then true else(↑l:Int)!=c5) c4 c3))):=ah
theorem WL {e:Int} {m:Nat} {c:Nat->Rat}:zE T f235 .ret ⟨aA [10,11,2] [.ptr 1 0 3 0 [],.int .i64 e,.own 0 3 0 m],[(0,k9 m c),(1,⟨false,true,3,1,fun j=>if(j==0)=true then bp (agg (kids (.rat 0 1)))else .rat 0 1⟩)],2⟩=
  some (aj [(0:Nat)<1] (leaf ret ([agg [AV.bool false,mag 0,mag 0],int i64 e],some (au.mk true true 3 m fun i=>rat (c i) 4096)))):=ah
theorem abZ {n p m i r:Nat} {k a c x:Nat->Rat} {s:Nat->Nat}:aH T sC [69] 60 oI (before tY [1,1,0]) ⟨aA oI (vm n k p m a i r),nV p m c x s,3⟩=
  let c3:Int:=(↑p:Int);let c2:AV:=ak 3 p fun i=>rat (a i) 4096;let c1:List AV×aC:=([ptr 1 0 3 0 [],int i64 0,own 0 3 0 m,c2,ak 3 n fun i=>rat (k i) 4096,int i64 c3,int i64 (↑i:Int),own 2 3 0 (p+1),c2,int i64 c3,int i64 (↑r:Int)],[(2,au.mk true true 3 (p+1) fun i=>rat (x i) (s i)),(0,au.mk true true 3 m fun i=>rat (c i) 4096),((1:Nat),bP fun x=>rat 0 1)]);some (fork (decide ((↑r:Int)<c3)) (leaf normal c1) (leaf (exit 1) c1)):=ah
theorem XL {n p m i r:Nat} {k a c x:Nat->Rat} {s:Nat->Nat}:aH T sC [] 60 xX (before xP [1,1]) ⟨aA oI (vm n k p m a i r),nV p m c x s,3⟩=
  let c4:AV:=rat 0 1;let c3:Int:=(↑r:Int);let c2:AV:=int i64 (↑p:Int);let c1:AV:=ak 3 p fun i=>rat (a i) 4096;some (aj [(0:Int)<=c3/\c3.toNat<p,(0:Nat)<1] (leaf normal ([ptr 1 0 3 0 [],int i64 0,own 0 3 0 m,c1,ak 3 n fun i=>rat (k i) 4096,c2,int i64 (↑i:Int),own 2 3 0 (p+1),c1,c2,int i64 c3,int i64 c3,ptr 12291 0 3 0 [],c2],[((12291:Nat),bP fun j=>if(j==0)=true then bp (rat (a c3.toNat) sK)else c4),(2,au.mk true true 3 (p+1) fun i=>rat (x i) (s i)),(0,au.mk true true 3 m fun i=>rat (c i) 4096),((1:Nat),bP fun x=>c4)]))):=ah
theorem Zr {n p m i r j:Nat} {k a c x:Nat->Rat} {s:Nat->Nat} {t:Rat}:aH T sC [76] 60 xX [part xP [1,1,0,0]] ⟨aA xX (Fl n k p m a i r j),(3,tP t sK)::nV p m c x s,4⟩=
  let c27:Int:=(↑r:Int);let c23:Int:=(↑i:Int);let c21:AV:=own 0 3 0 m;let c19:Prop:=0<1;let c17:AV:=ptr 3 0 3 0 [];let c16:AV:=ptr 1 0 3 0 [];let c15:AV:=ak 3 n fun i=>rat (k i) 4096;let c13:Int:=(↑p:Int);let c12:Int:=(↑j:Int);let c11:Nat×au:=((3:Nat),bP fun x=>rat t 4096);let c10:Nat:=2^42;let c8:Nat:=p+1;let c7:AV:=ak 3 p fun i=>rat (a i) 4096;let c6:List (Nat×au):=[(0,au.mk true true 3 m fun i=>rat (c i) 4096),((1:Nat),bP fun x=>rat 0 1)];let c3:Int:=(2:Int)^63;let c26:AV:=int i64 c13;let c24:Prop:=(0:Int)<=c12/\c12.toNat<c8;let c20:AV:=own 2 3 0 c8;let c14:AV:=int i64 c27;let c4:Nat:=c12.toNat+0;let c2:Int:=c23-c13+c12;let c1:Int:=c12-1;let c25:Prop:=(0:Int)<=c1/\c1.toNat<c8;let c22:Prop:=-c3<=c1/\c1<c3;let c9:Int:=c2+c13-c27;let c5:Nat:=c1.toNat+0;let c18:Nat:=s c4+s c5+1;some (fork (decide (c12>c27)) (aj [-c3<=c23-c13/\c23-c13<c3,-c3<=c2/\c2<c3] (aj [(0:Int)<=c2/\c2.toNat<n,-c3<=c2+c13/\c2+c13<c3,-c3<=c9/\c9<c3,(0:Int)<=c9/\c9.toNat<n,c19,sK<=sK,sK<=sK,sK<=sK,c19] (aj [c22,c25,c5<c8,c19,c24,c4<c8,c22,c25,c5<c8,s c4<c10,s c5<c10,sF<c10,c18<c10,s c5<c10,sF+c18<c10,c24,c4<c8] (aj [c22] (leaf normal ([c16,int i64 0,c21,c7,c15,c26,int i64 c23,c20,c7,c26,c14,c14,c17,int i64 c1],c11::(2,au.mk true true 3 c8 fun j=>rat (bif j==c4 then x c5+fr (k c2.toNat) (k c9.toNat) t*(x c4-x c5)else x j) (bif j==c4 then s c5+(sF+c18)+1 else s j))::c6)))))) (leaf (exit 3) ([c16,int i64 0,c21,c7,c15,c26,int i64 c23,c20,c7,c26,c14,c14,c17,int i64 c12],c11::(2,au.mk true true 3 c8 fun i=>rat (x i) (s i))::c6))):=ah
theorem R8 {n p m i r j:Nat} {k a c x:Nat->Rat} {s:Nat->Nat} {t:Rat}:aH T sC [] 60 oI [part tY [1,1,1]] ⟨aA xX (Fl n k p m a i r j),(3,tP t sK)::nV p m c x s,4⟩=
  let c2:Int:=(↑r:Int)+1;let c1:AV:=ak 3 p fun i=>rat (a i) 4096;some (aj [-(2:Int)^63<=c2/\c2<2^63] (leaf normal ([ptr 1 0 3 0 [],int i64 0,own 0 3 0 m,c1,ak 3 n fun i=>rat (k i) 4096,int i64 (↑p:Int),int i64 (↑i:Int),own 2 3 0 (p+1),c1,int i64 (↑p:Int),int i64 c2],[(2,au.mk true true 3 (p+1) fun i=>rat (x i) (s i)),(0,au.mk true true 3 m fun i=>rat (c i) 4096),((1:Nat),bP fun x=>rat 0 1)]))):=ah
theorem ZZ {n p m i r:Nat} {k a c x:Nat->Rat} {s:Nat->Nat}:GX T sC [] 60 f235 [part A4 [1,1,1,1,1]] ⟨aA oI (vm n k p m a i r),nV p m c x s,3⟩=
  let c1:Nat:=(↑p:Int).toNat+0;some (aj [(0:Int)<=(↑p:Int)/\(↑p:Int).toNat<p+1,c1<p+1,s c1<2^42,(1:Nat)<2^42,(0:Nat)<1] (aj [(0:Nat)<1] (leaf ret ([rat (x c1+0) (s c1+1+1),int i64 0],some (au.mk true true 3 m fun i=>rat (c i) 4096))))):=ah
theorem X9 {n p m l:Nat} {k c a:Nat->Rat} {i:Int} (hp1:1<=p) (hp6:p<=6) (hn:n<2^40) (hm2:m<2^40) (hi:-2^40<i) (hi2:i<2^40) (cx:Ctx) (hk:Kept [0] cx):
  ax P cx f235.ntmps (aF f235) ⟨aQ 0 [ls k n,.int .i64 p,.own 0 3 0 m,.int .i64 i,ls a l],[(0,k9 m c)],1⟩ (dH cx (wF T f235 [.rat (nL n k p m c i l a) sB,.int .i64 (jh n k p m l i)] (k9 m c))):=by
 obtain⟨b,hb⟩:∃b,b=i.toNat-p:=⟨_,rfl⟩
 obtain⟨x,hx⟩:∃x:Nat->Nat->Rat,x=fun r=>bR k b p a (fun j=>c (b+j)) r:=⟨_,rfl⟩
 have hx0:x 0=fun j=>c (b+j):=by rw[hx];rfl
 have hxS:∀r,x (r+1)=gm k b p r (a r) (x r):=fun r=>by rw[hx];rfl
 have hSF:=AW
 have hSK:sK=4096:=rfl
 have hSV:sV=268435456:=rfl
 have hrow:∀(l:Nat) (a:Nat->Rat) (w:Bool) (ρ:Nat->Option Nat),dK ρ ⟨true,w,3,l,fun i=>.rat (a i) sK⟩ ⟨true,w,3,l,fun i=>.rat (a i) sK⟩:=fun l a w ρ=>jR rfl fun _ _=>gy rfl
 refine ax.Ac hT wB hm [1,1,1,1,0,1] (i:=1) (y:=tY) (z:=part A4 [1,1,1,1,1]) ah ah ah LN.dst hk (f1:=[18,25,36,42,32]) 60 oI 3 (fun r:Nat=>vm n k p m a i.toNat r) (fun r=>nV p m c (x r) fun _=>SB r)
  (fun r=>r<=p/\jh n k p m l i=0) (fun r=>r=p/\jh n k p m l i=0) (fun r=>p-r) (A6 T f235 [10,11,2] [.rat (nL n k p m c i l a) sB,.int .i64 (jh n k p m l i)] (k9 m c)) ⟨_,WX,?_⟩ (fun r ⟨hr,he⟩=>?_) (fun r ⟨hr,he⟩=>?_) (fun v s' hv hs'=>hv.fin (L1:=[4,0,1,3,12,66,67,68]) hk hs')
 ·simp only[ag.all,az,ya,bne_iff_ne,ne_eq,bne_eq_false_iff_eq,bf,cond_false,bk,bt,z7]
  have ret:∀{e:Int} {us:List AV},jh n k p m l i=e->e≠0->bH us=[]->A6 T f235 [10,11,2] [.rat (nL n k p m c i l a) sB,.int .i64 (jh n k p m l i)] (k9 m c) ([ptr 1 0 3 0 [],int i64 e,own 0 3 0 m]++us,[((0:Nat),k9 m c),((1:Nat),bP fun j=>if(j==0)=true then bp (agg (kids (.rat 0 1)))else .rat 0 1)]):=fun {e us} h1 h2 h3=>
   ⟨[_,_,_],us,2,_,rfl,rfl,h3,WL,rfl,⟨⟨aa,fun i _=>rfl⟩,⟨aa,fun i _=>th rfl rfl⟩,trivial⟩,aa,Nat.zero_lt_one,rfl,rfl,acs h1 h2,⟨_,rfl,hrow _ _ _⟩⟩
  (repeat' with_reducible first|refine And.intro ?_ ?_|intro _)
  all_goals first|omega|exact bI bz|exact absurd ‹true=false› (by decide)|assumption|skip
  all_goals first|exact ret (OD (.inl ‹_›)) (by decide) rfl|exact ret (OD (.inr aa)) (by decide) rfl|skip
  all_goals first|exact ret (C9 aa aa (.inl aa)) (by decide) rfl|exact ret (C9 aa aa (.inr (.inl aa))) (by decide) rfl|skip
  all_goals have e1:(i+1).toNat=i.toNat+1:=aa
  ·exact ret (C9 aa aa (.inr (.inr (by rw[<-e1];assumption)))) (by decide) rfl
  ·rename_i h1
   rw[e1]at h1
   have hlp:l=p:=aa
   subst hlp
   refine⟨0,⟨aa,IB aa rfl (by rintro(h|h|h)<;>first|omega|exact h1 h)⟩,[(0,0),(1,1),(2,163841)],rfl,?_,rfl,b7 rfl rfl aa (fun j hj=>?_) (aM (b7 rfl rfl rfl (fun j hj=>cR rfl rfl) trivial))⟩
   ·rw[show((l:Int)+1).toNat=l+1 by omega]
    show _=[_,_,_,_,_,_,AV.int i64 ((i.toNat:Nat):Int),_,_,_,_]
    rw[show((i.toNat:Nat):Int)=i by omega]
    rfl
   ·rw[if_pos aa,hx0,show(i-(l:Int)).toNat=b by omega,Nat.sub_zero,Nat.zero_add,Nat.add_comm j b]
    exact .inr ⟨rfl,cB rfl (show sK<=SB 0 by decide)⟩
 ·have hin:(m:Int)=(n:Int)-p-1/\p<=i.toNat/\i.toNat<m/\i.toNat=b+p/\l=p:=by
   unfold jh at he
   split at he
   ·omega
   ·split at he
    ·omega
    ·omega
  obtain⟨i1,i2,i3,i4,i5⟩:=hin
  subst i5
  have hr4:∀{s:Nat->Nat} {y:Nat->Rat},jN 3 [(0,0),(1,1),(2,2)] [(2,au.mk true true 3 (l+1) fun i=>rat (y i) (s i)),((0:Nat),k9 m c),((1:Nat),bP fun x=>rat 0 1)] (nV l m c y s):=b7 rfl rfl rfl (fun j hj=>cR rfl rfl) (aM (b7 rfl rfl rfl (fun j hj=>cR rfl rfl) trivial))
  refine ax.u5 hT wB hm (y:=tY) (x1:=xP) (zb:=part tY [1,1,1]) [1,1,0] (j:=2) ah ah ah ah hk (f1:=[69]) 60 oI 3 (fun _:Unit=>vm n k l m a i.toNat r) (fun _=>nV l m c (x r) fun _=>SB r) (fun _=>r<l) ⟨_,abZ,?_⟩ (fun _ hr'=>?_)
  ·simp only[ag.all,az,bk,bt]
   have re:∀{s:Nat->Nat} {y:Nat->Rat},dN [0] ([ptr 1 0 3 0 [],int i64 0,own 0 3 0 m,ls a l,ak 3 n fun i=>rat (k i) sK,int i64 l,int i64 (i.toNat:Nat),own 2 3 0 (l+1),ls a l,int i64 l,int i64 (r:Nat)],[(2,au.mk true true 3 (l+1) fun i=>rat (y i) (s i)),((0:Nat),k9 m c),((1:Nat),bP fun x=>rat 0 1)]) (vm n k l m a i.toNat r) (nV l m c y s) 3:=
    ⟨[(0,0),(1,1),(2,2)],rfl,rfl,rfl,hr4⟩
   exact⟨fun h1=>⟨(),aa,re⟩,fun h1 s' hs'=>⟨rfl,r,⟨aa,he⟩,re.le hs' hk⟩⟩
  have h1:=vM (d:=r)
  have h2:=yy (d:=r) aa
  have h3:=AF (d:=r)
  refine ax.zn hT wB hm (x:=xP) [1,1] (i:=3) (y:=part xP [1,1,0,0]) ah ah ah hk (f1:=[]) (f2:=[76]) 60 xX 4 (fun j:Nat=>Fl n k l m a i.toNat r j) (fun j=>(3,tP (a r) sK)::nV l m c (nc k b l r (a r) (x r) j) (nH r j)) (fun j=>r<=j/\j<=l) (fun j=>j=r) (fun j=>j) (fun _=>False) ⟨_,XL,?_⟩ (fun j hj=>⟨_,Zr,?_⟩) (fun j s' hj hle=>?_) (fun _ _ h=>h.elim)
  ·simp only[ag.all,az,bf]
   refine⟨⟨aa,aa⟩,l,aa,[(0,0),(1,1),(2,2),(3,12291)],rfl,rfl,rfl,aM (b7 rfl rfl rfl (fun j hj=>cR rfl ?_) (aM (b7 rfl rfl rfl (fun j hj=>cR rfl rfl) trivial)))⟩
   unfold nc nH
   rw[if_pos aa,if_pos aa]
  ·obtain⟨hj1,hj2⟩:=hj
   have e1:((i.toNat:Nat):Int)-(l:Int)+(j:Int)=((b+j:Nat):Int):=aa
   have e2:((b+j:Nat):Int)+(l:Int)-(r:Int)=((b+j+(l-r):Nat):Int):=aa
   have u1:∀{j':Nat},j'<=j->nH r j j'=SB r:=fun h=>by unfold nH;rw[if_pos h]
   simp only[ag.all,az,bk,bt,e1,e2,bf,Nat.add_zero]
   refine⟨fun h4=>?_,fun h4=>⟨rfl,j,aa,[(0,0),(1,1),(2,2),(3,3)],rfl,rfl,rfl,aM (b7 rfl rfl rfl (fun j hj=>cR rfl rfl) (aM (b7 rfl rfl rfl (fun j hj=>cR rfl rfl) trivial)))⟩⟩
   have e3:((j:Int)-1).toNat=j-1:=aa
   have u2:=u1 (j':=j) bz
   have u3:=u1 (j':=j-1) aa
   simp only[e3,u2,u3]
   (repeat' with_reducible refine And.intro ?_ ?_)
   all_goals first|omega|skip
   exact⟨j-1,aa,by dsimp only;omega,[(0,0),(1,1),(2,2),(3,3)],rfl,by rw[show(j:Int)-1=((j-1:Nat):Int) by omega];rfl,rfl,aM (b7 rfl rfl rfl (fun q hq=>agc aa aa) (aM (b7 rfl rfl rfl (fun j hj=>cR rfl rfl) trivial)))⟩
  ·subst hj
   show ax P cx f235.ntmps (part tY [1,1,1]) s' _
   refine ax.ja hle (ax.bE hT wB hm 60 oI R8 ah ?_)
   simp only[ag.all,az]
   refine⟨aa,fun s' hs'=>⟨j+1,⟨aa,he⟩,by dsimp only;omega,dN.le ⟨[(0,0),(1,1),(2,2)],rfl,rfl,rfl,b7 rfl rfl rfl (fun q hq=>?_) (aM (b7 rfl rfl rfl (fun j hj=>cR rfl rfl) trivial))⟩ hs' hk⟩⟩
   refine .inr ⟨rfl,cB (by rw[RE,hxS]) ?_⟩
   show nH j j q<=SB (j+1)
   unfold nH
   split<;>omega
 ·have hlp:l=p:=by
   unfold jh at he
   split at he
   ·omega
   ·omega
  subst hlp
  subst hr
  refine ax.gZ ((aG.RU hT wB hm 60 ZZ ah ?_).mono fun _ _ h=>.inl h)
  have h2:=yy (d:=r) hp6
  simp only[ag.all,az,bf,Nat.add_zero]
  refine⟨⟨aa,aa,aa,aa,aa⟩,aa,rfl,rfl,⟨cB ?_ (by show SB r+1+1<=536870912;omega),bS he.symm,trivial⟩,⟨_,rfl,hrow _ _ _⟩⟩
  unfold nL
  rw[if_pos he,<-hb,hx,Rat.add_zero]
def v8 (f:Nat->AV) (n s:Nat):Prop:=∀i,i<n->keys (f i)=[]/\bh (f i) (.rat (aE (f i)) s)
theorem W1 {k:Nat->Rat} {n s s':Nat} (h:s<=s'):v8 (fun i=>.rat (k i) s) n s':=fun _ _=>⟨rfl,ey h⟩
theorem v8.obj {f:Nat->AV} {n s:Nat} {w:Bool} (h:v8 f n s) {m:Nat} (hm:n=m) (ρ:Nat->Option Nat):dK ρ ⟨true,w,3,n,f⟩ ⟨true,w,3,m,fun i=>.rat (aE (f i)) s⟩:=⟨rfl,rfl,rfl,hm.symm,fun i hi=>nS (h i hi).1 (h i hi).2⟩
def Dn:Spec:=fun _ args pre=>match args,pre with
 |[.ak 3 n kf,.int .i64 p,.own b 3 0 m,.int .i64 i,.ak 3 l af],[(b',⟨true,true,3,mb,fb⟩)]=>match b'==b with
  |true=>some ⟨O7 n (fun i=>aE (kf i)) p.toNat m (fun i=>aE (fb i)) i l (fun i=>aE (af i)),[(b,k9 m fun i=>aE (fb i))],
   [mb=m,bn kf n sK,bn af l sK,v8 fb m sK,1<=p,p<=6,n<2^40,m<2^40,-2^40<i,i<2^40]⟩
  |false=>none
 |_,_=>none
theorem RG:aU P Dn 235:=by
 intro K args pre r h
 unfold Dn at h
 split at h
 ·rename_i n kf p b m i l af b' mb fb
  split at h
  ·rename_i hc
   have hc:=eq_of_beq hc
   subst hc
   simp only[ay]at h
   subst h
   intro need
   obtain⟨rfl,n1,n2,n3,n4,n5,n6,n7,n8,n9⟩:=need
   refine ac7 hT LN (args:=[.ak 3 n kf,.int .i64 p,.own b' 3 0 mb,.int .i64 i,.ak 3 l af]) (us:=[.rat (nL n (fun i=>aE (kf i)) p.toNat mb (fun i=>aE (fb i)) i l (fun i=>aE (af i))) sB,.int .i64 (jh n (fun i=>aE (kf i)) p.toNat mb l i)]) (args0:=[ls (fun i=>aE (kf i)) n,.int .i64 p,.own 0 3 0 mb,.int .i64 i,ls (fun i=>aE (af i)) l]) aV
    ⟨⟨rfl,nS rfl (yK n1)⟩,aL,⟨rfl,cP rfl rfl rfl⟩,aL,⟨rfl,nS rfl (yK n2)⟩,trivial⟩ (fun _ ρ=>n3.obj rfl ρ) (fun _ c hk=>?_) K ⟨rfl,n1,n2,n3,n4,n5,n6,n7,n8,n9⟩
   have:=X9 (n:=n) (p:=p.toNat) (m:=mb) (l:=l) (k:=fun i=>aE (kf i)) (c:=fun i=>aE (fb i)) (a:=fun i=>aE (af i)) (i:=i) aa aa n6 n7 n8 n9 c hk
   rw[Int.toNat_of_nonneg aa]at this
   exact this
  ·simp at h
 ·simp at h
theorem Sb:aW 194 f194:=aT func194
theorem Js:aW 196 f196:=aT func196
def sU (k:Nat->Rat) (n:Nat):Nat->Nat->Nat
 |0,i=>i
 |f+1,i=>if i+1<n/\k (i+1)<=k i then sU k n f (i+1)else i
def iO (k:Nat->Rat) (n i:Nat):Nat:=sU k n (n-i) i
abbrev xD:List Nat:=[0,1,4]
abbrev Hv (n i:Nat) (k:Nat->Rat):List AV:=[ls k n,.int .i64 i,.int .i64 0]
abbrev yt:Code:=aF f194
def ck (h:Pl):Nat->Rat
 |0=>h.n.x
 |1=>h.n.y
 |2=>h.n.z
 |_=>h.d
def oW (g:Nat->Rat):Nat->Pl
 |0=>⟨⟨0,0,0⟩,0⟩
 |1=>⟨⟨g 0,0,0⟩,0⟩
 |2=>⟨⟨g 0,g 1,0⟩,0⟩
 |3=>⟨⟨g 0,g 1,g 2⟩,0⟩
 |_=>⟨⟨g 0,g 1,g 2⟩,g 3⟩
def jo (c:Cu) (i:Int) (l:Nat) (g:Nat->Rat) (a:Nat):Rat:=nL c.n c.k c.p.toNat c.m (fun j=>ck (c.f j) a) i l g
def rF (c:Cu) (i:Int) (l:Nat) (g:Nat->Rat):Pl:=⟨⟨jo c i l g 0,jo c i l g 1,jo c i l g 2⟩,jo c i l g 3⟩
def oY (c:Cu) (a:Nat) (x:Nat->Rat) (j q:Nat):Rat:=if q<j\/c.m<=q then ck (c.f q) a else x q
theorem ahl {c:Cu} {a:Nat} {x:Nat->Rat}:oY c a x c.m=fun q=>ck (c.f q) a:=by
 funext q;unfold oY;rw[if_pos aa]
def pQ:aX:=nG::(235,Dn)::gW
abbrev jz:List Nat:=[1,2,3,6,7,8,16]
abbrev lC (c:Cu) (i:Int) (l:Nat) (g:Nat->Rat) (a:Nat):List AV:=[.int .i64 i,ls g l,.ptr 0 0 3 0 [],.ptr 1 0 12 0 [],.ptr 2 0 12 0 [],.own 3 3 0 c.m,.int .i64 a]
abbrev wu:List Nat:=[1,2,3,6,7,8,16,9,20,21,22]
abbrev Ah (c:Cu) (i:Int) (l:Nat) (g:Nat->Rat) (a j:Nat):List AV:=[.int .i64 i,ls g l,.ptr 0 0 3 0 [],.ptr 1 0 12 0 [],.ptr 2 0 12 0 [],.own 3 3 0 c.m,.int .i64 a,.int .i64 a,qD c.f c.m sK,.int .i64 c.m,.int .i64 j]
abbrev jT (c:Cu) (x:Nat->Rat) (h:Pl):aC:=[(3,k9 c.m x),(2,mT h sB),(1,mT ⟨⟨0,0,0⟩,0⟩ 1),(0,qT c sK)]
abbrev Bn:Code:=aF f196
abbrev o6:Code:=part Bn [1,1,1,0,1,0,0]
abbrev oZ:Code:=part o6 [1,1,0,0]
theorem Tn {n i:Nat} {k:Nat->Rat}:aH T (nG::gW) [] 60 xD (before yt [1,0]) ⟨aQ 0 [ls k n,.int .i64 i],[],0⟩=
  some (leaf normal ([ak 3 n fun i=>rat (k i) 4096,int i64 (↑i:Int),int i64 0],[])):=ah
theorem adX {n i:Nat} {k:Nat->Rat}:aH T (nG::gW) [10,22] 60 xD [part yt [1,0,0,0]] ⟨aA xD (Hv n i k),[],0⟩=
  let c9:Prop:=sK<2^42;let c8:Int:=(↑i:Int);let c3:AV:=ak 3 n fun i=>rat (k i) 4096;let c4:ag (List AV×aC):=leaf (exit 0) ([c3,int i64 c8,int i64 0],[]);let c1:Int:=c8+1;let c7:Int:=ep (k c8.toNat) (k c1.toNat);let c6:Bool:=decide (c1<(↑n:Int));let c2:Prop:=-(2:Int)^63<=c1/\c1<2^63;let c5:ag (List AV×aC):=aj [c2] (leaf normal ([c3,int i64 c1,int i64 0],[]));some (fork c6 (aj [c2,c6=true,(0:Int)<=c8/\c8.toNat<n,c2,(0:Int)<=c1/\c1.toNat<n,c9,c9] (fork (bif true then decide (c7>=0)else false) c5 c4)) (aj [c2,c6=false] (fork false c5 c4))):=ah
theorem TZ {n i:Nat} {k:Nat->Rat}:cy T (nG::gW) [] 60 f194 [part yt [1,1]] ⟨aA xD (Hv n i k),[],0⟩=
  some (leaf ret [int i64 (↑i:Int)]):=ah
theorem aga {c:Cu} {i:Int} {l:Nat} {g:Nat->Rat}:aH T pQ [] 60 jz (before Bn [1,1,1,0,1]) ⟨aQ 0 [dD c sK sK,.int .i64 i,ls g l],[],0⟩=
  let c4:Nat:=(bp (dD c sK sK)).size;let c3:Int:=(↑c.m:Int);let c1:AV:=rat 0 1;let c2:au:=au.mk false true 12 1 fun x=>agg [c1,c1,c1,c1];some (aj [(0:Nat)<1,(0:Int)<=c3/\c3<=c3/\c3<=2^47/\c3*(↑(56:Nat):Int)<=2^47] (leaf normal ([int i64 i,ak 3 l fun i=>rat (g i) 4096,ptr 0 0 c4 0 [],ptr 4096 0 12 0 [],ptr 8192 0 12 0 [],own 24576 3 0 c3.toNat,int i64 0],[(24576,au.mk true true 3 c3.toNat fun x=>c1),((8192:Nat),c2),((4096:Nat),c2),(0,au.mk false true c4 1 fun x=>agg [int i64 c.p,ak 3 c.n fun i=>rat (c.k i) 4096,ak 12 c.m fun i=>bV (c.f i) 4096])]))):=ah
theorem aez {c:Cu} {i:Int} {l a:Nat} {g x:Nat->Rat} {h:Pl}:aH T pQ [17] 60 jz (before o6 [1,1,0]) ⟨aA jz (lC c i l g a),jT c x h,4⟩=
  let c2:AV:=rat 0 1;let c1:List AV×aC:=([int i64 i,ak 3 l fun i=>rat (g i) 4096,ptr 0 0 3 0 [],ptr 1 0 12 0 [],ptr 2 0 12 0 [],own 3 3 0 c.m,int i64 (↑a:Int)],[(3,au.mk true true 3 c.m fun i=>rat (x i) 4096),(2,au.mk false true 12 1 fun x=>bV h 536870912),(1,au.mk false true 12 1 fun x=>agg [c2,c2,c2,c2]),((0:Nat),bP fun x=>agg [int i64 c.p,ak 3 c.n fun i=>rat (c.k i) 4096,ak 12 c.m fun i=>bV (c.f i) 4096])]);some (fork (decide ((↑a:Int)<4)) (leaf normal c1) (leaf (exit 0) c1)):=ah
theorem V6 {c:Cu} {i:Int} {l a:Nat} {g x:Nat->Rat} {h:Pl}:aH T pQ [] 60 wu (before oZ [1,0,1]) ⟨aA jz (lC c i l g a),jT c x h,4⟩=
  let c2:AV:=rat 0 1;let c1:AV:=ak 12 c.m fun i=>bV (c.f i) 4096;some (aj [(0:Nat)<1] (leaf normal ([int i64 i,ak 3 l fun i=>rat (g i) 4096,ptr 0 0 3 0 [],ptr 1 0 12 0 [],ptr 2 0 12 0 [],own 3 3 0 c.m,int i64 (↑a:Int),int i64 (↑a:Int),c1,int i64 (↑c.m:Int),int i64 0],[(3,au.mk true true 3 c.m fun i=>rat (x i) 4096),(2,au.mk false true 12 1 fun x=>bV h 536870912),(1,au.mk false true 12 1 fun x=>agg [c2,c2,c2,c2]),((0:Nat),bP fun x=>agg [int i64 c.p,ak 3 c.n fun i=>rat (c.k i) 4096,c1])]))):=ah
theorem Ro {c:Cu} {i:Int} {l a:Nat} {g x:Nat->Rat} {h:Pl}:aH T pQ [] 60 jz [part o6 [1,1,1]] ⟨aA jz (lC c i l g a),jT c x h,4⟩=
  let c2:Int:=(↑a:Int)+1;let c1:AV:=rat 0 1;some (aj [-(2:Int)^63<=c2/\c2<2^63] (leaf normal ([int i64 i,ak 3 l fun i=>rat (g i) 4096,ptr 0 0 3 0 [],ptr 1 0 12 0 [],ptr 2 0 12 0 [],own 3 3 0 c.m,int i64 c2],[(3,au.mk true true 3 c.m fun i=>rat (x i) 4096),(2,au.mk false true 12 1 fun x=>bV h 536870912),(1,au.mk false true 12 1 fun x=>agg [c1,c1,c1,c1]),((0:Nat),bP fun x=>agg [int i64 c.p,ak 3 c.n fun i=>rat (c.k i) 4096,ak 12 c.m fun i=>bV (c.f i) 4096])]))):=ah
theorem Zc {c:Cu} {i:Int} {l a:Nat} {g x:Nat->Rat} {h:Pl}:cy T pQ [] 60 f196 [part Bn [1,1,1,1]] ⟨aA jz (lC c i l g a),jT c x h,4⟩=
  let c1:Prop:=0<1;some (aj [c1,c1] (aj [c1] (leaf ret [bV h 536870912]))):=ah
theorem agL {k:Nat->Rat} {n i:Nat} (h:i+1<n) (h2:k (i+1)<=k i):iO k n i=iO k n (i+1):=by
 unfold iO;rw[show n-i=(n-(i+1))+1 by omega,sU,if_pos ⟨h,h2⟩]
theorem L8 {k:Nat->Rat} {n i:Nat} (h:¬(i+1<n/\k (i+1)<=k i)):iO k n i=i:=by
 unfold iO
 cases n-i with
 |zero=>rfl
 |succ f=>rw[sU,if_neg h]
theorem V0 {n i:Nat} {k:Nat->Rat} (hi:i<=n) (hn:n<2^40) (K:Nat):aS P 194 K [ls k n,.int .i64 i] [] (aJ (.int .i64 (iO k n i)) []):=by
 refine iB (r:=aJ (.int .i64 (iO k n i)) []) hT (cz iN) hm Sb rfl aV rfl [1,0] (i:=0) (y:=part yt [1,0,0,0]) (z:=part yt [1,1]) ah ah ah (f1:=[]) (f2:=[10,22]) (f3:=[]) 60 xD 0
  (fun j:Nat=>Hv n j k) (fun _=>[]) (fun j=>j<=n/\iO k n j=iO k n i) (fun j=>j=iO k n i) (fun j=>n-j) (fun _=>⟨⟨_,Tn,?_⟩,fun j hj=>⟨_,adX,?_⟩,fun j hj=>⟨_,TZ,?_⟩⟩) K []
 ·simp only[ag.all,az]
  exact⟨i,⟨hi,rfl⟩,[],rfl,rfl,rfl,trivial⟩
 ·have e1:((j:Int)+1).toNat=j+1:=aa
  simp only[ag.all,az,bk,bt,bf,cond_true,e1,z7]
  refine⟨fun h1=>⟨⟨aa,aa,aa,aa,aa,by decide,by decide⟩,fun h2=>⟨aa,j+1,⟨aa,(agL aa h2).symm.trans hj.2⟩,by dsimp only;omega,[],rfl,rfl,rfl,trivial⟩,fun h2=>⟨rfl,j,?_,[],rfl,rfl,rfl,trivial⟩⟩,fun h1=>⟨⟨aa,aa⟩,fun h=>absurd h (by decide),fun _=>⟨rfl,j,?_,[],rfl,rfl,rfl,trivial⟩⟩⟩
  ·exact(L8 fun h=>h2 h.2).symm.trans hj.2
  ·exact(L8 fun h=>aa).symm.trans hj.2
 ·subst hj
  simp only[ag.all,az]
  exact .refl _
def PR:Spec:=cA (kC (kL sK) (kC kI kN)) (fun a=>.int .i64 (iO a.1.2 a.1.1 a.2.1.toNat)) fun a=>[0<=a.2.1,a.2.1<=a.1.1,a.1.1<2^40]
theorem Wx:aU P PR 194:=ct fun⟨⟨n,k⟩,i,_⟩ K hn=>by
 obtain⟨h1,h2,h3⟩:=hn
 have:=V0 (n:=n) (i:=i.toNat) (k:=k) (by dsimp only at*;omega) h3 K
 rw[Int.toNat_of_nonneg h1]at this
 exact this
theorem vL:bq P pQ:=cz (aI RG iN)
def zq (c:Cu):Nat->Nat->Rat
 |0=>fun _=>0
 |a+1=>fun q=>ck (c.f q) a
theorem YM {rl:List (Nat×Nat)} {c:Cu} {a:Nat} {x:Nat->Rat} {q:Nat} (hq:q<c.m):ia rl (.rat (x q) sK) (.rat (oY c a x 0 q) sK):=cR rfl (by unfold oY;rw[if_neg aa])
theorem Rx {rl:List (Nat×Nat)} {c:Cu} {a j:Nat} {x:Nat->Rat} {q:Nat} {v:Rat} (hq:q<c.m) (hv:v=ck (c.f j) a):ia rl (.rat (bif q==j then v else oY c a x j q) (bif q==j then sK else sK)) (.rat (oY c a x (j+1) q) sK):=by
 refine cR rfl ?_
 rw[Bool.cond_self]
 congr 1
 by_cases h:q=j
 ·subst h
  rw[beq_self_eq_true,cond_true,hv];unfold oY;rw[if_pos aa]
 ·rw[beq_eq_false_iff_ne.2 h,cond_false];unfold oY
  by_cases h2:q<j
  ·rw[if_pos (.inl h2),if_pos (.inl aa)]
  ·rw[if_neg aa,if_neg aa]
theorem acZ {x:Nat->Rat} {m:Nat}:v8 (fun i=>.rat (x i) sK) m sK:=W1 bz
theorem four {a:Nat} (ha:a<4):a=0\/a=1\/a=2\/a=3:=aa
theorem ae8 {c:Cu} {i:Int} {l a j:Nat} {g x:Nat->Rat} {h:Pl} (ha:a<4):aH T pQ [23] 60 wu [part oZ [1,0,1,0,0]] ⟨aA wu (Ah c i l g a j),jT c x h,4⟩=
  some (fork (decide ((j:Int)<c.m)) (aj [(0:Int)<=j/\(j:Int).toNat<c.m,0<1] (aj [(0:Int)<=a/\(a:Int)<4,0<1,(0:Int)<=j/\(j:Int).toNat<c.m,(j:Int).toNat+0<c.m] (aj [-(2:Int)^63<=(j:Int)+1/\(j:Int)+1<(2:Int)^63]
   (leaf normal ([.int .i64 i,ls g l,.ptr 0 0 3 0 [],.ptr 1 0 12 0 [],.ptr 2 0 12 0 [],.own 3 3 0 c.m,.int .i64 a,.int .i64 a,qD c.f c.m sK,.int .i64 c.m,.int .i64 ((j:Int)+1)],(3,⟨true,true,3,c.m,fun q=>.rat (bif q==(j:Int).toNat+0 then ck (c.f (j:Int).toNat) a else x q) (bif q==(j:Int).toNat+0 then sK else sK)⟩)::[(2,mT h sB),(1,mT ⟨⟨0,0,0⟩,0⟩ 1),(0,qT c sK)]))))) (leaf (exit 2) (Ah c i l g a j,jT c x h))):=by
 rcases four ha with rfl|rfl|rfl|rfl<;>kernel_rfl
theorem abW {c:Cu} {i:Int} {l a j:Nat} {g x:Nat->Rat} {h:Pl} (ha:a<4):aH T pQ [] 60 jz [part oZ [1,1]] ⟨aA wu (Ah c i l g a j),jT c x h,4⟩=
  some (aj [0<1,0<1,c.m=c.m,bn (fun i=>.rat (c.k i) sK) c.n sK,bn (fun i=>.rat (g i) sK) l sK,v8 (fun i=>.rat (x i) sK) c.m sK,(1:Int)<=c.p,c.p<=6,c.n<2^40,c.m<2^40,-(2:Int)^40<i,i<2^40,(0:Int)<=a/\(a:Int)<4,0<1]
   (leaf normal (lC c i l g a,[(3,k9 c.m x),(2,⟨false,true,12,1,fun j=>if(j==0)=true then .agg ((bV h sB).kids.set a (.rat (nL c.n c.k c.p.toNat c.m x i l g) sB))else bV h sB⟩),(1,mT ⟨⟨0,0,0⟩,0⟩ 1),(0,qT c sK)]))):=by
 rcases four ha with rfl|rfl|rfl|rfl<;>kernel_rfl
theorem abO {rl:List (Nat×Nat)} {G:Nat->Rat} {a:Nat} (ha:a<4):ia rl (.agg ((bV (oW G a) sB).kids.set a (.rat (G a) sB))) (bV (oW G (a+1)) sB):=by
 rcases four ha with rfl|rfl|rfl|rfl<;>exact cR rfl rfl
theorem T8 {c:Cu} {i:Int} {l a:Nat} {g x:Nat->Rat} {cx:Ctx} {Q:aq->aK->Prop} (ha:a<4) (hk:Kept [] cx) (hp1:1<=c.p) (hp6:c.p<=6) (hn:c.n<2^40) (hm2:c.m<2^40) (hi:-2^40<i) (hi2:i<2^40)
  (hQ:∀s',(∃ρ,Le cx ρ s' ⟨aA jz (lC c i l g a),jT c (zq c (a+1)) (oW (jo c i l g) (a+1)),4⟩)->ax P cx f196.ntmps (part o6 [1,1,1]) s' Q):
  ax P cx f196.ntmps oZ ⟨aA jz (lC c i l g a),jT c x (oW (jo c i l g) a),4⟩ (inBlock 1 (eo (fun s'=>ax P cx f196.ntmps (part o6 [1,1,1]) s' Q) Q)):=by
 refine ax.zn hT vL hm (x:=oZ) [1,0,1] (i:=2) (y:=part oZ [1,0,1,0,0]) ah ah ah hk (f1:=[]) (f2:=[23]) 60 wu 4 (fun j:Nat=>Ah c i l g a j) (fun j=>jT c (oY c a x j) (oW (jo c i l g) a)) (fun j=>j<=c.m) (fun j=>j=c.m) (fun j=>c.m-j) (fun _=>False) ⟨_,V6,?_⟩ (fun j hj=>⟨_,ae8 ha,?_⟩) (fun j s' hj hle=>?_) (fun _ _ h=>h.elim)
 ·simp only[ag.all,az]
  exact⟨aa,0,Nat.zero_le _,[(0,0),(1,1),(2,2),(3,3)],rfl,rfl,rfl,b7 rfl rfl rfl (fun q hq=>YM hq) (aM (aM (aM trivial)))⟩
 ·simp only[ag.all,az,bk,bt,bf,Nat.add_zero]
  exact⟨fun h1=>⟨⟨aa,aa⟩,⟨aa,aa,aa,aa⟩,aa,j+1,aa,by dsimp only;omega,[(0,0),(1,1),(2,2),(3,3)],rfl,rfl,rfl,b7 rfl rfl rfl (fun q hq=>Rx hq rfl) (aM (aM (aM trivial)))⟩,
   fun h1=>⟨rfl,j,aa,[(0,0),(1,1),(2,2),(3,3)],rfl,rfl,rfl,b7 rfl rfl rfl (fun q hq=>cR rfl rfl) (aM (aM (aM trivial)))⟩⟩
 ·subst hj
  simp only[ahl]at hle
  rw[show behind oZ [1,0,1]=[part oZ [1,1]]from by kernel_rfl]
  refine aG.weak rfl hle (aG.bE hT vL hm 60 jz (abW ha) ah ?_)
  simp only[ag.all,az]
  refine⟨⟨aa,aa,trivial,bI bz,bI bz,acZ,hp1,hp6,hn,hm2,hi,hi2,aa,aa⟩,fun s'' hs''=>hQ s'' (dN.le ⟨[(0,0),(1,1),(2,2),(3,3)],rfl,rfl,rfl,b7 rfl rfl rfl (fun q hq=>cR rfl rfl) (dh rfl rfl (abO ha) (aM (aM trivial)))⟩ hs'' hk)⟩
theorem ac9 {c:Cu} {i:Int} {l:Nat} {g:Nat->Rat} (hp1:1<=c.p) (hp6:c.p<=6) (hn:c.n<2^40) (hm2:c.m<2^40) (hi:-2^40<i) (hi2:i<2^40) (K:Nat):aS P 196 K [dD c sK sK,.int .i64 i,ls g l] [] (aJ (bV (rF c i l g) sB) []):=by
 refine fX (r:=aJ (bV (rF c i l g) sB) []) hT Js rfl aV rfl (fun _ cx h00=>?_) K []
 have hk:=jk h00
 refine ax.Ac hT vL hm [1,1,1,0,1] (i:=0) (y:=o6) (z:=part Bn [1,1,1,1]) ah ah ah Js.dst hk (f1:=[]) 60 jz 4 (fun a:Nat=>lC c i l g a) (fun a=>jT c (zq c a) (oW (jo c i l g) a)) (fun a=>a<=4) (fun a=>a=4) (fun a=>4-a) (fun _=>False) ⟨_,aga,?_⟩ (fun a ha=>?_) (fun a ha=>?_) (fun _ _ h=>h.elim)
 ·simp only[ag.all,az,bf]
  exact⟨⟨aa,aa⟩,0,aa,[(0,0),(1,4096),(2,8192),(3,24576)],rfl,rfl,rfl,b7 rfl rfl rfl (fun q hq=>.inr ⟨rfl,cB rfl (by decide)⟩) (dh rfl rfl (.inr ⟨rfl,cL (show fR [.rat _ _,.rat _ _,.rat _ _,.rat _ _] [.rat _ _,.rat _ _,.rat _ _,.rat _ _]from⟨cB rfl (by decide),cB rfl (by decide),cB rfl (by decide),cB rfl (by decide),trivial⟩)⟩) (aM (aM trivial)))⟩
 ·have re:∀{x:Nat->Rat} {h:Pl},dN [] (lC c i l g a,jT c x h) (lC c i l g a) (jT c x h) 4:=
   fun {x h}=>⟨[(0,0),(1,1),(2,2),(3,3)],rfl,rfl,rfl,b7 rfl rfl rfl (fun q hq=>cR rfl rfl) (aM (aM (aM trivial)))⟩
  refine ax.u5 hT vL hm (y:=o6) (x1:=oZ) (zb:=part o6 [1,1,1]) [1,1,0] (j:=1) ah ah ah ah hk (f1:=[17]) 60 jz 4 (fun _:Unit=>lC c i l g a) (fun _=>jT c (zq c a) (oW (jo c i l g) a)) (fun _=>a<4) ⟨_,aez,?_⟩ (fun _ ha'=>?_)
  ·simp only[ag.all,az,bk,bt]
   exact⟨fun h1=>⟨(),aa,re⟩,fun h1 s' hs'=>⟨rfl,a,aa,re.le hs' hk⟩⟩
  have nx:∀s',(∃ρ,Le cx ρ s' ⟨aA jz (lC c i l g a),jT c (zq c (a+1)) (oW (jo c i l g) (a+1)),4⟩)->ax P cx f196.ntmps (part o6 [1,1,1]) s' (Ch cx jz (fun a:Nat=>lC c i l g a) (fun a=>jT c (zq c a) (oW (jo c i l g) a)) 4 (fun a=>a<=4) (fun a=>a=4) (fun a=>4-a) 0 (fun s'=>∃v,False/\bA jz s'=some v) a):=fun s' hle=>by
   refine ax.ja hle (ax.bE hT vL hm 60 jz Ro ah ?_)
   simp only[ag.all,az]
   exact⟨aa,fun s'' hs''=>⟨a+1,aa,by dsimp only;omega,dN.le ⟨[(0,0),(1,1),(2,2),(3,3)],rfl,rfl,rfl,b7 rfl rfl rfl (fun q hq=>cR rfl rfl) (aM (aM (aM trivial)))⟩ hs'' hk⟩⟩
  exact T8 ha' hk hp1 hp6 hn hm2 hi hi2 nx
 ·subst ha
  refine ax.gZ ((aG.fin hT vL hm 60 Zc ah ?_).mono fun _ _ h=>.inl h)
  simp only[ag.all,az]
  exact⟨⟨aa,aa⟩,aa,.refl _⟩
def Kx:Spec:=cA (kC (uO sK sK) (kC kI (kC (kL sK) kN))) (fun a=>bV (rF a.1 a.2.1 a.2.2.1.1 a.2.2.1.2) sB) fun a=>[1<=a.1.p,a.1.p<=6,a.1.n<2^40,a.1.m<2^40,-2^40<a.2.1,a.2.1<2^40]
theorem Tg:aU P Kx 196:=ct fun⟨c,i,⟨l,g⟩,_⟩ K hn=>ac9 hn.1 hn.2.1 hn.2.2.1 hn.2.2.2.1 hn.2.2.2.2.1 hn.2.2.2.2.2 K
theorem aac:aW 47 f47:=aT func47
theorem Up:aW 129 f129:=aT func129
def nW (n:Nat) (k:Nat->Rat) (a b:Rat) (i:Nat):Rat:=a+(k i-k 0)/(k (n-1)-k 0)*(b-a)
abbrev Gm (m:Nat) (k:Nat->Rat) (s:Nat):au:=⟨true,true,3,m,fun i=>.rat (k i) s⟩
theorem ad1 {c:Nat} {u v:AV} (hv:v.isAgg=false) (h:bh u v):bh (.bO c u) (.bO c v):=by
 refine⟨rfl,fun M w cs hc=>?_⟩
 cases hc with
 |bO _ h1 h2=>cases h2;exact .bO hv (h.2 _ _ _ h1) .nil
def aa2 (s:Nat):Kind (Nat×(Nat->Rat)):=⟨fun v=>match v with
 |.bO c v=>match(kL s).read v with
  |some (a,q)=>some (a,(c=a.1)::q)
  |none=>none
 |_=>none,fun a=>.bO a.1 (bD a.2 a.1 s),fun {v a q} h hq=>by
  split at h
  ·split at h
   ·rename_i h1
    simp only[ay,Prod.mk.injEq]at h
    obtain⟨rfl,rfl⟩:=h
    obtain⟨q1,q2⟩:=Cc.1 hq
    subst q1
    exact ad1 rfl ((kL s).ok h1 q2)
   ·simp at h
  ·simp at h⟩
abbrev CM:FuncId:=193
abbrev Eu:Func:=f193
def gY (k:Nat->Rat) (t:Rat):Nat->Nat
 |0=>0
 |n+1=>if gY k t n=n/\k n<=t then n+1 else gY k t n
def jB (k:Nat->Rat) (t:Rat) (p j:Nat):Rat:=if j<p then k j else if j=p then t else k (j-1)
abbrev zm:List Nat:=[3,9,10,11]
abbrev FG (n:Nat) (k:Nat->Rat) (s i:Nat):List AV:=[.bO n (.own 0 3 0 i),bD k n s,.int .i64 n,.int .i64 i]
abbrev AX:aX:=cG::gW
abbrev zJ:List Nat:=[0,3,5]
abbrev CX (n:Nat) (k:Nat->Rat) (s i:Nat):List AV:=[bD k n s,.ptr 0 0 3 0 [],.int .i64 i]
abbrev yZ:Code:=aF f136
def HK (w:Nat):Spec:=cA (kC (aa2 w) (kC kI (kC (kL w) kN))) (fun a=>bD (jB a.1.2 (a.2.2.1.2 0) a.2.1.toNat) (a.1.1+1) w) fun a=>[0<=a.2.1,a.2.1<=a.1.1,a.2.2.1.1=1,a.1.1<2^40]
def O6 (s w:Nat):Spec:=cA (kC (kL s) kN) (fun a=>.bO a.1.1 (bD a.1.2 a.1.1 w)) fun a=>[a.1.1<2^40]
def AO (s w:Nat):aX:=cG::(144,O6 s w)::(CM,HK w)::gW
theorem ahj:aW CM Eu:=aT func193
theorem UT:aW 136 f136:=aT func136
theorem ajK {n i s:Nat} {k:Nat->Rat} {t:Rat}:bU T [cG] [22,100031] 60 Eu (aF Eu) ⟨aQ 0 [.bO n (bD k n s),.int .i64 i,bD (fun _=>t) 1 s],[],0⟩=
  let c11:Nat:=Int.toNat (0:Int);let c9:Int:=(↑n:Int);let c7:Int:=(2:Int)^63;let c4:Int:=(↑i:Int);let c14:Nat:=c4.toNat-c11;let c13:Prop:=(0:Int)<=c4;let c12:Nat:=0+c4.toNat;let c3:Int:=c9+(↑(1:Nat):Int);let c2:Int:=c4+(↑(1:Nat):Int);let c10:Nat:=0+c2.toNat;let c1:Nat:=c14+(c3-c4).toNat;let c8:Int:=(↑c1:Int);let c6:Nat:=c12+Min.min 1 (c8.toNat-c4.toNat);let c5:Nat:=c10+Min.min (c9.toNat-c4.toNat) (c8.toNat-c2.toNat);some (aj [c13/\c4<=c9/\c9<=c9] (fork (c4==c9) (aj [n<n+1/\(n+1)*((56:Nat)+1)*2<=2^47] (leaf ret [ak 3 (n+1) fun i=>if i+0<n then rat (k (i+0)) s else rat t s])) (aj [-c7<=c3/\c3<c7] (aj [decide (c3>c9)=true] (aj [(0:Int)<=0/\c13/\c4<=c9,-c7<=c3/\c3<c7,-c7<=c3-c4/\c3-c4<c7,(0:Int)<c3-c4/\n-c11<c1/\c1*((56:Nat)+1)*2<=2^47] (aj [c13/\c4<=c8/\c8<=c8/\c8<=c8] (aj [-c7<=c2/\c2<c7,(0:Int)<=c2/\c2<=c8/\c8<=c8/\c8<=c8,c13/\c4<=c9/\c9<=c9] (leaf ret [ak 3 c1 fun i=>if c10<=i+0/\i+0<c5 then rat (k (i+0-c10+c4.toNat)) s else if c12<=i+0/\i+0<c6 then rat t s else if i+0<c14 then rat (k (i+0+c11)) s else rat 0 1])))))))):=ah
theorem aha {n s:Nat} {k:Nat->Rat}:aH T AX [] 60 zm (before nT [1,1,0,1]) ⟨aQ 0 [bD k n s],[],0⟩=
  let c1:Int:=(↑n:Int);some (aj [(0:Int)<=0/\(0:Int)<=c1/\c1<=2^47/\c1*(↑(56:Nat):Int)<=2^47] (leaf normal ([bO c1.toNat (own 12288 3 0 0),ak 3 n fun i=>rat (k i) s,int i64 c1,int i64 0],[(12288,au.mk true true 3 0 fun x=>rat 0 1)]))):=ah
theorem Vt {n i s w:Nat} {k x:Nat->Rat}:aH T AX [12] 60 zm [part nT [1,1,0,1,0,0]] ⟨aA zm (FG n k s i),[(0,Gm i x w)],1⟩=
  let c5:Int:=(↑n:Int);let c3:Nat:=i+1;let c2:AV:=ak 3 n fun i=>rat (k i) s;let c1:Int:=(↑i:Int);let c4:Int:=c1+1;some (fork (decide (c1<c5)) (aj [(0:Int)<=c1/\c1.toNat<n,(0:Nat)<1] (aj [(0:Nat)<1,s<2^42,(1:Nat)<2^42,(1:Nat)*3<=2^24,c3<=n,c3*((56:Nat)+1)*2<=2^47] (aj [-(2:Int)^63<=c4/\c4<2^63] (leaf normal ([bO n (own 40961 3 0 c3),c2,int i64 c5,int i64 c4],[(40961,au.mk true true 3 c3 fun i_1=>if i_1<i then rat (x i_1) w else nth [rat (k c1.toNat+0) (s+1+1)] (rat 0 1) (i_1-i+0))]))))) (leaf (exit 0) ([bO n (own 0 3 0 i),c2,int i64 c5,int i64 c1],[(0,au.mk true true 3 i fun i=>rat (x i) w)]))):=ah
theorem Xl {n i s w:Nat} {k x:Nat->Rat}:cy T AX [] 60 f144 [part nT [1,1,1]] ⟨aA zm (FG n k s i),[(0,Gm i x w)],1⟩=
  some (leaf ret [bO n (ak 3 i fun i=>rat (x (i+0)) w)]):=ah
theorem ad3 {n s r w:Nat} {k:Nat->Rat} {t:Rat}:aH T (AO s w) [] 60 zJ (before yZ [1,1,0]) ⟨aQ 0 [bD k n s,.rat t r],[],0⟩=
  some (leaf normal ([ak 3 n fun i=>rat (k i) s,ptr 0 0 (bp (rat t r)).size 0 [],int i64 0],[(0,au.mk false true (bp (rat t r)).size 1 fun x=>rat t r)])):=ah
theorem Zd {n i s r w:Nat} {k:Nat->Rat} {t:Rat}:aH T (AO s w) [10,18] 60 zJ [part yZ [1,1,0,0,0]] ⟨aA zJ (CX n k s i),[(0,tP t r)],1⟩=
  let c7:AV:=ak 3 n fun i=>rat (k i) s;let c5:AV:=ptr 0 0 3 0 [];let c4:Nat×au:=((0:Nat),bP fun x=>rat t r);let c3:Int:=(↑i:Int);let c8:Int:=c3+1;let c6:Bool:=decide (c3<(↑n:Int));let c2:ag (List AV×aC):=leaf (exit 0) ([c7,c5,int i64 c3],[c4]);let c1:ag (List AV×aC):=aj [-(2:Int)^63<=c8/\c8<2^63] (leaf normal ([c7,c5,int i64 c8],[c4]));some (fork c6 (aj [c6=true,(0:Int)<=c3/\c3.toNat<n,(0:Nat)<1,s<2^42,r<2^42] (fork (bif true then decide (ep (k c3.toNat) t<=0)else false) c1 c2)) (aj [c6=false] (fork false c1 c2))):=ah
theorem aiS {n i s r w:Nat} {k:Nat->Rat} {t:Rat}:cy T (AO s w) [] 60 f136 [part yZ [1,1,1]] ⟨aA zJ (CX n k s i),[(0,tP t r)],1⟩=
  let c3:AV:=rat 0 1;let c2:Prop:=n<2^40;let c1:AV:=rat (t+0) (r+1+1);some (aj [bn (fun i=>rat (k i) s) n s,c2,(0:Nat)<1,r<2^42,(1:Nat)<2^42,(1:Nat)*3<=2^24,n=n,bn (fun i=>rat (aE (rat (k i) s)) w) n w,bn (fun i=>nth [c1] c3 (i+0)) 1 w,(0:Int)<=(↑i:Int),(↑i:Int)<=(↑n:Int),(1:Nat)=1,c2] (leaf ret [ak 3 (n+1) fun i_1=>rat (jB (fun i=>aE (rat (aE (rat (k i) s)) w)) (aE (nth [c1] c3 ((0:Nat)+0))) (↑i:Int).toNat i_1) w])):=ah
theorem EY {Γ:aX} (h:bq P Γ):bq P (cG::Γ):=aI (fun _ _ _ _ h=>nomatch h) h
theorem Nd {a b:Rat}:ep a b<=0↔a<=b:=by
 have:=@uk a b
 constructor
 ·intro h
  exact Rat.not_lt.1 fun h'=>by have:=uk.2 h';omega
 ·intro h
  have:¬ep a b>0:=fun h'=>Rat.not_lt.2 h (uk.1 h')
  omega
theorem Ob {k:Nat->Rat} {t:Rat} {n:Nat} (h:gY k t n=n) (h2:k n<=t):gY k t (n+1)=n+1:=by unfold gY;rw[if_pos ⟨h,h2⟩]
theorem CV {k:Nat->Rat} {t:Rat} {i:Nat} (h:gY k t i=i) (h2:t<k i):∀{n:Nat},i<=n->gY k t n=i
 |0,hn=>by
    have:i=0:=aa
    subst this;rfl
 |n+1,hn=>by
  by_cases he:i=n+1
  ·subst he;exact h
  ·have ih:=CV h h2 (n:=n) aa
   unfold gY
   rw[if_neg,ih]
   rintro⟨g1,g2⟩
   have:i=n:=aa
   subst this
   exact absurd h2 (Rat.not_lt.2 g2)
theorem Sn {n i s:Nat} {k:Nat->Rat} {t:Rat} (hi:i<=n) (hn:n<2^40) (K:Nat):aS P CM K [.bO n (bD k n s),.int .i64 i,bD (fun _=>t) 1 s] [] (aJ (bD (jB k t i) (n+1) s) []):=by
 refine bX (r:=aJ (bD (jB k t i) (n+1) s) []) hT (EY bB) hm ahj rfl aV rfl 60 ajK (fun _=>?_) K []
 simp only[ag.all,az,bk,bt]
 have w1:((1:Nat):Int)=1:=rfl
 simp only[w1,bf,Int.toNat_zero,Nat.sub_zero,Nat.zero_add,Nat.add_zero,beq_iff_eq,beq_eq_false_iff_ne,ne_eq,Int.ofNat_inj]
 refine⟨aa,fun h=>⟨aa,fB fun j hj=>dX ?_⟩,fun h=>?_⟩
 ·subst h
  unfold jB
  by_cases h1:j<i
  ·rw[if_pos h1,if_pos h1]
  ·rw[if_neg h1,if_neg h1,if_pos aa]
 ·have eN:i+((n:Int)+1-i).toNat=n+1:=aa
  have e2:((i:Int)+1).toNat=i+1:=aa
  simp only[eN,e2]
  refine⟨aa,aa,aa,aa,aa,fB fun j hj=>dX ?_⟩
  unfold jB
  by_cases h1:j<i
  ·rw[if_neg aa,if_neg aa,if_pos h1,if_pos h1]
  ·by_cases h2:j=i
   ·rw[if_neg aa,if_pos aa,if_neg h1,if_pos h2]
   ·rw[if_pos aa,if_neg h1,if_neg h2,show j-(i+1)+i=j-1 by omega]
theorem ad2:bq P AX:=EY iN
theorem W5 {n s w:Nat} {k:Nat->Rat} (h:s+2<=w) (hw:w<2^40) (hn:n<2^40) (K:Nat):aS P 144 K [bD k n s] [] (aJ (.bO n (bD k n w)) []):=by
 refine iB (r:=aJ (.bO n (bD k n w)) []) hT ad2 hm C5 rfl aV rfl [1,1,0,1] (i:=0) (y:=part nT [1,1,0,1,0,0]) (z:=part nT [1,1,1]) ah ah ah (f1:=[]) (f2:=[12]) (f3:=[]) 60 zm 1
  (fun i:Nat=>FG n k s i) (fun i=>[(0,Gm i k w)]) (fun i=>i<=n) (fun i=>i=n) (fun i=>n-i) (fun _=>⟨⟨_,aha,?_⟩,fun i hi=>⟨_,Vt,?_⟩,fun i hi=>⟨_,Xl,?_⟩⟩) K []
 ·simp only[ag.all,az]
  exact⟨aa,0,Nat.zero_le _,[(0,12288)],rfl,by rw[bf];rfl,rfl,b7 rfl rfl rfl (fun j hj=>absurd hj (Nat.not_lt_zero j)) trivial⟩
 ·simp only[ag.all,az,bk,bt,bf,Nat.add_zero]
  exact⟨fun h1=>⟨aa,aa,aa,i+1,aa,by dsimp only;omega,[(0,40961)],rfl,rfl,rfl,b7 rfl rfl rfl (fun j hj=>v9 (fun _ _=>rfl) (Rat.add_zero _) bz aa hj) trivial⟩,
   fun h1=>⟨rfl,i,aa,[(0,0)],rfl,rfl,rfl,dQ trivial⟩⟩
 ·subst hi
  simp only[ag.all,az]
  exact .refl _
theorem afA {s w:Nat} (h:s+2<=w) (hw:w<2^40):aU P (O6 s w) 144:=ct fun⟨⟨n,k⟩,_⟩ K hn=>W5 h hw hn K
theorem acG {w:Nat}:aU P (HK w) CM:=ct fun⟨⟨n,k⟩,i,⟨m,g⟩,_⟩ K hn=>by
 obtain⟨h1,h2,h3,h4⟩:=hn
 simp only at h1 h2 h3 h4
 subst h3
 have:=iD (Sn (k:=k) (t:=g 0) (s:=w) (i:=i.toNat) (n:=n) aa h4 K) (args:=[.bO n (bD k n w),.int .i64 i,bD g 1 w]) rfl ⟨.refl _,bS aa,fB fun j hj=>dX (by rw[Nat.lt_one_iff.1 hj]),trivial⟩ []
 exact this
theorem af5 {s w:Nat} (h:s+2<=w) (hw:w<2^40):bq P (AO s w):=EY (aI (afA h hw) (aI acG iN))
theorem aag {n s r w:Nat} {k:Nat->Rat} {t:Rat} (h:s+2<=w) (h2:r+2<=w) (hw:w<2^40) (hn:n<2^40) (K:Nat):aS P 136 K [bD k n s,.rat t r] [] (aJ (bD (jB k t (gY k t n)) (n+1) w) []):=by
 refine iB (r:=aJ (bD (jB k t (gY k t n)) (n+1) w) []) hT (af5 h hw) hm UT rfl aV rfl [1,1,0] (i:=0) (y:=part yZ [1,1,0,0,0]) (z:=part yZ [1,1,1]) ah ah ah (f1:=[]) (f2:=[10,18]) (f3:=[]) 60 zJ 1
  (fun i:Nat=>CX n k s i) (fun _=>[(0,tP t r)]) (fun i=>i<=n/\gY k t i=i) (fun i=>i<=n/\i=gY k t n) (fun i=>n-i) (fun _=>⟨⟨_,ad3,?_⟩,fun i hi=>⟨_,Zd,?_⟩,fun i hi=>⟨_,aiS,?_⟩⟩) K []
 ·simp only[ag.all,az]
  exact⟨0,⟨Nat.zero_le _,rfl⟩,[(0,0)],rfl,rfl,rfl,aM trivial⟩
 ·simp only[ag.all,az,bk,bt,bf]
  simp only[cond_true,bk,bt,Nd]
  exact⟨fun h1=>⟨⟨h1,aa,aa,aa,aa⟩,fun h2=>⟨aa,i+1,⟨aa,Ob hi.2 h2⟩,by dsimp only;omega,[(0,0)],rfl,rfl,rfl,aM trivial⟩,
    fun h2=>⟨rfl,i,⟨aa,(CV hi.2 (Rat.not_le.1 h2) aa).symm⟩,[(0,0)],rfl,rfl,rfl,aM trivial⟩⟩,
   fun h1=>⟨h1,fun h=>absurd h (by decide),fun _=>⟨rfl,i,⟨hi.1,by rw[show n=i by omega];exact hi.2.symm⟩,[(0,0)],rfl,rfl,rfl,aM trivial⟩⟩⟩
 ·obtain⟨hi,rfl⟩:=hi
  simp only[ag.all,az]
  refine⟨⟨bI bz,aa,aa,aa,aa,aa,trivial,bI bz,fun j hj=>?_,aa,aa,trivial,aa⟩,fB fun j hj=>dX ?_⟩
  ·rw[Nat.lt_one_iff.1 hj];exact ey aa
  ·show AV.rat (jB k (t+0) ((gY k t n:Nat):Int).toNat j) w=_
   rw[Rat.add_zero,bf]
end Go.Am.B
