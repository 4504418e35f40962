/- surface: copied, each, Swap, IsoV, ends, Domain. -/
import Derived.Test.YtppeigelbecpbaaGreatY49
import Derived.Test.YtppeigelbecpbaaGreatM17
import Derived.Test.YtppeigelbecpbaaGreatY45
set_option linter.unusedVariables false
namespace Go.Am.B
open Go Go.Am.N AV aa aj IntKind
theorem afj:aO P iq v7 (aq v7):=aP abO (by kernel_rfl) (by kernel_rfl) (by kernel_rfl)
theorem J6:aO P vw tf (aq tf):=aP SC (by kernel_rfl) (by kernel_rfl) (by kernel_rfl)
theorem Mv:aO P zD j5 (aq j5):=aP abX (by kernel_rfl) (by kernel_rfl) (by kernel_rfl)
theorem Z4:aO P AF wS (aq wS):=aP Rg (by kernel_rfl) (by kernel_rfl) (by kernel_rfl)
noncomputable def MJ:aS:=sG::(Hl++rK)
noncomputable def Ir:Spec:=cC (kC (IG 200) kN) (fun a=>bN a.1 300) fun _=>[]
noncomputable def p5:aS:=nG::(iq,Ir)::(qb,Ex 64 100)::[]
abbrev oO:List Nat:=[4,5,1,23,24,25]
abbrev zZ (s:Sf) (i:Nat):List AV:=[.ptr 0 0 5 0 [],.ptr 1 0 5 0 [],.func iq [],gG s.f s.n s.m 200,.int .i64 s.n,.int .i64 i]
abbrev xq:List Nat:=[4,5,1,23,24,25,8,29,30,31]
abbrev DP (s:Sf) (i j:Nat):List AV:=[.ptr 0 0 5 0 [],.ptr 1 0 5 0 [],.func iq [],gG s.f s.n s.m 200,.int .i64 s.n,.int .i64 i,.own 3 12 0 j,bg (s.f i) s.m 200,.int .i64 s.m,.int .i64 j]
abbrev uN (s:Sf) (i:Nat):aA:=[(2,⟨true,true,1,i,fun i=>bg (s.f i) s.m 300⟩),(1,⟨false,true,5,1,fun _=>.agg [.int .i64 s.u,.int .i64 s.v,bM s.ku s.a 100,bM s.kv s.b 100,.own 2 1 0 i]⟩),(0,⟨false,true,5,1,fun _=>.agg [.int .i64 0,.int .i64 0,.nil,.nil,.nil]⟩)]
abbrev Cl (s:Sf) (i j:Nat):aA:=(3,⟨true,true,12,j,fun j=>bN (s.f i j) 300⟩)::uN s i
noncomputable abbrev tV:Code:=aq tf
noncomputable abbrev w8:Code:=part tV [1,1,0,1,0,0]
noncomputable abbrev tH:Code:=part w8 [1,1,0,0]
noncomputable def KF:Spec:=cC (kC (gD 64 200) (kC (kF iq) kN)) (fun a=>cq a.1 100 300) fun a=>[a.1.a<2^28,a.1.b<2^28,a.1.n<2^28,a.1.m<2^28]
noncomputable def EV:aS:=nG::(sO,DM)::(vw,KF)::(p8,CG)::[]
noncomputable def KR:Spec:=cC (kC (gD 64 200) kN) (fun a=>cq (dr a.1) sJ sJ) fun a=>[1≤a.1.n,a.1.a<2^28,a.1.b<2^28,a.1.n<2^28,a.1.m<2^28]
noncomputable def Nx:aS:=nG::(zD,KR)::(oZ,zK)::[]
theorem XT {p:Pl}:bu T MJ [] 60 v7 (aq v7) ⟨aM 0 [bN p 200],[],0⟩=
  let c1:Prop:=0<1;some (af [c1,c1] (af [c1] (leaf ret [agg [agg [rat (p.n.x+0) 202,rat (p.n.y+0) 202,rat (p.n.z+0) 202],rat (p.d+0) 202]]))):=by kernel_rfl
theorem VS {s:Sf}:aG T p5 [] 60 oO (before tV [1,1,0,1]) ⟨aM 0 [cq s 64 200,.func iq []],[],0⟩=
  let c5:AV:=int i64 (0:Int);let c4:Prop:=64+10≤100;let c3:Nat:=2^40;let c2:Prop:=0<1;let c1:AV:=agg [c5,c5,nil,nil,nil];some (af [c2,c2,c2,bB (fun i↦rat (s.ku i) 64) s.a 64,c4,(100:Nat)<c3,s.a<c3,c2,bB (fun i↦rat (s.kv i) 64) s.b 64,c4,(100:Nat)<c3,s.b<c3,c2] (af [c2] (leaf normal ([ptr 4096 0 5 0 [],ptr 53248 0 5 0 [],func iq [],ag 1 s.n fun i↦ag 12 s.m fun i_1↦agg [agg [rat (s.f i i_1).n.x 200,rat (s.f i i_1).n.y 200,rat (s.f i i_1).n.z 200],rat (s.f i i_1).d 200],int i64 (↑s.n:Int),c5],[((53248:Nat),ah.mk false true 5 1 fun j↦if(j==0)=true then bh (agg ((((c1.kids.set 0 (bh (int i64 s.u))).set 1 (bh (int i64 s.v))).set 2 (bh (bM (fun i↦aI (rat (s.ku i) 64)) s.a 100))).set 3 (bh (bM (fun i↦aI (rat (s.kv i) 64)) s.b 100))))else c1),((4096:Nat),ah.mk false true 5 1 fun x↦c1)])))):=by kernel_rfl
theorem adP {s:Sf} {i:Nat}:aG T p5 [26] 60 oO (before w8 [1,1,0]) ⟨aB oO (zZ s i),uN s i,3⟩=
  let c1:List AV×aA:=([ptr 0 0 5 0 [],ptr 1 0 5 0 [],func iq [],ag 1 s.n fun i↦ag 12 s.m fun i_1↦agg [agg [rat (s.f i i_1).n.x 200,rat (s.f i i_1).n.y 200,rat (s.f i i_1).n.z 200],rat (s.f i i_1).d 200],int i64 (↑s.n:Int),int i64 (↑i:Int)],[((2:Nat),ah.mk true true 1 i fun i↦ag 12 s.m fun i_1↦agg [agg [rat (s.f i i_1).n.x 300,rat (s.f i i_1).n.y 300,rat (s.f i i_1).n.z 300],rat (s.f i i_1).d 300]),((1:Nat),ah.mk false true 5 1 fun x↦agg [int i64 s.u,int i64 s.v,ag 3 s.a fun i↦rat (s.ku i) 100,ag 3 s.b fun i↦rat (s.kv i) 100,own 2 1 0 i]),((0:Nat),ah.mk false true 5 1 fun x↦agg [int i64 (0:Int),int i64 (0:Int),nil,nil,nil])]);some (fork (decide ((↑i:Int)<(↑s.n:Int))) (leaf normal c1) (leaf (exit 0) c1)):=by kernel_rfl
theorem T2 {s:Sf} {i:Nat}:aG T p5 [] 60 xq (before tH [1,1,0,1]) ⟨aB oO (zZ s i),uN s i,3⟩=
  let c2:AV:=int i64 (0:Int);let c1:Nat:=(↑i:Int).toNat;some (af [(0:Int)≤(↑i:Int)∧c1<s.n] (leaf normal ([ptr 0 0 5 0 [],ptr 1 0 5 0 [],func iq [],ag 1 s.n fun i↦ag 12 s.m fun i_1↦agg [agg [rat (s.f i i_1).n.x 200,rat (s.f i i_1).n.y 200,rat (s.f i i_1).n.z 200],rat (s.f i i_1).d 200],int i64 (↑s.n:Int),int i64 (↑i:Int),nil,ag 12 s.m fun i↦agg [agg [rat (s.f c1 i).n.x 200,rat (s.f c1 i).n.y 200,rat (s.f c1 i).n.z 200],rat (s.f c1 i).d 200],int i64 (↑s.m:Int),c2],[((2:Nat),ah.mk true true 1 i fun i↦ag 12 s.m fun i_1↦agg [agg [rat (s.f i i_1).n.x 300,rat (s.f i i_1).n.y 300,rat (s.f i i_1).n.z 300],rat (s.f i i_1).d 300]),((1:Nat),ah.mk false true 5 1 fun x↦agg [int i64 s.u,int i64 s.v,ag 3 s.a fun i↦rat (s.ku i) 100,ag 3 s.b fun i↦rat (s.kv i) 100,own 2 1 0 i]),((0:Nat),ah.mk false true 5 1 fun x↦agg [c2,c2,nil,nil,nil])]))):=by kernel_rfl
theorem PX {s:Sf} {i j:Nat}:aG T p5 [32] 60 xq [part tH [1,1,0,1,0,0]] ⟨aB xq (DP s i j),Cl s i j,4⟩=
  let c12:Prop:=200≤200;let c10:Int:=(↑s.m:Int);let c8:AV:=ptr 1 0 5 0 [];let c7:AV:=ptr 0 0 5 0 [];let c6:AV:=rat 0 1;let c5:Int:=(↑j:Int);let c4:AV:=ag 12 s.m fun i_1↦agg [agg [rat (s.f i i_1).n.x 200,rat (s.f i i_1).n.y 200,rat (s.f i i_1).n.z 200],rat (s.f i i_1).d 200];let c3:AV:=ag 1 s.n fun i↦ag 12 s.m fun i_1↦agg [agg [rat (s.f i i_1).n.x 200,rat (s.f i i_1).n.y 200,rat (s.f i i_1).n.z 200],rat (s.f i i_1).d 200];let c2:Nat×ah:=((2:Nat),ah.mk true true 1 i fun i↦ag 12 s.m fun i_1↦agg [agg [rat (s.f i i_1).n.x 300,rat (s.f i i_1).n.y 300,rat (s.f i i_1).n.z 300],rat (s.f i i_1).d 300]);let c1:List (Nat×ah):=[((1:Nat),ah.mk false true 5 1 fun x↦agg [int i64 s.u,int i64 s.v,ag 3 s.a fun i↦rat (s.ku i) 100,ag 3 s.b fun i↦rat (s.kv i) 100,own 2 1 0 i]),((0:Nat),ah.mk false true 5 1 fun x↦agg [int i64 (0:Int),int i64 (0:Int),nil,nil,nil])];let c11:Int:=c5+(1:Int);let c9:Pl:=s.f i c5.toNat;some (fork (decide (c5<c10)) (af [(0:Int)≤c5∧c5.toNat<s.m,(0:Nat)<1] (af [(0:Nat)<1,c12,c12,Max.max 200 200≤200,(1:Nat)*12≤2^24,(j+1)*((224:Nat)+1)*2≤2^47] (af [-(2:Int)^63≤c11∧c11<(2:Int)^63] (leaf normal ([c7,c8,func iq [],c3,int i64 (↑s.n:Int),int i64 (↑i:Int),own 40964 12 0 (j+1),c4,int i64 c10,int i64 c11],c2::((40964:Nat),ah.mk true true 12 (j+1) fun i_1↦if i_1<j then bN (s.f i i_1) 300 else nth [agg [agg [rat c9.n.x 300,rat c9.n.y 300,rat c9.n.z 300],rat c9.d 300]] (agg [agg [c6,c6,c6],c6]) (i_1-j+0))::c1))))) (leaf (exit 2) ([c7,c8,func iq [],c3,int i64 (↑s.n:Int),int i64 (↑i:Int),own 3 12 0 j,c4,int i64 c10,int i64 c5],c2::((3:Nat),ah.mk true true 12 j fun j↦agg [agg [rat (s.f i j).n.x 300,rat (s.f i j).n.y 300,rat (s.f i j).n.z 300],rat (s.f i j).d 300])::c1))):=by kernel_rfl
theorem afS {s:Sf} {i j:Nat}:aG T p5 [] 60 oO (behind tH [1,1,0,1]++[part w8 [1,1,1]]) ⟨aB xq (DP s i j),Cl s i j,4⟩=
  let c2:Int:=(↑i:Int)+(1:Int);let c1:AV:=agg [int i64 s.u,int i64 s.v,bM s.ku s.a 100,bM s.kv s.b 100,own 2 1 0 i];some (af [(0:Nat)<1,(1:Nat)*1≤2^24,(i+1)*((24:Nat)+1)*2≤2^47,(0:Nat)<1] (af [-(2:Int)^63≤c2∧c2<(2:Int)^63] (leaf normal ([ptr 0 0 5 0 [],ptr 1 0 5 0 [],func iq [],ag 1 s.n fun i↦ag 12 s.m fun i_1↦agg [agg [rat (s.f i i_1).n.x 200,rat (s.f i i_1).n.y 200,rat (s.f i i_1).n.z 200],rat (s.f i i_1).d 200],int i64 (↑s.n:Int),int i64 c2],[((16388:Nat),ah.mk true true 1 (i+1) fun i_1↦if i_1<i then bg (s.f i_1) s.m 300 else nth [ag 12 j fun i_2↦bN (s.f i (i_2+0)) 300] nil (i_1-i+0)),((1:Nat),ah.mk false true 5 1 fun j↦if(j==0)=true then agg (c1.kids.set 4 (bh (own (nat_lit 16387+1) 1 0 (i+1))))else c1),((0:Nat),ah.mk false true 5 1 fun x↦agg [int i64 (0:Int),int i64 (0:Int),nil,nil,nil])])))):=by kernel_rfl
theorem abp {s:Sf} {i:Nat}:bZ T p5 [] 60 tf [part tV [1,1,1]] ⟨aB oO (zZ s i),uN s i,3⟩=
  let c1:Prop:=0<1;some (af [c1,c1] (af [c1] (leaf ret [agg [int i64 s.u,int i64 s.v,ag 3 s.a fun i↦rat (s.ku i) 100,ag 3 s.b fun i↦rat (s.kv i) 100,ag 1 i fun i↦ag 12 s.m fun i_1↦agg [agg [rat (s.f (i+0) i_1).n.x 300,rat (s.f (i+0) i_1).n.y 300,rat (s.f (i+0) i_1).n.z 300],rat (s.f (i+0) i_1).d 300]]]))):=by kernel_rfl
theorem OW {s:Sf}:aG T EV [] 60 [1,2] (before (aq j5) [1]) ⟨aM 0 [cq s 64 200],[],0⟩=
  let c1:Nat:=(bh (cq s 64 200)).size;some (leaf normal ([ptr 0 0 c1 0 [],ptr 4096 0 5 0 []],[((4096:Nat),ah.mk false true 5 1 fun x↦agg [int i64 (0:Int),int i64 (0:Int),nil,nil,nil]),((0:Nat),ah.mk false true c1 1 fun x↦agg [int i64 s.u,int i64 s.v,ag 3 s.a fun i↦rat (s.ku i) 64,ag 3 s.b fun i↦rat (s.kv i) 64,ag 1 s.n fun i↦ag 12 s.m fun i_1↦agg [agg [rat (s.f i i_1).n.x 200,rat (s.f i i_1).n.y 200,rat (s.f i i_1).n.z 200],rat (s.f i i_1).d 200]])])):=by kernel_rfl
theorem Xk {s:Sf}:bZ T EV [100008] 60 j5 [part (aq j5) [1]] ⟨aB [1,2] [.bD (cq s 64 200),.ptr 1 0 5 0 []],[(1,⟨false,true,5,1,fun _=>.agg [.int .i64 0,.int .i64 0,.nil,.nil,.nil]⟩),(0,⟨false,false,5,1,fun _=>cq s 64 200⟩)],2⟩=
  let c5:Prop:=eH (fun i↦bg (s.f i) s.m 200) s.n sJ;let c3:Prop:=0<1;let c2:Nat:=2^28;let c1:Nat:=ec (bg (s.f 0) s.m 200);let c4:Nat:=ec (bg (eL (fun i↦bg (s.f i) s.m 200) 0) c1 300);some (af [decide ((↑s.n:Int)>(0:Int))=true,c5,bB (fun i↦rat (s.ku i) 64) s.a sJ,bB (fun i↦rat (s.kv i) 64) s.b sJ,c5,s.n<2^40,qq c1 l9 (Sf.mk s.u s.v s.a (fun i↦aI (rat (s.ku i) 64)) s.b (fun i↦aI (rat (s.kv i) 64)) s.n c1 (eL fun i↦bg (s.f i) s.m 200))] (af [bB (fun i↦rat (s.ku i) 64) s.a 64,bB (fun i↦rat (s.kv i) 64) s.b 64,eH (fun i↦bg (s.f i) s.m 200) s.n 200,s.a<c2,s.b<c2,s.n<c2,c1<c2,c3] (af [c3,c3,c3,eH (fun i↦bg (eL (fun i↦bg (s.f i) s.m 200) i) c1 300) s.n sJ,(1:Nat)≤s.n,s.n<c2,c4<c2,c3] (af [c3] (leaf ret [agg [int i64 s.v,int i64 s.u,ag 3 s.b fun i↦rat (aI (rat (s.kv i) 64)) 100,ag 3 s.a fun i↦rat (aI (rat (s.ku i) 64)) 100,ag 1 c4 fun i↦ag 12 s.n fun i_1↦agg [agg [rat (aI (rat (aI (rat (s.f i_1 i).n.x 200)) 300)) 4000,rat (aI (rat (aI (rat (s.f i_1 i).n.y 200)) 300)) 4000,rat (aI (rat (aI (rat (s.f i_1 i).n.z 200)) 300)) 4000],rat (aI (rat (aI (rat (s.f i_1 i).d 200)) 300)) 4000]]]))))):=by kernel_rfl
theorem US {s:Sf} {v:Rat}:bu T Nx [] 60 wS (aq wS) ⟨aM 0 [cq s 64 200,.rat v sK],[],0⟩=
  let c4:Prop:=0<1;let c3:Nat:=2^28;let c2:Nat:=ec (bg (s.f 0) s.m 200);let c1:Sf:=Sf.mk s.v s.u s.b (fun i↦aI (rat (aI (rat (s.kv i) 64)) sJ)) s.a (fun i↦aI (rat (aI (rat (s.ku i) 64)) sJ)) c2 (ec (bg (fun i↦eL (fun i↦bg (s.f i) s.m 200) i 0) s.n sJ)) (eL fun i↦bg (fun i_1↦eL (fun i↦bg (s.f i) s.m 200) i_1 i) s.n sJ);let c5:Cu:=eI c1 v;some (af [c4,bB (fun i↦rat (s.ku i) 64) s.a 64,bB (fun i↦rat (s.kv i) 64) s.b 64,eH (fun i↦bg (s.f i) s.m 200) s.n 200,(1:Nat)≤s.n,s.a<c3,s.b<c3,s.n<c3,c2<c3,c4,bB (fun i↦rat (aI (rat (s.kv i) 64)) sJ) s.b sJ,bB (fun i↦rat (aI (rat (s.ku i) 64)) sJ) s.a sJ,eH (fun i↦bg (fun i_1↦eL (fun i↦bg (s.f i) s.m 200) i_1 i) s.n sJ) c2 sJ,sK≤sK,dG c1,c4] (af [c4] (leaf ret [agg [int i64 c5.p,ag 3 c5.n fun i↦rat (c5.k i) 4096,ag 12 c5.m fun i↦agg [agg [rat (c5.f i).n.x 4294967298,rat (c5.f i).n.y 4294967298,rat (c5.f i).n.z 4294967298],rat (c5.f i).d 4294967298]],int i64 (bt s.b (fun i↦aI (rat (aI (rat (s.kv i) 64)) sJ)) v)]))):=by kernel_rfl
theorem Tm:aW P MJ:=ji (BG Yk um)
theorem Zu:∀K args pre r,Ir K args pre=some r→az P iq K args pre r:=cz fun⟨p,_⟩ K _=>by
 refine bC (r:=aF (bN p 300) []) hT Tm hm afj rfl (of_decide_eq_true (by kernel_rfl)) rfl 60 (XT (p:=p)) (fun _=>?_) K []
 simp only[aa.all,ax]
 exact⟨⟨by omega,by omega⟩,by omega,cF ⟨cF ⟨bL (Rat.add_zero _) (by decide),bL (Rat.add_zero _) (by decide),bL (Rat.add_zero _) (by decide),trivial⟩,bL (Rat.add_zero _) (by decide),trivial⟩⟩
theorem IM:aW P p5:=cw (aD Zu (aD (LD _ _) aX))
theorem W8 {s:Sf} (h1:s.a<2^28) (h2:s.b<2^28) (h3:s.n<2^28) (h4:s.m<2^28) (K:Nat):az P vw K [cq s 64 200,.func iq []] [] (aF (cq s 100 300) []):=by
 refine eB (r:=aF (cq s 100 300) []) hT J6 rfl (of_decide_eq_true (by kernel_rfl)) rfl (fun _ cx h00=>?_) K []
 have hk:=iT h00
 have hv:∀{rl:List (Nat×Nat)} {a l:Nat} {u:AV},u.isTuple=false→eE (aT rl) u (.own 2 1 0 l)→gh rl (.agg [.int .i64 s.u,.int .i64 s.v,bM s.ku s.a 100,bM s.kv s.b 100,u]) (.agg [.int .i64 s.u,.int .i64 s.v,bM s.ku s.a 100,bM s.kv s.b 100,.own 2 1 0 l]):=
  fun h5 h6=>lT ⟨⟨rfl,aH rfl⟩,⟨rfl,aH rfl⟩,⟨rfl,aH rfl⟩,⟨rfl,aH rfl⟩,⟨h5,h6⟩,trivial⟩
 refine ak.xE hT IM hm (x:=tV) [1,1,0,1] (i:=0) (y:=w8) (z:=part tV [1,1,1]) (by kernel_rfl) (by kernel_rfl) (by kernel_rfl) J6.dst [1,1,0] (j:=1) (x1:=tH) (zb:=part w8 [1,1,1]) (by kernel_rfl) (by kernel_rfl) (by kernel_rfl) [1,1,0,1] (i2:=2) (y2:=part tH [1,1,0,1,0,0]) (by kernel_rfl) (by kernel_rfl) rfl
  hk (f1:=[]) (f2:=[26]) (f3:=[]) (f4:=[32]) (f5:=[]) 60 oO xq 3 4 (fun i:Nat=>zZ s i) (fun i=>uN s i) (fun i=>i≤s.n) (fun i=>i=s.n) (fun i=>s.n-i) (fun i=>i<s.n) (fun _=>False) (fun _=>False)
  (fun i (j:Nat)=>DP s i j) (fun i j=>Cl s i j) (fun _ j=>j≤s.m) (fun _ j=>j=s.m) (fun _ j=>s.m-j) ⟨_,VS,?_⟩ (fun i hi=>⟨_,adP,?_⟩) (fun i hi hg=>⟨_,T2,?_⟩) (fun i hi hg j hj=>⟨_,PX,?_⟩) (fun i hi hg j hj=>⟨_,afS,?_⟩) (fun i hi=>?_) (fun _ _ h=>h.elim) (fun _ _ h=>h.elim)
 all_goals try simp only[aa.all,ax,decide_eq_true_eq,decide_eq_false_iff_not,Int.toNat_natCast,Nat.add_zero]
 ·exact⟨⟨by omega,by omega,by omega,cm (Nat.le_refl _),by omega,by omega,by omega,by omega,cm (Nat.le_refl _),by omega,by omega,by omega,by omega⟩,by omega,0,Nat.zero_le _,[(0,4096),(1,53248)],rfl,rfl,rfl,jb rfl (by omega) (by omega) (aN rfl rfl (hv (a:=0) rfl (nS (by omega))) (aN rfl rfl (aK rfl rfl) trivial))⟩
 ·exact⟨fun h=>⟨by omega,[(0,0),(1,1),(2,2)],rfl,rfl,rfl,bq rfl rfl rfl (fun _ _=>aK rfl rfl) (aN rfl rfl (hv (a:=0) rfl (bR rfl rfl rfl)) (aN rfl rfl (aK rfl rfl) trivial))⟩,fun h=>⟨rfl,i,by omega,[(0,0),(1,1),(2,2)],rfl,rfl,rfl,bq rfl rfl rfl (fun _ _=>aK rfl rfl) (aN rfl rfl (hv (a:=0) rfl (bR rfl rfl rfl)) (aN rfl rfl (aK rfl rfl) trivial))⟩⟩
 ·exact⟨by omega,0,Nat.zero_le _,[(0,0),(1,1),(2,2)],rfl,rfl,rfl,jb rfl (by omega) (by omega) (bq rfl rfl rfl (fun _ _=>aK rfl rfl) (aN rfl rfl (hv (a:=0) rfl (bR rfl rfl rfl)) (aN rfl rfl (aK rfl rfl) trivial)))⟩
 ·refine⟨fun h=>⟨⟨by omega,by omega⟩,⟨by omega,by omega,by omega,by decide,by omega,by omega⟩,by omega,j+1,by omega,by dsimp only;omega,[(0,0),(1,1),(2,2),(3,40964)],rfl,rfl,rfl,bq rfl rfl rfl (fun k hk=>D8 (y:=fun j=>s.f i j) (fun _ _=>rfl) (.refl _) rfl (Nat.le_refl _) (Nat.le_refl _) hk) (bq rfl rfl rfl (fun _ _=>aK rfl rfl) (aN rfl rfl (hv (a:=0) rfl (bR rfl rfl rfl)) (aN rfl rfl (aK rfl rfl) trivial)))⟩,
   fun h=>⟨rfl,j,by omega,[(0,0),(1,1),(2,2),(3,3)],rfl,rfl,rfl,bq rfl rfl rfl (fun _ _=>aK rfl rfl) (bq rfl rfl rfl (fun _ _=>aK rfl rfl) (aN rfl rfl (hv (a:=0) rfl (bR rfl rfl rfl)) (aN rfl rfl (aK rfl rfl) trivial)))⟩⟩
 ·subst hj
  exact⟨⟨by omega,by omega,by omega,by omega⟩,by omega,i+1,by omega,by dsimp only;omega,[(0,0),(1,1),(2,16388)],rfl,rfl,rfl,bq rfl rfl rfl (fun k hk=>rowAt (g:=fun i=>bg (s.f i) s.m 300) hk rfl rfl) (aN rfl rfl (hv (a:=0) rfl (bR rfl rfl rfl)) (aN rfl rfl (aK rfl rfl) trivial))⟩
 ·subst hi
  refine ak.gz ((aC.fin hT IM hm 60 abp (by kernel_rfl) ?_).mono fun _ _ h=>.inl h)
  simp only[aa.all,ax]
  exact⟨⟨by omega,by omega⟩,by omega,.refl _⟩
theorem ab7:∀K args pre r,KF K args pre=some r→az P vw K args pre r:=cz fun⟨s,_,_⟩ K hn=>W8 hn.1 hn.2.1 hn.2.2.1 hn.2.2.2 K
theorem LP:aW P EV:=cw (aD FJ (aD ab7 (aD LW aX)))
theorem aev:∀K args pre r,KR K args pre=some r→az P zD K args pre r:=cz fun⟨s,_⟩ K hn=>by
 obtain⟨n1,n2,n3,n4,n5⟩:1≤s.n∧s.a<2^28∧s.b<2^28∧s.n<2^28∧s.m<2^28:=hn
 refine eB (r:=aF (cq (dr s) sJ sJ) []) hT Mv rfl (of_decide_eq_true (by kernel_rfl)) rfl (fun _ cx h00=>?_) K []
 have hk:=iT h00
 refine ak.hole [1] (by kernel_rfl) (aC.bf hT LP hm 60 [1,2] OW (kE Mv.dst) ?_)
 intro s' hs'
 show ak _ _ _ (part (aq j5) [1]) s' _
 rw[show behind (aq j5) [1]=[]from by kernel_rfl]
 refine ak.j0 (s2:=⟨aB [1,2] [.ptr 0 0 5 0 [],.ptr 1 0 5 0 []],[(1,⟨false,true,5,1,fun _=>.agg [.int .i64 0,.int .i64 0,.nil,.nil,.nil]⟩),(0,⟨false,true,5,1,fun _=>cq s 64 200⟩)],2⟩) (eP.le ⟨[(0,0),(1,4096)],rfl,rfl,rfl,aN rfl rfl (aK rfl rfl) (aN rfl rfl (aK rfl rfl) trivial)⟩ hs' hk) ((?_:ak P cx j5.ntmps (part (aq j5) [1]) _ (dm cx (Fin T j5 (cq (dr s) sJ sJ)))).mono fun e s' h=>by cases e<;>exact h)
 refine ak.Li (t:=1) (k:=0) rfl rfl rfl rfl rfl ?_
 refine ak.gz ((aC.fin hT LP hm 60 Xk (by kernel_rfl) ?_).mono fun _ _ h=>.inl h)
 have lv:ec (bg (s.f 0) s.m 200)=s.m:=rfl
 have lv2:ec (bg (eL (fun i=>bg (s.f i) s.m 200) 0) s.m 300)=s.m:=rfl
 simp only[aa.all,ax,lv,lv2]
 (repeat' with_reducible refine And.intro ?_ ?_)
 all_goals first|omega|exact decide_eq_true (by omega)|exact cm (by decide)|exact gj (by decide)|exact .inr ⟨rfl,rfl,n1⟩|skip
 exact cF ⟨.refl _,.refl _,xD (cm (by decide)),xD (cm (by decide)),.refl _,trivial⟩
theorem NR:aW P Nx:=cw (aD aev (aD Ei aX))
noncomputable def J5:Spec:=cC (kC (gD 64 200) (kC (fy sK) kN)) (fun a=>.tuple [e9 (eI (dr a.1) a.2.1) sK sE,.int .i64 (bt a.1.b a.1.kv a.2.1)]) fun a=>[dG a.1]
theorem dG.swap {s:Sf} (h:dG s):dG (dr s):=⟨h.kv,h.ku,h.v0,h.v6,h.u0,h.u6,h.b,h.a,h.m,h.n,fun i j hi hj=>h.w j i hj hi⟩
theorem ad3:∀K args pre r,J5 K args pre=some r→az P AF K args pre r:=cz fun⟨s,v,_⟩ K hn=>by
 have hs:dG s:=hn
 obtain⟨ku,kv,u0,u6,v0,v6,ha,hb,hn,hm2,hw⟩:=id hs
 have hpu:=ku.p1
 have hpv:=kv.p1
 have hlu:=ku.len
 refine bC (r:=aF (.tuple [e9 (eI (dr s) v) sK sE,.int .i64 (bt s.b s.kv v)]) []) hT NR hm Z4 rfl (of_decide_eq_true (by kernel_rfl)) rfl 60 US (fun _=>?_) K []
 have lv:ec (bg (s.f 0) s.m 200)=s.m:=rfl
 simp only[aa.all,ax,lv]
 (repeat' with_reducible refine And.intro ?_ ?_)
 all_goals first|omega|exact Nat.le_refl _|exact cm (by decide)|exact gj (by decide)|exact hs.swap|skip
 exact⟨.refl _,.refl _,trivial⟩
end Go.Am.B

/- Parts of spans; where a parameter within a span lies. -/
namespace Go.Am.B
open Go Go.Am.N AV aa aj IntKind
theorem Kn.QZ {n p:Nat} {k:Nat→Rat} (h:Kn n p k) {t:Rat} (hin:¬bF n k t):D3 n k t (bG n k t):=by
 have h1:¬t<k 0:=fun h=>hin (.inl h)
 have h2:¬k (n-1)<t:=fun h=>hin (.inr h)
 exact(h.zx (by grind) (by grind)).1
end Go.Am.B
