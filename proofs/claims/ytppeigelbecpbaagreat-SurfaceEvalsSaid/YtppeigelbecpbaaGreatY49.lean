/- surface: transposed, alongU. -/
import Derived.Test.YtppeigelbecpbaaGreatY48
import Derived.Test.YtppeigelbecpbaaGreatZ2
import Derived.Test.YtppeigelbecpbaaGreatC2
import Derived.Test.YtppeigelbecpbaaGreatY45
import Derived.Test.YtppeigelbecpbaaGreatB33
set_option linter.unusedVariables false
namespace Go.Am.B
open Go Go.Am.N AV aa aj IntKind
theorem GH:aO P p8 xk (aq xk):=aP af4 (by kernel_rfl) (by kernel_rfl) (by kernel_rfl)
theorem MM:aO P vq xe (aq xe):=aP Ve (by kernel_rfl) (by kernel_rfl) (by kernel_rfl)
noncomputable abbrev uX:Code:=aq xk
noncomputable abbrev wm:Code:=part uX [1,1,1,0,1,0,0]
noncomputable abbrev tg:Code:=part wm [1,1,0,0]
abbrev oq:List Nat:=[2,0,3,13,14]
abbrev yW (f:Nat→Nat→Pl) (n m r j:Nat):List AV:=[.nil,gG f n m r,.own 0 1 0 j,.int .i64 m,.int .i64 j]
abbrev s5:List Nat:=[2,0,3,13,14,4,5,18,19]
abbrev Eu (f:Nat→Nat→Pl) (n m r j i:Nat):List AV:=[.nil,gG f n m r,.own 0 1 0 j,.int .i64 m,.int .i64 j,.int .i64 j,.own 1 12 0 i,.int .i64 n,.int .i64 i]
abbrev xy (f:Nat→Nat→Pl) (n r j:Nat):aA:=[(0,⟨true,true,1,j,fun j=>bg (fun i=>f i j) n r⟩)]
abbrev CC (f:Nat→Nat→Pl) (n r j i:Nat):aA:=(1,⟨true,true,12,i,fun i=>bN (f i j) r⟩)::xy f n r j
def dQ (s:Sf) (j:Nat):Cu:=⟨s.u,s.a,s.ku,s.n,fun i=>kX (s.f i j)⟩
abbrev tI (s:Sf) (n:Nat):AV:=.ag 3 n (fun j=>hU (dQ s j) sJ (sJ+sJ))
def CG:Spec:=cC (kC (uS sJ) kN) (fun a=>gG (fun j i=>a.1.2.2 i j) a.1.2.1 a.1.1 sJ) fun a=>[1≤a.1.1,a.1.1<2^28,a.1.2.1<2^28]
noncomputable def pY:aS:=nG::(p8,CG)::(Fk,fL T GK [] 80 Bg)::lz
noncomputable abbrev xm:Code:=aq xe
noncomputable abbrev xj:Code:=part xm [1,1,0,1,0,0]
noncomputable abbrev xL:Code:=part xj [1,1,0,0]
abbrev pT:List Nat:=[2,1,3,11,12,13]
abbrev AX (s:Sf) (j:Nat):List AV:=[.nil,.ptr 0 0 5 0 [],.own 1 3 0 j,gG (fun j i=>s.f i j) s.m s.n sJ,.int .i64 s.m,.int .i64 j]
abbrev vl:List Nat:=[2,1,3,11,12,13,6,22,23,24]
abbrev EM (s:Sf) (j i:Nat):List AV:=[.nil,.ptr 0 0 5 0 [],.own 1 3 0 j,gG (fun j i=>s.f i j) s.m s.n sJ,.int .i64 s.m,.int .i64 j,.ptr 2 0 3 0 [],bg (fun i=>s.f i j) s.n sJ,.int .i64 s.n,.int .i64 i]
abbrev xM (s:Sf) (j:Nat):aA:=[(1,⟨true,true,3,j,fun j=>hU (dQ s j) sJ (sJ+sJ)⟩),(0,⟨false,true,5,1,fun _=>cq s sJ sJ⟩)]
abbrev ES (s:Sf) (j i:Nat):aA:=(3,⟨true,true,12,i,fun i=>cU (kX (s.f i j)) (sJ+sJ)⟩)::(2,⟨false,true,3,1,fun _=>.agg [.int .i64 s.u,bM s.ku s.a sJ,.own 3 12 0 i]⟩)::xM s j
theorem ae8 {n m r:Nat} {f:Nat→Nat→Pl}:aG T [nG] [200009] 60 oq (before uX [1,1,1,0,1]) ⟨aM 0 [gG f n m r],[],0⟩=
  some (af [((↑n:Int)==(0:Int))=false] (af [(0:Int)≤(0:Int)∧Int.toNat (0:Int)<n] (leaf normal ([nil,ag 1 n fun i↦ag 12 m fun i_1↦agg [agg [rat (f i i_1).n.x r,rat (f i i_1).n.y r,rat (f i i_1).n.z r],rat (f i i_1).d r],nil,int i64 (↑m:Int),int i64 (0:Int)],[])))):=by kernel_rfl
theorem agm {n m r j:Nat} {f:Nat→Nat→Pl}:aG T [nG] [15] 60 oq (before wm [1,1,0]) ⟨aB oq (yW f n m r j),xy f n r j,1⟩=
  let c1:List AV×aA:=([nil,ag 1 n fun i↦ag 12 m fun i_1↦agg [agg [rat (f i i_1).n.x r,rat (f i i_1).n.y r,rat (f i i_1).n.z r],rat (f i i_1).d r],own 0 1 0 j,int i64 (↑m:Int),int i64 (↑j:Int)],[((0:Nat),ah.mk true true 1 j fun j↦ag 12 n fun i↦agg [agg [rat (f i j).n.x r,rat (f i j).n.y r,rat (f i j).n.z r],rat (f i j).d r])]);some (fork (decide ((↑j:Int)<(↑m:Int))) (leaf normal c1) (leaf (exit 0) c1)):=by kernel_rfl
theorem Vn {n m r j:Nat} {f:Nat→Nat→Pl}:aG T [nG] [] 60 s5 (before tg [1,1,0,1]) ⟨aB oq (yW f n m r j),xy f n r j,1⟩=
  some (leaf normal ([nil,ag 1 n fun i↦ag 12 m fun i_1↦agg [agg [rat (f i i_1).n.x r,rat (f i i_1).n.y r,rat (f i i_1).n.z r],rat (f i i_1).d r],own 0 1 0 j,int i64 (↑m:Int),int i64 (↑j:Int),int i64 (↑j:Int),nil,int i64 (↑n:Int),int i64 (0:Int)],[((0:Nat),ah.mk true true 1 j fun j↦ag 12 n fun i↦agg [agg [rat (f i j).n.x r,rat (f i j).n.y r,rat (f i j).n.z r],rat (f i j).d r])])):=by kernel_rfl
theorem VD {n m r j i:Nat} {f:Nat→Nat→Pl}:aG T [nG] [20] 60 s5 [part tg [1,1,0,1,0,0]] ⟨aB s5 (Eu f n m r j i),CC f n r j i,2⟩=
  let c10:Int:=(↑j:Int);let c9:Int:=(↑n:Int);let c7:AV:=own 0 1 0 j;let c5:Int:=(↑i:Int);let c4:AV:=rat 0 1;let c2:AV:=ag 1 n fun i↦ag 12 m fun i_1↦agg [agg [rat (f i i_1).n.x r,rat (f i i_1).n.y r,rat (f i i_1).n.z r],rat (f i i_1).d r];let c1:Nat×ah:=((0:Nat),ah.mk true true 1 j fun j↦ag 12 n fun i↦agg [agg [rat (f i j).n.x r,rat (f i j).n.y r,rat (f i j).n.z r],rat (f i j).d r]);let c8:Int:=c5+(1:Int);let c6:AV:=int i64 c10;let c3:Pl:=f c5.toNat c10.toNat;some (fork (decide (c5<c9)) (af [(0:Int)≤c5∧c5.toNat<n,(0:Int)≤c10∧c10.toNat<m,(1:Nat)*12≤2^24,(i+1)*((224:Nat)+1)*2≤2^47] (af [-(2:Int)^63≤c8∧c8<(2:Int)^63] (leaf normal ([nil,c2,c7,int i64 (↑m:Int),c6,c6,own 49154 12 0 (i+1),int i64 c9,int i64 c8],[((49154:Nat),ah.mk true true 12 (i+1) fun i_1↦if i_1<i then bN (f i_1 j) r else nth [agg [agg [rat c3.n.x r,rat c3.n.y r,rat c3.n.z r],rat c3.d r]] (agg [agg [c4,c4,c4],c4]) (i_1-i+0)),c1])))) (leaf (exit 2) ([nil,c2,c7,int i64 (↑m:Int),c6,c6,own 1 12 0 i,int i64 c9,int i64 c5],[((1:Nat),ah.mk true true 12 i fun i↦agg [agg [rat (f i j).n.x r,rat (f i j).n.y r,rat (f i j).n.z r],rat (f i j).d r]),c1]))):=by kernel_rfl
theorem Qb {n m r j i:Nat} {f:Nat→Nat→Pl}:aG T [nG] [] 60 oq (behind tg [1,1,0,1]++[part wm [1,1,1]]) ⟨aB s5 (Eu f n m r j i),CC f n r j i,2⟩=
  let c1:Int:=(↑j:Int)+(1:Int);some (af [(1:Nat)*1≤2^24,(j+1)*((24:Nat)+1)*2≤2^47] (af [-(2:Int)^63≤c1∧c1<(2:Int)^63] (leaf normal ([nil,ag 1 n fun i↦ag 12 m fun i_1↦agg [agg [rat (f i i_1).n.x r,rat (f i i_1).n.y r,rat (f i i_1).n.z r],rat (f i i_1).d r],own 12290 1 0 (j+1),int i64 (↑m:Int),int i64 c1],[((12290:Nat),ah.mk true true 1 (j+1) fun i_1↦if i_1<j then bg (fun i↦f i i_1) n r else nth [ag 12 i fun i↦bN (f (i+0) j) r] nil (i_1-j+0))])))):=by kernel_rfl
theorem ab4 {n m r j:Nat} {f:Nat→Nat→Pl}:bZ T [nG] [] 60 xk [part uX [1,1,1,1]] ⟨aB oq (yW f n m r j),xy f n r j,1⟩=
  some (leaf ret [ag 1 j fun i↦ag 12 n fun i_1↦agg [agg [rat (f i_1 (i+0)).n.x r,rat (f i_1 (i+0)).n.y r,rat (f i_1 (i+0)).n.z r],rat (f i_1 (i+0)).d r]]):=by kernel_rfl
theorem aee {s:Sf}:aG T pY [] 60 pT (before xm [1,1,0,1]) ⟨aM 0 [cq s sJ sJ],[],0⟩=
  let c2:Nat:=(bh (cq s sJ sJ)).size;let c1:Nat:=ec (bg (s.f 0) s.m sJ);some (af [(0:Nat)<1,eH (fun i↦bg (s.f i) s.m sJ) s.n sJ,(1:Nat)≤s.n,s.n<2^28,c1<2^28] (leaf normal ([nil,ptr 0 0 c2 0 [],nil,ag 1 c1 fun i↦ag 12 s.n fun i_1↦agg [agg [rat (aI (rat (s.f i_1 i).n.x sJ)) 4000,rat (aI (rat (s.f i_1 i).n.y sJ)) 4000,rat (aI (rat (s.f i_1 i).n.z sJ)) 4000],rat (aI (rat (s.f i_1 i).d sJ)) 4000],int i64 (↑c1:Int),int i64 (0:Int)],[((0:Nat),ah.mk false true c2 1 fun x↦agg [int i64 s.u,int i64 s.v,ag 3 s.a fun i↦rat (s.ku i) 4000,ag 3 s.b fun i↦rat (s.kv i) 4000,ag 1 s.n fun i↦ag 12 s.m fun i_1↦agg [agg [rat (s.f i i_1).n.x 4000,rat (s.f i i_1).n.y 4000,rat (s.f i i_1).n.z 4000],rat (s.f i i_1).d 4000]])]))):=by kernel_rfl
theorem abv {s:Sf} {j:Nat}:aG T pY [14] 60 pT (before xj [1,1,0]) ⟨aB pT (AX s j),xM s j,2⟩=
  let c2:AV:=ag 3 s.a fun i↦rat (s.ku i) 4000;let c1:List AV×aA:=([nil,ptr 0 0 5 0 [],own 1 3 0 j,ag 1 s.m fun i↦ag 12 s.n fun i_1↦agg [agg [rat (s.f i_1 i).n.x 4000,rat (s.f i_1 i).n.y 4000,rat (s.f i_1 i).n.z 4000],rat (s.f i_1 i).d 4000],int i64 (↑s.m:Int),int i64 (↑j:Int)],[((1:Nat),ah.mk true true 3 j fun j↦agg [int i64 s.u,c2,ag 12 s.n fun i↦agg [rat ((s.f i j).d*(s.f i j).n.x) 8000,rat ((s.f i j).d*(s.f i j).n.y) 8000,rat ((s.f i j).d*(s.f i j).n.z) 8000,rat (s.f i j).d 8000]]),((0:Nat),ah.mk false true 5 1 fun x↦agg [int i64 s.u,int i64 s.v,c2,ag 3 s.b fun i↦rat (s.kv i) 4000,ag 1 s.n fun i↦ag 12 s.m fun i_1↦agg [agg [rat (s.f i i_1).n.x 4000,rat (s.f i i_1).n.y 4000,rat (s.f i i_1).n.z 4000],rat (s.f i i_1).d 4000]])]);some (fork (decide ((↑j:Int)<(↑s.m:Int))) (leaf normal c1) (leaf (exit 0) c1)):=by kernel_rfl
theorem St {s:Sf} {j:Nat}:aG T pY [] 60 vl (before xL [1,1,0,1]) ⟨aB pT (AX s j),xM s j,2⟩=
  let c4:AV:=agg [int i64 (0:Int),nil,nil];let c3:Prop:=0<1;let c2:AV:=ag 3 s.a fun i↦rat (s.ku i) 4000;let c1:Nat:=(↑j:Int).toNat;some (af [(0:Int)≤(↑j:Int)∧c1<s.m] (af [c3,c3,c3] (leaf normal ([nil,ptr 0 0 5 0 [],own 1 3 0 j,ag 1 s.m fun i↦ag 12 s.n fun i_1↦agg [agg [rat (s.f i_1 i).n.x 4000,rat (s.f i_1 i).n.y 4000,rat (s.f i_1 i).n.z 4000],rat (s.f i_1 i).d 4000],int i64 (↑s.m:Int),int i64 (↑j:Int),ptr 32770 0 3 0 [],ag 12 s.n fun i↦agg [agg [rat (s.f i c1).n.x 4000,rat (s.f i c1).n.y 4000,rat (s.f i c1).n.z 4000],rat (s.f i c1).d 4000],int i64 (↑s.n:Int),int i64 (0:Int)],[((32770:Nat),ah.mk false true 3 1 fun j↦if(j==0)=true then bh (agg ((c4.kids.set 0 (bh (int i64 s.u))).set 1 (bh (bM s.ku s.a sJ))))else c4),((1:Nat),ah.mk true true 3 j fun j↦agg [int i64 s.u,c2,ag 12 s.n fun i↦agg [rat ((s.f i j).d*(s.f i j).n.x) 8000,rat ((s.f i j).d*(s.f i j).n.y) 8000,rat ((s.f i j).d*(s.f i j).n.z) 8000,rat (s.f i j).d 8000]]),((0:Nat),ah.mk false true 5 1 fun x↦agg [int i64 s.u,int i64 s.v,c2,ag 3 s.b fun i↦rat (s.kv i) 4000,ag 1 s.n fun i↦ag 12 s.m fun i_1↦agg [agg [rat (s.f i i_1).n.x 4000,rat (s.f i i_1).n.y 4000,rat (s.f i i_1).n.z 4000],rat (s.f i i_1).d 4000]])])))):=by kernel_rfl
theorem SZ {s:Sf} {j i:Nat}:aG T pY [25] 60 vl [part xL [1,1,0,1,0,0]] ⟨aB vl (EM s j i),ES s j i,4⟩=
  let c21:AV:=int i64 s.u;let c20:Int:=(↑s.n:Int);let c19:Int:=(↑(3:Nat):Int);let c18:AV:=own 1 3 0 j;let c17:AV:=own 3 12 0 i;let c16:AV:=ptr 2 0 3 0 [];let c15:AV:=ptr 0 0 5 0 [];let c14:Int:=(↑(4:Nat):Int);let c13:Int:=(↑i:Int);let c12:AV:=rat 0 1;let c9:AV:=ag 3 s.a fun i↦rat (s.ku i) 4000;let c7:Int:=(2:Int)^63;let c6:Prop:=sJ<2^42;let c5:AV:=ag 12 s.n fun i↦agg [agg [rat (s.f i j).n.x 4000,rat (s.f i j).n.y 4000,rat (s.f i j).n.z 4000],rat (s.f i j).d 4000];let c4:AV:=ag 1 s.m fun i↦ag 12 s.n fun i_1↦agg [agg [rat (s.f i_1 i).n.x 4000,rat (s.f i_1 i).n.y 4000,rat (s.f i_1 i).n.z 4000],rat (s.f i_1 i).d 4000];let c3:Int:=(0:Int)+(1:Int);let c2:Prop:=0<1;let c22:Int:=c13+(1:Int);let c11:AV:=agg [c21,bM s.ku s.a sJ,c17];let c10:Int:=c3+(1:Int);let c8:Pl:=s.f c13.toNat j;let c1:List (Nat×ah):=[((1:Nat),ah.mk true true 3 j fun j↦agg [c21,c9,ag 12 s.n fun i↦agg [rat ((s.f i j).d*(s.f i j).n.x) 8000,rat ((s.f i j).d*(s.f i j).n.y) 8000,rat ((s.f i j).d*(s.f i j).n.z) 8000,rat (s.f i j).d 8000]]),((0:Nat),ah.mk false true 5 1 fun x↦agg [c21,int i64 s.v,c9,ag 3 s.b fun i↦rat (s.kv i) 4000,ag 1 s.n fun i↦ag 12 s.m fun i_1↦agg [agg [rat (s.f i i_1).n.x 4000,rat (s.f i i_1).n.y 4000,rat (s.f i i_1).n.z 4000],rat (s.f i i_1).d 4000]])];some (fork (decide (c13<c20)) (af [(0:Int)≤c13∧c13.toNat<s.n,c2] (af [c2,c2,c2,(0:Int)≤(0:Int)∧(0:Int)<c19,c2,c2,c2,c6,c6,(0:Int)≤(0:Int)∧(0:Int)<c14,c2,-c7≤c3∧c3<c7,(0:Int)≤c3∧c3<c19,c2,c2,c2,c6,c6,(0:Int)≤c3∧c3<c14,c2,-c7≤c10∧c10<c7,(0:Int)≤c10∧c10<c19,c2,c2,c2,c6,c6,(0:Int)≤c10∧c10<c14,c2,-c7≤c10+(1:Int)∧c10+(1:Int)<c7,c2,c6,(1:Nat)<2^42,(0:Int)≤(3:Int)∧(3:Int)<c14,c2,c2,c2,c2,(1:Nat)*12≤2^24,(i+1)*((224:Nat)+1)*2≤2^47,c2] (af [-c7≤c22∧c22<c7] (leaf normal ([nil,c15,c18,c4,int i64 (↑s.m:Int),int i64 (↑j:Int),c16,c5,int i64 c20,int i64 c22],((40964:Nat),ah.mk true true 12 (i+1) fun i_1↦if i_1<i then cU (kX (s.f i_1 j)) (sJ+sJ)else nth [agg [rat (c8.d*c8.n.x) (sJ+sJ),rat (c8.d*c8.n.y) (sJ+sJ),rat (c8.d*c8.n.z) (sJ+sJ),rat (c8.d+0) (sJ+1+1)]] (agg [c12,c12,c12,c12]) (i_1-i+0))::((2:Nat),ah.mk false true 3 1 fun j↦if(j==0)=true then agg (c11.kids.set 2 (bh (own (nat_lit 40963+1) 12 0 (i+1))))else c11)::c1))))) (leaf (exit 2) ([nil,c15,c18,c4,int i64 (↑s.m:Int),int i64 (↑j:Int),c16,c5,int i64 c20,int i64 c13],((3:Nat),ah.mk true true 12 i fun i↦agg [rat ((s.f i j).d*(s.f i j).n.x) 8000,rat ((s.f i j).d*(s.f i j).n.y) 8000,rat ((s.f i j).d*(s.f i j).n.z) 8000,rat (s.f i j).d 8000])::((2:Nat),ah.mk false true 3 1 fun x↦agg [c21,c9,c17])::c1))):=by kernel_rfl
theorem Sg {s:Sf} {j i:Nat}:aG T pY [] 60 pT (behind xL [1,1,0,1]++[part xj [1,1,1]]) ⟨aB vl (EM s j i),ES s j i,4⟩=
  let c1:Int:=(↑j:Int)+(1:Int);some (af [(0:Nat)<1,(1:Nat)*3≤2^24,(j+1)*((56:Nat)+1)*2≤2^47] (af [-(2:Int)^63≤c1∧c1<(2:Int)^63] (leaf normal ([nil,ptr 0 0 5 0 [],own 12292 3 0 (j+1),ag 1 s.m fun i↦ag 12 s.n fun i_1↦agg [agg [rat (s.f i_1 i).n.x 4000,rat (s.f i_1 i).n.y 4000,rat (s.f i_1 i).n.z 4000],rat (s.f i_1 i).d 4000],int i64 (↑s.m:Int),int i64 c1],[((12292:Nat),ah.mk true true 3 (j+1) fun i_1↦if i_1<j then hU (dQ s i_1) sJ (sJ+sJ)else nth [agg [int i64 s.u,ag 3 s.a fun i↦rat (s.ku i) sJ,ag 12 i fun i↦cU (kX (s.f (i+0) j)) (sJ+sJ)]] (agg [int i64 (0:Int),nil,nil]) (i_1-j+0)),((0:Nat),ah.mk false true 5 1 fun x↦agg [int i64 s.u,int i64 s.v,ag 3 s.a fun i↦rat (s.ku i) 4000,ag 3 s.b fun i↦rat (s.kv i) 4000,ag 1 s.n fun i↦ag 12 s.m fun i_1↦agg [agg [rat (s.f i i_1).n.x 4000,rat (s.f i i_1).n.y 4000,rat (s.f i i_1).n.z 4000],rat (s.f i i_1).d 4000]])])))):=by kernel_rfl
theorem QH {s:Sf} {j:Nat}:bZ T pY [] 60 xe [part xm [1,1,1]] ⟨aB pT (AX s j),xM s j,2⟩=
  some (leaf ret [ag 3 j fun i↦agg [int i64 s.u,ag 3 s.a fun i↦rat (s.ku i) 4000,ag 12 s.n fun i_1↦agg [rat ((s.f i_1 (i+0)).d*(s.f i_1 (i+0)).n.x) 8000,rat ((s.f i_1 (i+0)).d*(s.f i_1 (i+0)).n.y) 8000,rat ((s.f i_1 (i+0)).d*(s.f i_1 (i+0)).n.z) 8000,rat (s.f i_1 (i+0)).d 8000]]]):=by kernel_rfl
theorem rowAt {j:Nat} {rl:List (Nat×Nat)} {g:Nat→AV} {v z:AV} {k:Nat} (hk:k<j+1) (hg:keys (g k)=[]) (hv:v=g j):gh rl (if k<j then g k else nth [v] z (k-j+0)) (g k):=by
 by_cases h:k<j
 ·rw[if_pos h];exact aK hg rfl
 ·have:k=j:=by omega
  subst this
  rw[if_neg h,Nat.sub_self,hv];exact aK hg rfl
theorem Pw {n m r:Nat} {f:Nat→Nat→Pl} (hn:1≤n) (h2:n<2^28) (h3:m<2^28) (K:Nat):az P p8 K [gG f n m r] [] (aF (gG (fun j i=>f i j) m n r) []):=by
 refine eB (r:=aF (gG (fun j i=>f i j) m n r) []) hT GH rfl (of_decide_eq_true (by kernel_rfl)) rfl (fun _ cx h00=>?_) K []
 have hk:=iT h00
 refine ak.xE hT (cw aX) hm (x:=uX) [1,1,1,0,1] (i:=0) (y:=wm) (z:=part uX [1,1,1,1]) (by kernel_rfl) (by kernel_rfl) (by kernel_rfl) GH.dst [1,1,0] (j:=1) (x1:=tg) (zb:=part wm [1,1,1]) (by kernel_rfl) (by kernel_rfl) (by kernel_rfl) [1,1,0,1] (i2:=2) (y2:=part tg [1,1,0,1,0,0]) (by kernel_rfl) (by kernel_rfl) rfl
  hk (f1:=[200009]) (f2:=[15]) (f3:=[]) (f4:=[20]) (f5:=[]) 60 oq s5 1 2 (fun j:Nat=>yW f n m r j) (fun j=>xy f n r j) (fun j=>j≤m) (fun j=>j=m) (fun j=>m-j) (fun j=>j<m) (fun _=>False) (fun _=>False)
  (fun j (i:Nat)=>Eu f n m r j i) (fun j i=>CC f n r j i) (fun _ i=>i≤n) (fun _ i=>i=n) (fun _ i=>n-i) ⟨_,ae8,?_⟩ (fun j hj=>⟨_,agm,?_⟩) (fun j hj hg=>⟨_,Vn,?_⟩) (fun j hj hg i hi=>⟨_,VD,?_⟩) (fun j hj hg i hi=>⟨_,Qb,?_⟩) (fun j hj=>?_) (fun _ _ h=>h.elim) (fun _ _ h=>h.elim)
 all_goals try simp only[aa.all,ax,decide_eq_true_eq,decide_eq_false_iff_not,Int.toNat_natCast,Nat.add_zero]
 ·exact⟨beq_eq_false_iff_ne.2 (by omega),by omega,0,Nat.zero_le _,[],rfl,rfl,rfl,jb rfl (by omega) (by omega) trivial⟩
 ·exact⟨fun h=>⟨by omega,[(0,0)],rfl,rfl,rfl,bq rfl rfl rfl (fun _ _=>aK rfl rfl) trivial⟩,fun h=>⟨rfl,j,by omega,[(0,0)],rfl,rfl,rfl,bq rfl rfl rfl (fun _ _=>aK rfl rfl) trivial⟩⟩
 ·exact⟨0,Nat.zero_le _,[(0,0)],rfl,rfl,rfl,jb rfl (by omega) (by omega) (bq rfl rfl rfl (fun _ _=>aK rfl rfl) trivial)⟩
 ·refine⟨fun h=>⟨⟨by omega,by omega,by omega,by omega⟩,by omega,i+1,by omega,by dsimp only;omega,[(0,0),(1,49154)],rfl,rfl,rfl,bq rfl rfl rfl (fun k hk=>D8 (y:=fun i=>f i j) (fun _ _=>rfl) (.refl _) rfl (Nat.le_refl _) (Nat.le_refl _) hk) (bq rfl rfl rfl (fun _ _=>aK rfl rfl) trivial)⟩,
   fun h=>⟨rfl,i,by omega,[(0,0),(1,1)],rfl,rfl,rfl,bq rfl rfl rfl (fun _ _=>aK rfl rfl) (bq rfl rfl rfl (fun _ _=>aK rfl rfl) trivial)⟩⟩
 ·subst hi
  exact⟨⟨by omega,by omega⟩,by omega,j+1,by omega,by dsimp only;omega,[(0,12290)],rfl,rfl,rfl,bq rfl rfl rfl (fun k hk=>rowAt (g:=fun j=>bg (fun k=>f k j) i r) hk rfl rfl) trivial⟩
 ·subst hj
  refine ak.gz ((aC.fin hT (cw aX) hm 60 ab4 (by kernel_rfl) ?_).mono fun _ _ h=>.inl h)
  simp only[aa.all,ax]
  exact .refl _
theorem LW:∀K args pre q,CG K args pre=some q→az P p8 K args pre q:=cz fun⟨⟨n,m,f⟩,_⟩ K hn=>Pw hn.1 hn.2.1 hn.2.2 K
theorem K9:aW P pY:=cw (aD LW (aD (fU hT VF hm N6 _ _) mS))
theorem agy {s:Sf} (hn:1≤s.n) (h2:s.n<2^28) (h3:s.m<2^28) (K:Nat):az P vq K [cq s sJ sJ] [] (aF (tI s s.m) []):=by
 refine eB (r:=aF (tI s s.m) []) hT MM rfl (of_decide_eq_true (by kernel_rfl)) rfl (fun _ cx h00=>?_) K []
 have hk:=iT h00
 have hJ:sJ=4000:=rfl
 refine ak.xE hT K9 hm (x:=xm) [1,1,0,1] (i:=0) (y:=xj) (z:=part xm [1,1,1]) (by kernel_rfl) (by kernel_rfl) (by kernel_rfl) MM.dst [1,1,0] (j:=1) (x1:=xL) (zb:=part xj [1,1,1]) (by kernel_rfl) (by kernel_rfl) (by kernel_rfl) [1,1,0,1] (i2:=2) (y2:=part xL [1,1,0,1,0,0]) (by kernel_rfl) (by kernel_rfl) rfl
  hk (f1:=[]) (f2:=[14]) (f3:=[]) (f4:=[25]) (f5:=[]) 60 pT vl 2 4 (fun j:Nat=>AX s j) (fun j=>xM s j) (fun j=>j≤s.m) (fun j=>j=s.m) (fun j=>s.m-j) (fun j=>j<s.m) (fun _=>False) (fun _=>False)
  (fun j (i:Nat)=>EM s j i) (fun j i=>ES s j i) (fun _ i=>i≤s.n) (fun _ i=>i=s.n) (fun _ i=>s.n-i) ⟨_,aee,?_⟩ (fun j hj=>⟨_,abv,?_⟩) (fun j hj hg=>⟨_,St,?_⟩) (fun j hj hg i hi=>⟨_,SZ,?_⟩) (fun j hj hg i hi=>⟨_,Sg,?_⟩) (fun j hj=>?_) (fun _ _ h=>h.elim) (fun _ _ h=>h.elim)
 all_goals try simp only[aa.all,ax,decide_eq_true_eq,decide_eq_false_iff_not,Int.toNat_natCast,Nat.add_zero]
 ·have e1:ec (bg (s.f 0) s.m sJ)=s.m:=rfl
  rw[e1]
  exact⟨⟨by omega,gj (Nat.le_refl _),hn,h2,h3⟩,0,Nat.zero_le _,[(0,0)],rfl,rfl,rfl,jb rfl (by omega) (by omega) (aN rfl rfl (aK rfl rfl) trivial)⟩
 ·exact⟨fun h=>⟨by omega,[(0,0),(1,1)],rfl,rfl,rfl,bq rfl rfl rfl (fun _ _=>aK rfl rfl) (aN rfl rfl (aK rfl rfl) trivial)⟩,fun h=>⟨rfl,j,by omega,[(0,0),(1,1)],rfl,rfl,rfl,bq rfl rfl rfl (fun _ _=>aK rfl rfl) (aN rfl rfl (aK rfl rfl) trivial)⟩⟩
 ·exact⟨by omega,⟨by omega,by omega,by omega⟩,0,Nat.zero_le _,[(0,0),(1,1),(2,32770)],rfl,rfl,rfl,jb rfl (by omega) (by omega) (aN rfl rfl (lT ⟨⟨rfl,aH rfl⟩,⟨rfl,aH rfl⟩,⟨rfl,nS (by omega)⟩,trivial⟩) (bq rfl rfl rfl (fun _ _=>aK rfl rfl) (aN rfl rfl (aK rfl rfl) trivial)))⟩
 ·refine⟨fun h=>?_,fun h=>⟨rfl,i,by omega,[(0,0),(1,1),(2,2),(3,3)],rfl,rfl,rfl,bq rfl rfl rfl (fun _ _=>aK rfl rfl) (aN rfl rfl (rO rfl rfl rfl) (bq rfl rfl rfl (fun _ _=>aK rfl rfl) (aN rfl rfl (aK rfl rfl) trivial)))⟩⟩
  (repeat' with_reducible refine And.intro ?_ ?_)
  all_goals first|omega|skip
  exact⟨i+1,by omega,by dsimp only;omega,[(0,0),(1,1),(2,2),(3,40964)],rfl,rfl,rfl,bq rfl rfl rfl (fun k hk=>vR (g:=fun i=>cU (kX (s.f i j)) (sJ+sJ)) (fun _ _=>⟨rfl,rfl⟩) rfl (cF ⟨bL rfl (Nat.le_refl _),bL rfl (Nat.le_refl _),bL rfl (Nat.le_refl _),bL (Rat.add_zero _) (by decide),trivial⟩) hk) (aN rfl rfl (rO rfl rfl rfl) (bq rfl rfl rfl (fun _ _=>aK rfl rfl) (aN rfl rfl (aK rfl rfl) trivial)))⟩
 ·subst hi
  exact⟨⟨by omega,by omega,by omega⟩,by omega,j+1,by omega,by dsimp only;omega,[(0,0),(1,12292)],rfl,rfl,rfl,bq rfl rfl rfl (fun k hk=>rowAt (g:=fun j=>hU (dQ s j) sJ (sJ+sJ)) hk rfl rfl) (aN rfl rfl (aK rfl rfl) trivial)⟩
 ·subst hj
  refine ak.gz ((aC.fin hT K9 hm 60 QH (by kernel_rfl) ?_).mono fun _ _ h=>.inl h)
  simp only[aa.all,ax]
  exact .refl _
def Nc:Spec:=cC (kC (gD sJ sJ) kN) (fun a=>tI a.1 a.1.m) fun a=>[1≤a.1.n,a.1.n<2^28,a.1.m<2^28]
theorem Zi:∀K args pre r,Nc K args pre=some r→az P vq K args pre r:=cz fun⟨s,_⟩ K hn=>agy hn.1 hn.2.1 hn.2.2 K
end Go.Am.B

/- ref10.Check. -/
namespace Go.Am.B
open Go Go.Am.N AV aa aj IntKind
end Go.Am.B

/- ref12.Check. -/
namespace Go.Am.B
open Go Go.Am.N AV aa aj IntKind
structure dG (s:Sf):Prop where
 ku:Kn s.a s.u.toNat s.ku
 kv:Kn s.b s.v.toNat s.kv
 u0:0≤s.u
 u6:s.u≤6
 v0:0≤s.v
 v6:s.v≤6
 a:s.a≤s.u.toNat+41
 b:s.b≤s.v.toNat+41
 n:(s.n:Int)=(s.a:Int)-s.u-1
 m:(s.m:Int)=(s.b:Int)-s.v-1
 w:∀i j,i<s.n→j<s.m→0<(s.f i j).d
end Go.Am.B

/- surface: closures over rows, rectangular, sound. -/
namespace Go.Am.B
open Go Go.Am.N AV aa aj IntKind
theorem YH:aO P lR vW (aq vW):=aP Xl (by kernel_rfl) (by kernel_rfl) (by kernel_rfl)
theorem VN:aO P l9 uZ (aq uZ):=aP ac1 (by kernel_rfl) (by kernel_rfl) (by kernel_rfl)
theorem IY:aO P wg sA (aq sA):=aP agu (by kernel_rfl) (by kernel_rfl) (by kernel_rfl)
theorem Wt:aO P sO uK (aq uK):=aP NU (by kernel_rfl) (by kernel_rfl) (by kernel_rfl)
theorem GW:aO P uo jZ (aq jZ):=aP ab0 (by kernel_rfl) (by kernel_rfl) (by kernel_rfl)
theorem abm:aO P zo uy (aq uy):=aP aap (by kernel_rfl) (by kernel_rfl) (by kernel_rfl)
theorem L8 {u v:AV} (h:bz u v):bz (.bD u) (.bD v):=by
 refine⟨rfl,fun M w cs hc=>?_⟩
 cases hc with
 |bD h1 h2 h3=>cases h3;exact .bD (h.2 _ _ _ h1) h2 .nil
theorem Rq {f:FuncId} {us vs:List AV} (h:dM us vs) (hv:(vs.all fun v=>!v.isAgg&&!v.isTuple)=true):bz (.func f us) (.func f vs):=by
 refine⟨rfl,fun M w cs hc=>?_⟩
 cases hc with
 |func h1 h2 h3=>cases h3;exact .func (BV h h1) hv .nil
def Fz {α:Type} (k:Kind α):Kind α:=⟨fun v=>match v with
 |.bD v=>k.read v
 |_=>none,fun a=>.bD (k.make a),fun {v a q} h hq=>by
  split at h
  ·exact L8 (k.ok h hq)
  ·simp at h⟩
def KM {α:Type} (k:Kind α):Kind (FuncId×α):=⟨fun v=>match v with
 |.func f [.bD v]=>match k.read v with
  |some (a,q)=>some ((f,a),q)
  |none=>none
 |_=>none,fun a=>.func a.1 [.bD (k.make a.2)],fun {v a q} h hq=>by
  split at h
  ·split at h
   ·rename_i h1
    simp only[Option.some.injEq,Prod.mk.injEq]at h
    obtain⟨rfl,rfl⟩:=h
    exact Rq ⟨L8 (k.ok h1 hq),trivial⟩ rfl
   ·simp at h
  ·simp at h⟩
def Eb:aS:=nG::(sZ,Ft)::[]
def Nv:Spec:=cC (kC (mz sJ) (kC (Fz (gD sJ sJ)) kN)) (fun _=>.bool false) fun a=>[(a.1.1:Int)=(a.2.1.b:Int)-a.2.1.v-1,a.2.1.b<2^40,-2^40<a.2.1.v,a.2.1.v<2^40]
def F5:Spec:=cC (kC (mz sJ) (kC (Fz (gD sJ sJ)) kN)) (fun _=>.bool false) fun a=>[a.1.1=a.2.1.m,1≤a.2.1.n]
def qq (m:Nat) (g:FuncId) (s:Sf):Prop:=(g=lR∧(m:Int)=(s.b:Int)-s.v-1∧s.b<2^40∧-2^40<s.v∧s.v<2^40)∨(g=l9∧m=s.m∧1≤s.n)
noncomputable def tw:aS:=nG::(lR,Nv)::(l9,F5)::[]
abbrev mT:List Nat:=[4,0,1,7,8]
abbrev xS (f:Nat→Nat→Pl) (n m i:Nat) (g:FuncId) (s:Sf):List AV:=[.int .i64 0,gG f n m sJ,.func g [.bD (cq s sJ sJ)],.int .i64 n,.int .i64 i]
noncomputable abbrev ni:Code:=aq sA
noncomputable def Jn:Spec:=cC (kC (uS sJ) (kC (KM (gD sJ sJ)) kN)) (fun _=>.int .i64 (-1)) fun a=>[a.1.1<2^40,qq a.1.2.1 a.2.1.1 a.2.1.2]
noncomputable def DM:Spec:=cC (kC (uS sJ) (kC (KM (gD sJ sJ)) kN)) (fun _=>.bool false) fun a=>[a.1.1<2^40,qq a.1.2.1 a.2.1.1 a.2.1.2]
noncomputable def He:aS:=nG::(wg,Jn)::[]
noncomputable def CM:aS:=nG::(sZ,Ft)::(sO,DM)::[]
noncomputable def DS:Spec:=cC (kC (gD sJ sJ) kN) (fun _=>.bool true) fun a=>[dG a.1]
noncomputable def NB:aS:=nG::(qj,Fi)::(uo,DS)::[]
theorem PZ {m:Nat} {f:Nat→Pl} {s:Sf}:bu T Eb [] 60 vW (aq vW) ⟨aM 0 [bg f m sJ,.bD (cq s sJ sJ)],[],0⟩=
  some (af [bB (fun i↦rat (s.kv i) sJ) s.b sK,s.b<2^40,-(2:Int)^40<s.v,s.v<(2:Int)^40] (leaf ret [AV.bool ((↑m:Int)!=(↑s.b:Int)-s.v-(1:Int))])):=by kernel_rfl
theorem TT {m:Nat} {f:Nat→Pl} {s:Sf}:bu T Eb [] 60 uZ (aq uZ) ⟨aM 0 [bg f m sJ,.bD (cq s sJ sJ)],[],0⟩=
  some (af [(0:Int)≤(0:Int)∧Int.toNat (0:Int)<s.n] (leaf ret [AV.bool ((↑m:Int)!=(↑s.m:Int))])):=by kernel_rfl
theorem FO {f:Nat→Nat→Pl} {n m:Nat} {g:FuncId} {s:Sf}:aG T tw [] 60 mT (before ni [1,0,1]) ⟨aM 0 [gG f n m sJ,.func g [.bD (cq s sJ sJ)]],[],0⟩=
  some (leaf normal ([int i64 (0:Int),ag 1 n fun i↦ag 12 m fun i_1↦agg [agg [rat (f i i_1).n.x 4000,rat (f i i_1).n.y 4000,rat (f i i_1).n.z 4000],rat (f i i_1).d 4000],func g [(agg [int i64 s.u,int i64 s.v,ag 3 s.a fun i↦rat (s.ku i) 4000,ag 3 s.b fun i↦rat (s.kv i) 4000,ag 1 s.n fun i↦ag 12 s.m fun i_1↦agg [agg [rat (s.f i i_1).n.x 4000,rat (s.f i i_1).n.y 4000,rat (s.f i i_1).n.z 4000],rat (s.f i i_1).d 4000]]).bD],int i64 (↑n:Int),int i64 (0:Int)],[])):=by kernel_rfl
theorem ae0 {f:Nat→Nat→Pl} {n m i:Nat} {s:Sf}:aG T tw [9] 60 mT [part ni [1,0,1,0,0]] ⟨aB mT (xS f n m i lR s),[],0⟩=
  let c5:Int:=(↑n:Int);let c3:Int:=(↑i:Int);let c2:AV:=ag 1 n fun i↦ag 12 m fun i_1↦agg [agg [rat (f i i_1).n.x 4000,rat (f i i_1).n.y 4000,rat (f i i_1).n.z 4000],rat (f i i_1).d 4000];let c1:AV:=func lR [(agg [int i64 s.u,int i64 s.v,ag 3 s.a fun i↦rat (s.ku i) 4000,ag 3 s.b fun i↦rat (s.kv i) 4000,ag 1 s.n fun i↦ag 12 s.m fun i_1↦agg [agg [rat (s.f i i_1).n.x 4000,rat (s.f i i_1).n.y 4000,rat (s.f i i_1).n.z 4000],rat (s.f i i_1).d 4000]]).bD];let c4:Int:=c3+(1:Int);some (fork (decide (c3<c5)) (af [(0:Int)≤c3∧c3.toNat<n,gd (fun i↦bN (f c3.toNat i) sJ) m sJ,bB (fun i↦rat (s.ku i) sJ) s.a sJ,bB (fun i↦rat (s.kv i) sJ) s.b sJ,eH (fun i↦bg (s.f i) s.m sJ) s.n sJ,(↑m:Int)=(↑s.b:Int)-s.v-(1:Int),s.b<2^40,-(2:Int)^40<s.v,s.v<(2:Int)^40] (af [-(2:Int)^63≤c4∧c4<(2:Int)^63] (leaf normal ([int i64 (0:Int),c2,c1,int i64 c5,int i64 c4],[])))) (leaf (exit 0) ([int i64 (0:Int),c2,c1,int i64 c5,int i64 c3],[]))):=by kernel_rfl
theorem Y9 {f:Nat→Nat→Pl} {n m i:Nat} {s:Sf}:aG T tw [9] 60 mT [part ni [1,0,1,0,0]] ⟨aB mT (xS f n m i l9 s),[],0⟩=
  let c5:Int:=(↑n:Int);let c3:Int:=(↑i:Int);let c2:AV:=ag 1 n fun i↦ag 12 m fun i_1↦agg [agg [rat (f i i_1).n.x 4000,rat (f i i_1).n.y 4000,rat (f i i_1).n.z 4000],rat (f i i_1).d 4000];let c1:AV:=func l9 [(agg [int i64 s.u,int i64 s.v,ag 3 s.a fun i↦rat (s.ku i) 4000,ag 3 s.b fun i↦rat (s.kv i) 4000,ag 1 s.n fun i↦ag 12 s.m fun i_1↦agg [agg [rat (s.f i i_1).n.x 4000,rat (s.f i i_1).n.y 4000,rat (s.f i i_1).n.z 4000],rat (s.f i i_1).d 4000]]).bD];let c4:Int:=c3+(1:Int);some (fork (decide (c3<c5)) (af [(0:Int)≤c3∧c3.toNat<n,gd (fun i↦bN (f c3.toNat i) sJ) m sJ,bB (fun i↦rat (s.ku i) sJ) s.a sJ,bB (fun i↦rat (s.kv i) sJ) s.b sJ,eH (fun i↦bg (s.f i) s.m sJ) s.n sJ,m=ec (bg (s.f 0) s.m sJ),(1:Nat)≤s.n] (af [-(2:Int)^63≤c4∧c4<(2:Int)^63] (leaf normal ([int i64 (0:Int),c2,c1,int i64 c5,int i64 c4],[])))) (leaf (exit 0) ([int i64 (0:Int),c2,c1,int i64 c5,int i64 c3],[]))):=by kernel_rfl
theorem Mz {f:Nat→Nat→Pl} {n m i:Nat} {g:FuncId} {s:Sf}:bZ T tw [] 60 sA [part ni [1,1]] ⟨aB mT (xS f n m i g s),[],0⟩=
  some (leaf ret [int i64 (-1:Int)]):=by kernel_rfl
theorem UW {f:Nat→Nat→Pl} {n m:Nat} {g:FuncId} {s:Sf}:bu T He [] 60 uK (aq uK) ⟨aM 0 [gG f n m sJ,.func g [.bD (cq s sJ sJ)]],[],0⟩=
  some (af [eH (fun i↦bg (f i) m sJ) n sJ,bB (fun i↦rat (s.ku i) sJ) s.a sJ,bB (fun i↦rat (s.kv i) sJ) s.b sJ,eH (fun i↦bg (s.f i) s.m sJ) s.n sJ,n<2^40,qq (ec (bg (f 0) m sJ)) g (Sf.mk s.u s.v s.a (fun i↦aI (rat (s.ku i) sJ)) s.b (fun i↦aI (rat (s.kv i) sJ)) s.n (ec (bg (s.f 0) s.m sJ)) (eL fun i↦bg (s.f i) s.m sJ))] (leaf ret [AV.bool false])):=by kernel_rfl
theorem ad0 {s:Sf}:aG T CM [] 60 [1,2] (before (aq jZ) [1]) ⟨aM 0 [cq s sJ sJ],[],0⟩=
  let c1:Nat:=(bh (cq s sJ sJ)).size;some (leaf normal ([ptr 0 0 c1 0 [],AV.bool false],[((0:Nat),ah.mk false true c1 1 fun x↦agg [int i64 s.u,int i64 s.v,ag 3 s.a fun i↦rat (s.ku i) 4000,ag 3 s.b fun i↦rat (s.kv i) 4000,ag 1 s.n fun i↦ag 12 s.m fun i_1↦agg [agg [rat (s.f i i_1).n.x 4000,rat (s.f i i_1).n.y 4000,rat (s.f i i_1).n.z 4000],rat (s.f i i_1).d 4000]])])):=by kernel_rfl
theorem Od {s:Sf}:bZ T CM [100012] 60 jZ [part (aq jZ) [1]] ⟨aB [1,2] [.bD (cq s sJ sJ),.bool false],[(0,⟨false,false,5,1,fun _=>cq s sJ sJ⟩)],1⟩=
  let c2:Nat:=ec (bg (s.f 0) s.m sJ);let c1:Prop:=eH (fun i↦bg (s.f i) s.m sJ) s.n sJ;some (af [bB (fun i↦rat (s.ku i) sJ) s.a sK,s.a<2^40,-(2:Int)^40<s.u,s.u<(2:Int)^40,((↑s.n:Int)==(↑s.a:Int)-s.u-(1:Int))=true,c1,bB (fun i↦rat (s.ku i) sJ) s.a sJ,bB (fun i↦rat (s.kv i) sJ) s.b sJ,c1,s.n<2^40,qq c2 lR (Sf.mk s.u s.v s.a (fun i↦aI (rat (s.ku i) sJ)) s.b (fun i↦aI (rat (s.kv i) sJ)) s.n c2 (eL fun i↦bg (s.f i) s.m sJ))] (leaf ret [AV.bool true])):=by kernel_rfl
theorem Xj {s:Sf}:bu T NB [100009,100017] 60 uy (aq uy) ⟨aM 0 [cq s sJ sJ],[],0⟩=
  let c3:Prop:=bB (fun i↦rat (s.ku i) sJ) s.a sJ;let c2:Prop:=bB (fun i↦rat (s.kv i) sJ) s.b sJ;let c1:Prop:=0<1;some (af [c1,c1,c3,s.a<2^40,(fq s.a (fun i↦aI (rat (s.ku i) sJ)) s.u==(0:Int))=true,c1,c1,c2,s.b<2^40,(bif true then fq s.b (fun i↦aI (rat (s.kv i) sJ)) s.v==(0:Int)else false)=true,c1,c3,c2,eH (fun i↦bg (s.f i) s.m sJ) s.n sJ,dG (Sf.mk s.u s.v s.a (fun i↦aI (rat (s.ku i) sJ)) s.b (fun i↦aI (rat (s.kv i) sJ)) s.n (ec (bg (s.f 0) s.m sJ)) (eL fun i↦bg (s.f i) s.m sJ))] (leaf ret [AV.bool true])):=by kernel_rfl
theorem MV:aW P Eb:=cw (aD GX aX)
theorem Ue:∀K args pre r,Nv K args pre=some r→az P lR K args pre r:=cz fun⟨⟨m,f⟩,s,_⟩ K hn=>by
 obtain⟨h1,h2,h3,h4⟩:=hn
 refine bC (r:=aF (.bool false) []) hT MV hm YH rfl (of_decide_eq_true (by kernel_rfl)) rfl 60 (PZ (m:=m) (f:=f) (s:=s)) (fun _=>?_) K []
 dsimp only at h1 h2 h3 h4
 simp only[aa.all,ax]
 (repeat' with_reducible refine And.intro ?_ ?_)
 all_goals first|omega|exact cm (by decide)|skip
 exact eM (bne_eq_false_iff_eq.2 h1)
theorem afU:∀K args pre r,F5 K args pre=some r→az P l9 K args pre r:=cz fun⟨⟨m,f⟩,s,_⟩ K hn=>by
 obtain⟨h1,h2⟩:=hn
 refine bC (r:=aF (.bool false) []) hT MV hm VN rfl (of_decide_eq_true (by kernel_rfl)) rfl 60 (TT (m:=m) (f:=f) (s:=s)) (fun _=>?_) K []
 dsimp only at h1 h2
 simp only[aa.all,ax]
 (repeat' with_reducible refine And.intro ?_ ?_)
 all_goals first|omega|exact eM (bne_eq_false_iff_eq.2 (by omega))|skip
 exact h2
theorem Lv:aW P tw:=cw (aD Ue (aD afU aX))
theorem TS {f:Nat→Nat→Pl} {n m:Nat} {g:FuncId} {s:Sf} (hn:n<2^40) (hg:qq m g s) (K:Nat):az P wg K [gG f n m sJ,.func g [.bD (cq s sJ sJ)]] [] (aF (.int .i64 (-1)) []):=by
 have lv:ec (bg (s.f 0) s.m sJ)=s.m:=rfl
 rcases hg with⟨rfl,h1,h2,h3,h4⟩|⟨rfl,h1,h2⟩
 ·refine iL (r:=aF (.int .i64 (-1)) []) hT Lv hm IY rfl (of_decide_eq_true (by kernel_rfl)) rfl [1,0,1] (i:=0) (y:=part ni [1,0,1,0,0]) (z:=part ni [1,1]) (by kernel_rfl) (by kernel_rfl) (by kernel_rfl) (f1:=[]) (f2:=[9]) (f3:=[]) 60 mT 0
   (fun i:Nat=>xS f n m i lR s) (fun _=>[]) (fun i=>i≤n) (fun i=>i=n) (fun i=>n-i) (fun _=>⟨⟨_,FO,?_⟩,fun i hi=>⟨_,ae0,?_⟩,fun i hi=>⟨_,Mz,?_⟩⟩) K []
  ·simp only[aa.all,ax]
   exact⟨0,Nat.zero_le _,[],rfl,rfl,rfl,trivial⟩
  ·simp only[aa.all,ax,decide_eq_true_eq,decide_eq_false_iff_not,Int.toNat_natCast]
   exact⟨fun h=>⟨⟨by omega,nw (Nat.le_refl _),cm (Nat.le_refl _),cm (Nat.le_refl _),gj (Nat.le_refl _),h1,h2,h3,h4⟩,by omega,i+1,by omega,by dsimp only;omega,[],rfl,rfl,rfl,trivial⟩,fun h=>⟨rfl,i,by omega,[],rfl,rfl,rfl,trivial⟩⟩
  ·simp only[aa.all,ax]
   exact .refl _
 ·refine iL (r:=aF (.int .i64 (-1)) []) hT Lv hm IY rfl (of_decide_eq_true (by kernel_rfl)) rfl [1,0,1] (i:=0) (y:=part ni [1,0,1,0,0]) (z:=part ni [1,1]) (by kernel_rfl) (by kernel_rfl) (by kernel_rfl) (f1:=[]) (f2:=[9]) (f3:=[]) 60 mT 0
   (fun i:Nat=>xS f n m i l9 s) (fun _=>[]) (fun i=>i≤n) (fun i=>i=n) (fun i=>n-i) (fun _=>⟨⟨_,FO,?_⟩,fun i hi=>⟨_,Y9,?_⟩,fun i hi=>⟨_,Mz,?_⟩⟩) K []
  ·simp only[aa.all,ax]
   exact⟨0,Nat.zero_le _,[],rfl,rfl,rfl,trivial⟩
  ·simp only[aa.all,ax,decide_eq_true_eq,decide_eq_false_iff_not,Int.toNat_natCast,lv]
   exact⟨fun h=>⟨⟨by omega,nw (Nat.le_refl _),cm (Nat.le_refl _),cm (Nat.le_refl _),gj (Nat.le_refl _),h1,h2⟩,by omega,i+1,by omega,by dsimp only;omega,[],rfl,rfl,rfl,trivial⟩,fun h=>⟨rfl,i,by omega,[],rfl,rfl,rfl,trivial⟩⟩
  ·simp only[aa.all,ax]
   exact .refl _
theorem Y3:∀K args pre r,Jn K args pre=some r→az P wg K args pre r:=cz fun⟨⟨n,m,f⟩,⟨g,s⟩,_⟩ K hn=>TS hn.1 hn.2 K
theorem Yv:aW P He:=cw (aD Y3 aX)
theorem FJ:∀K args pre r,DM K args pre=some r→az P sO K args pre r:=cz fun⟨⟨n,m,f⟩,⟨g,s⟩,_⟩ K hn=>by
 refine bC (r:=aF (.bool false) []) hT Yv hm Wt rfl (of_decide_eq_true (by kernel_rfl)) rfl 60 (UW (f:=f) (n:=n) (m:=m) (g:=g) (s:=s)) (fun _=>?_) K []
 simp only[aa.all,ax]
 exact⟨⟨gj (Nat.le_refl _),cm (Nat.le_refl _),cm (Nat.le_refl _),gj (Nat.le_refl _),hn.1,hn.2⟩,.refl _⟩
theorem MN:aW P CM:=cw (aD GX (aD FJ aX))
theorem MK:∀K args pre r,DS K args pre=some r→az P uo K args pre r:=cz fun⟨s,_⟩ K hn=>by
 have hs:dG s:=hn
 obtain⟨ku,kv,u0,u6,v0,v6,ha,hb,hn',hm2,hw⟩:=id hs
 refine eB (r:=aF (.bool true) []) hT GW rfl (of_decide_eq_true (by kernel_rfl)) rfl (fun _ cx h00=>?_) K []
 have hk:=iT h00
 refine ak.hole [1] (by kernel_rfl) (aC.bf hT MN hm 60 [1,2] ad0 (kE GW.dst) ?_)
 intro s' hs'
 show ak _ _ _ (part (aq jZ) [1]) s' _
 rw[show behind (aq jZ) [1]=[]from by kernel_rfl]
 refine ak.j0 (s2:=⟨aB [1,2] [.ptr 0 0 5 0 [],.bool false],[(0,⟨false,true,5,1,fun _=>cq s sJ sJ⟩)],1⟩) (eP.le ⟨[(0,0)],rfl,rfl,rfl,aN rfl rfl (aK rfl rfl) trivial⟩ hs' hk) ((?_:ak P cx jZ.ntmps (part (aq jZ) [1]) _ (dm cx (Fin T jZ (.bool true)))).mono fun e s' h=>by cases e<;>exact h)
 refine ak.Li (t:=1) (k:=0) rfl rfl rfl rfl rfl ?_
 refine ak.gz ((aC.fin hT MN hm 60 Od (by kernel_rfl) ?_).mono fun _ _ h=>.inl h)
 have lv:ec (bg (s.f 0) s.m sJ)=s.m:=rfl
 simp only[aa.all,ax,lv]
 (repeat' with_reducible refine And.intro ?_ ?_)
 all_goals first|omega|exact cm (by decide)|exact gj (Nat.le_refl _)|exact beq_iff_eq.2 hn'|exact .inl ⟨rfl,hm2,by dsimp only;omega,by dsimp only;omega,by dsimp only;omega⟩|exact .refl _|skip
theorem XP:aW P NB:=cw (aD Gc (aD MK aX))
noncomputable def NJ:Spec:=cC (kC (gD sJ sJ) kN) (fun _=>.bool true) fun a=>[dG a.1]
theorem NS:∀K args pre r,NJ K args pre=some r→az P zo K args pre r:=cz fun⟨s,_⟩ K hn=>by
 have hs:dG s:=hn
 obtain⟨ku,kv,u0,u6,v0,v6,ha,hb,hn',hm2,hw⟩:=id hs
 refine bC (r:=aF (.bool true) []) hT XP hm abm rfl (of_decide_eq_true (by kernel_rfl)) rfl 60 Xj (fun _=>?_) K []
 have c1:fq s.a (fun i=>aI (rat (s.ku i) sJ)) s.u=0:=by have:=ku.DN (by omega) ha;rwa [Int.toNat_of_nonneg u0]at this
 have c2:fq s.b (fun i=>aI (rat (s.kv i) sJ)) s.v=0:=by have:=kv.DN (by omega) hb;rwa [Int.toNat_of_nonneg v0]at this
 simp only[aa.all,ax,cond_true]
 (repeat' with_reducible refine And.intro ?_ ?_)
 all_goals first|omega|exact cm (by decide)|exact gj (Nat.le_refl _)|exact beq_iff_eq.2 c1|exact beq_iff_eq.2 c2|exact hs|exact .refl _|skip
end Go.Am.B

/- shapes.ints, ref14.ints. -/
namespace Go.Am.B
open Go Go.Am.N AV aa aj IntKind
end Go.Am.B

/- spline.Copied, shapes.clamped, shapes.Revolve. -/
namespace Go.Am.B
open Go Go.Am.N AV aa aj IntKind
theorem OM:aO P qb wo (aq wo):=aP Vh (by kernel_rfl) (by kernel_rfl) (by kernel_rfl)
abbrev B3 (y m:Nat) (k:Nat→Rat):ah:=⟨true,true,3,m,fun i=>.rat (k i) y⟩
noncomputable abbrev wq:Code:=aq wo
abbrev vT:List Nat:=[3,9,10,11]
abbrev Ed (x n:Nat) (k:Nat→Rat) (i:Nat):List AV:=[.own 0 3 0 i,bM k n x,.int .i64 n,.int .i64 i]
noncomputable def BP:aS:=nG::lz
theorem afl {x n:Nat} {k:Nat→Rat}:aG T BP [] 60 vT (before wq [1,1,0,1]) ⟨aM 0 [bM k n x],[],0⟩=
  let c1:Int:=(↑n:Int);some (af [(0:Int)≤(0:Int)∧(0:Int)≤c1∧c1≤(2:Int)^47∧c1*(↑(56:Nat):Int)≤(2:Int)^47] (leaf normal ([own 12288 3 0 0,ag 3 n fun i↦rat (k i) x,int i64 c1,int i64 (0:Int)],[((12288:Nat),ah.mk true true 3 0 fun x↦rat 0 1)]))):=by kernel_rfl
theorem Wk {x y n i:Nat} {k:Nat→Rat}:aG T BP [12] 60 vT [part wq [1,1,0,1,0,0]] ⟨aB vT (Ed x n k i),[(0,B3 y i k)],1⟩=
  let c4:Int:=(↑n:Int);let c2:AV:=ag 3 n fun i↦rat (k i) x;let c1:Int:=(↑i:Int);let c3:Int:=c1+(1:Int);some (fork (decide (c1<c4)) (af [(0:Int)≤c1∧c1.toNat<n,(0:Nat)<1] (af [(0:Nat)<1,x<2^42,(1:Nat)<2^42,(1:Nat)*3≤2^24,(i+1)*((56:Nat)+1)*2≤2^47] (af [-(2:Int)^63≤c3∧c3<(2:Int)^63] (leaf normal ([own 40961 3 0 (i+1),c2,int i64 c4,int i64 c3],[((40961:Nat),ah.mk true true 3 (i+1) fun i_1↦if i_1<i then rat (k i_1) y else nth [rat (k c1.toNat+0) (x+1+1)] (rat 0 1) (i_1-i+0))]))))) (leaf (exit 0) ([own 0 3 0 i,c2,int i64 c4,int i64 c1],[((0:Nat),ah.mk true true 3 i fun i↦rat (k i) y)]))):=by kernel_rfl
theorem Tk {x y n i:Nat} {k:Nat→Rat}:bZ T BP [] 60 wo [part wq [1,1,1]] ⟨aB vT (Ed x n k i),[(0,B3 y i k)],1⟩=
  some (leaf ret [ag 3 i fun i↦rat (k (i+0)) y]):=by kernel_rfl
theorem Yi:aW P BP:=cw mS
theorem Wg {x y n:Nat} {k:Nat→Rat} (hxy:x+10≤y) (hy:y<2^40) (hn:n<2^40) (K:Nat):az P qb K [bM k n x] [] (aF (bM k n y) []):=by
 refine iL (r:=aF (bM k n y) []) hT Yi hm OM rfl (of_decide_eq_true (by kernel_rfl)) rfl [1,1,0,1] (i:=0) (y:=part wq [1,1,0,1,0,0]) (z:=part wq [1,1,1]) (by kernel_rfl) (by kernel_rfl) (by kernel_rfl) (f1:=[]) (f2:=[12]) (f3:=[]) 60 vT 1
  (fun i:Nat=>Ed x n k i) (fun i=>[(0,B3 y i k)]) (fun i=>i≤n) (fun i=>i=n) (fun i=>n-i) (fun _=>⟨⟨_,afl,?_⟩,fun i hi=>⟨_,Wk,?_⟩,fun i hi=>⟨_,Tk,?_⟩⟩) K []
 ·simp only[aa.all,ax]
  exact⟨by omega,0,Nat.zero_le _,[(0,12288)],rfl,rfl,rfl,bq rfl rfl rfl (fun i hi=>absurd hi (Nat.not_lt_zero i)) trivial⟩
 ·simp only[aa.all,ax,decide_eq_true_eq,decide_eq_false_iff_not,Int.toNat_natCast,Nat.add_zero]
  exact⟨fun h2=>⟨by omega,by omega,by omega,i+1,by omega,by dsimp only;omega,[(0,40961)],rfl,rfl,rfl,bq rfl rfl rfl (fun j hj=>Fj (fun _ _=>rfl) (Rat.add_zero _) (Nat.le_refl _) (by omega) hj) trivial⟩,fun h2=>⟨rfl,i,by omega,[(0,0)],rfl,rfl,rfl,bq rfl rfl rfl (fun j hj=>aK rfl rfl) trivial⟩⟩
 ·subst hi
  simp only[aa.all,ax]
  exact uR rfl fun j hj=>rfl
def Ex (x y:Nat):Spec:=cC (kC (kL x) kN) (fun a=>bM a.1.2 a.1.1 y) fun a=>[x+10≤y,y<2^40,a.1.1<2^40]
theorem LD (x y:Nat):∀K args pre r,Ex x y K args pre=some r→az P qb K args pre r:=cz fun⟨⟨n,k⟩,_⟩ K hn=>Wg hn.1 hn.2.1 hn.2.2 K
end Go.Am.B

/- surface: iso, Eval, IsoU. -/
namespace Go.Am.B
open Go Go.Am.N AV aa aj IntKind
theorem Db:aO P rN oB (aq oB):=aP XR (by kernel_rfl) (by kernel_rfl) (by kernel_rfl)
theorem afk:aO P yK ue (aq ue):=aP OI (by kernel_rfl) (by kernel_rfl) (by kernel_rfl)
theorem LV:aO P oZ pq (aq pq):=aP ab6 (by kernel_rfl) (by kernel_rfl) (by kernel_rfl)
theorem Cp {f:Nat→Pl} {m s s':Nat} (h:s≤s'):qu (fun i=>cU (f i) s) m s':=fun _ _=>zF rfl h
def lK:Cu:=⟨0,0,fun _=>0,0,fun _=>⟨⟨0,0,0⟩,0⟩⟩
def jg (s:Sf) (u:Rat):Cu:=if bF s.a s.ku u then lK else⟨s.v,s.b,s.kv,s.m,fun j=>cV (dQ s j) u⟩
noncomputable def qc:aS:=nG::(zo,NJ)::(vq,Nc)::(pW,Ih)::[]
abbrev xx:List Nat:=[4,5,3,6,21,22,23]
abbrev Ey (s:Sf) (j:Nat):List AV:=[.ptr 1 0 3 0 [],.int .i64 0,.ptr 0 0 3 0 [],.ptr 2 0 3 0 [],tI s s.m,.int .i64 s.m,.int .i64 j]
abbrev Ff (s:Sf) (u:Rat) (j:Nat):aA:=[(3,⟨true,true,12,j,fun j=>cU (cV (dQ s j) u) sH⟩),(2,⟨false,true,3,1,fun _=>.agg [.int .i64 s.v,bM s.kv s.b sJ,.own 3 12 0 j]⟩),(1,⟨false,true,3,1,fun _=>.agg [.int .i64 0,.nil,.nil]⟩),(0,tP u sK)]
noncomputable abbrev jP:Code:=aq oB
abbrev zk:List Nat:=[4,5,3,21,22,23]
abbrev JY (s:Sf):List AV:=[.ptr 1 0 3 0 [],.int .i64 0,.ptr 0 0 3 0 [],tI s s.m,.int .i64 s.m,.int .i64 ((0:Nat):Int)]
abbrev HF (u:Rat):aA:=[(1,⟨false,true,3,1,fun _=>.agg [.int .i64 0,.nil,.nil]⟩),(0,tP u sK)]
abbrev af2 (u:Rat):aA:=[(0,tP u sK),(1,⟨false,true,3,1,fun j=>if(j==0)=true then bh (.agg (AV.kids (.agg [.int .i64 0,.nil,.nil])))else .agg [.int .i64 0,.nil,.nil]⟩)]
def IK:Spec:=cC (kC (Gk sK sH) (kC (fy sK) kN)) (fun a=>.tuple [cU (cV a.1 a.2.1) fC,.int .i64 (bt a.1.n a.1.k a.2.1)]) fun a=>[Kn a.1.n a.1.p.toNat a.1.k,0≤a.1.p,a.1.p≤6,a.1.n<2^40,(a.1.m:Int)=(a.1.n:Int)-a.1.p-1]
def NM:Spec:=cC (kC (zT fC) kN) (fun a=>bN (gm a.1) nv) fun _=>[]
noncomputable def Er:Spec:=cC (kC (gD sJ sJ) (kC (fy sK) kN)) (fun a=>.tuple [hU (jg a.1 a.2.1) sJ sH,.int .i64 (bt a.1.a a.1.ku a.2.1)]) fun a=>[dG a.1,1≤a.1.u,1≤a.1.v]
noncomputable def HR:aS:=nG::(rN,Er)::(pW,IK)::(oS,NM)::[]
noncomputable def AB:aS:=nG::(rN,Er)::(qb,Ex sJ sK)::(oS,G6)::[]
abbrev yN:List Nat:=[4,5,8,28,29,30]
abbrev Ez (c:Cu) (j:Nat):List AV:=[.ptr 0 0 3 0 [],.int .i64 0,.ptr 1 0 3 0 [],Cx c.f c.m sH,.int .i64 c.m,.int .i64 j]
abbrev Fc (c:Cu) (j:Nat):aA:=[(2,⟨true,true,12,j,fun j=>bN (gm (c.f j)) sE⟩),(1,⟨false,true,3,1,fun _=>.agg [.int .i64 c.p,bM c.k c.n sK,.own 2 12 0 j]⟩),(0,⟨false,true,3,1,fun _=>.agg [.int .i64 0,.nil,.nil]⟩)]
noncomputable abbrev rD:Code:=aq pq
theorem Zw {e:Int}:iU T pq .ret ⟨aB [4,5] [.ptr 8192 0 3 0 [],.int .i64 e],[(8192,⟨false,true,3,1,fun j=>if(j==0)=true then bh (.agg (AV.kids (.agg [.int .i64 0,.nil,.nil])))else .agg [.int .i64 0,.nil,.nil]⟩)],8193⟩=
  some (af [(0:Nat)<1] (leaf ret [agg [int i64 (0:Int),nil,nil],int i64 e])):=by kernel_rfl
theorem R3 {s:Sf} {u:Rat}:aG T qc [200013] 60 xx (before jP [1,1,1,0,1]) ⟨aM 0 [cq s sJ sJ,.rat u sK],[],0⟩=
  let c7:AV:=int i64 (0:Int);let c6:Prop:=bB (fun i↦rat (s.ku i) sJ) s.a sJ;let c5:Prop:=bB (fun i↦rat (s.kv i) sJ) s.b sJ;let c4:Prop:=eH (fun i↦bg (s.f i) s.m sJ) s.n sJ;let c2:Prop:=0<1;let c1:Nat:=ec (bg (s.f 0) s.m sJ);let c3:AV:=agg [c7,nil,nil];some (af [c2,c6,c5,c4,dG (Sf.mk s.u s.v s.a (fun i↦aI (rat (s.ku i) sJ)) s.b (fun i↦aI (rat (s.kv i) sJ)) s.n c1 (eL fun i↦bg (s.f i) s.m sJ))] (af [(!true)=false] (af [c2,c2,c2] (af [c2,c6,c5,c4,(1:Nat)≤s.n,s.n<2^28,c1<2^28] (leaf normal ([ptr 8192 0 3 0 [],c7,ptr 4096 0 (bh (rat u sK)).size 0 [],ptr 49152 0 3 0 [],ag 3 c1 fun j↦agg [int i64 s.u,ag 3 s.a fun i↦rat (aI (rat (s.ku i) sJ)) 4000,ag 12 s.n fun i↦agg [rat (aI (rat (s.f i j).d sJ)*aI (rat (s.f i j).n.x sJ)) 8000,rat (aI (rat (s.f i j).d sJ)*aI (rat (s.f i j).n.y sJ)) 8000,rat (aI (rat (s.f i j).d sJ)*aI (rat (s.f i j).n.z sJ)) 8000,rat (aI (rat (s.f i j).d sJ)) 8000]],int i64 (↑c1:Int),c7],[((49152:Nat),ah.mk false true 3 1 fun j↦if(j==0)=true then bh (agg ((c3.kids.set 0 (bh (int i64 s.v))).set 1 (bh (bM s.kv s.b sJ))))else c3),((4096:Nat),ah.mk false true (bh (rat u sK)).size 1 fun x↦rat u 4096),((8192:Nat),ah.mk false true 3 1 fun x↦c3)])))))):=by kernel_rfl
theorem Qu {s:Sf} {u:Rat} {j:Nat}:aG T qc [24,34] 60 xx [part jP [1,1,1,0,1,0,0]] ⟨aB xx (Ey s j),Ff s u j,4⟩=
  let c19 : Int := (↑s.m : Int); let c18 : AV := int i64 (0 : Int); let c17 : AV := own 3 12 0 j; let c16 : Int := bt s.a (fun i ↦ aI (rat (s.ku i) sJ)) u; let c15 : AV := ptr 2 0 3 0 []; let c14 : AV := ptr 0 0 3 0 []; let c12 : AV := rat 0 1; let c11 : Int := (↑j : Int); let c10 : Nat × ah := ((0 : Nat), ah.mk false true 3 1 fun x ↦ rat u 4096); let c8 : AV := ptr 1 0 3 0 []; let c7 : Prop := 0 < 1; let c3 : Nat × ah := ((3 : Nat), ah.mk true true 12 j fun j ↦ agg [rat (cV (dQ s j) u).n.x 2147483648, rat (cV (dQ s j) u).n.y 2147483648, rat (cV (dQ s j) u).n.z 2147483648, rat (cV (dQ s j) u).d 2147483648]); let c1 : AV := ag 3 s.m fun j ↦ agg [int i64 s.u, ag 3 s.a fun i ↦ rat (s.ku i) 4000, ag 12 s.n fun i ↦ agg [rat ((s.f i j).d * (s.f i j).n.x) 8000, rat ((s.f i j).d * (s.f i j).n.y) 8000, rat ((s.f i j).d * (s.f i j).n.z) 8000, rat (s.f i j).d 8000]]; let c20 : Int := c11 + (1 : Int); let c13 : AV := agg [c18, nil, nil]; let c9 : AV := agg [int i64 s.v, bM s.kv s.b sJ, c17]; let c6 : List AV := [c14, c15, c1, int i64 c19, int i64 c11]; let c4 : Nat × ah := ((2 : Nat), ah.mk false true 3 1 fun x ↦ agg [int i64 s.v, ag 3 s.b fun i ↦ rat (s.kv i) 4000, c17]); let c2 : Pl := cV (Cu.mk s.u s.a (fun i ↦ aI (rat (s.ku i) sJ)) s.n fun i ↦ uH (cU (kX (s.f i c11.toNat)) (sJ + sJ))) u; let c5 : List (Nat × ah) := [c10, ((1 : Nat), ah.mk false true 3 1 fun x ↦ c13)]; some (fork (decide (c11 < c19)) (af [(0 : Int) ≤ c11 ∧ c11.toNat < s.m, c7] (af [c7, c7, bB (fun i ↦ rat (s.ku i) sJ) s.a sK, qu (fun i ↦ cU (kX (s.f i c11.toNat)) (sJ + sJ)) s.n (sJ + sJ), sK ≤ sK, Kn s.a s.u.toNat fun i ↦ aI (rat (s.ku i) sJ), (0 : Int) ≤ s.u, s.u ≤ (6 : Int), s.a < 2 ^ 40, (↑s.n : Int) = (↑s.a : Int) - s.u - (1 : Int), c7] (fork (c16 != (0 : Int)) (af [c7] (leaf ret (c8 :: int i64 c16 :: c6, [c3, c4, c10, ((1 : Nat), ah.mk false true 3 1 fun j ↦ if (j == 0) = true then bh (agg c13.kids) else c13)]))) (af [c7, c7, (1 : Nat) * 12 ≤ 2 ^ 24, (j + 1) * ((224 : Nat) + 1) * 2 ≤ 2 ^ 47, c7] (af [-(2 : Int) ^ 63 ≤ c20 ∧ c20 < (2 : Int) ^ 63] (leaf normal ([c8, c18, c14, c15, c1, int i64 c19, int i64 c20], ((81924 : Nat), ah.mk true true 12 (j + 1) fun i ↦ if i < j then cU (cV (dQ s i) u) sH else nth [agg [rat c2.n.x sH, rat c2.n.y sH, rat c2.n.z sH, rat c2.d sH]] (agg [c12, c12, c12, c12]) (i - j + 0)) :: ((2 : Nat), ah.mk false true 3 1 fun j_1 ↦ if (j_1 == 0) = true then agg (c9.kids.set 2 (bh (own (nat_lit 81923 + 1) 12 0 (j + 1)))) else c9) :: c5))))))) (leaf (exit 0) (c8 :: c18 :: c6, c3 :: c4 :: c5))) := by kernel_rfl
theorem acO {s:Sf} {u:Rat} {j:Nat}:bZ T qc [] 60 oB [part jP [1,1,1,1]] ⟨aB xx (Ey s j),Ff s u j,4⟩=
  let c1:Prop:=0<1;some (af [c1,c1] (af [c1] (leaf ret [agg [int i64 s.v,ag 3 s.b fun i↦rat (s.kv i) 4000,ag 12 j fun i↦agg [rat (cV (dQ s (i+0)) u).n.x 2147483648,rat (cV (dQ s (i+0)) u).n.y 2147483648,rat (cV (dQ s (i+0)) u).n.z 2147483648,rat (cV (dQ s (i+0)) u).d 2147483648]],int i64 (0:Int)]))):=by kernel_rfl
theorem RH {s:Sf} {u:Rat}:aG T qc [200013] 60 zk (before jP [1,1,1,0,1]) ⟨aM 0 [cq s sJ sJ,.rat u sK],[],0⟩=
  let c6:AV:=int i64 (0:Int);let c5:Prop:=bB (fun i↦rat (s.kv i) sJ) s.b sJ;let c4:Prop:=bB (fun i↦rat (s.ku i) sJ) s.a sJ;let c3:Prop:=eH (fun i↦bg (s.f i) s.m sJ) s.n sJ;let c2:Prop:=0<1;let c1:Nat:=ec (bg (s.f 0) s.m sJ);some (af [c2,c4,c5,c3,dG (Sf.mk s.u s.v s.a (fun i↦aI (rat (s.ku i) sJ)) s.b (fun i↦aI (rat (s.kv i) sJ)) s.n c1 (eL fun i↦bg (s.f i) s.m sJ))] (af [(!true)=false] (af [c2,c2,c2] (af [c2,c4,c5,c3,(1:Nat)≤s.n,s.n<2^28,c1<2^28] (leaf normal ([ptr 8192 0 3 0 [],c6,ptr 4096 0 (bh (rat u sK)).size 0 [],ag 3 c1 fun j↦agg [int i64 s.u,ag 3 s.a fun i↦rat (aI (rat (s.ku i) sJ)) 4000,ag 12 s.n fun i↦agg [rat (aI (rat (s.f i j).d sJ)*aI (rat (s.f i j).n.x sJ)) 8000,rat (aI (rat (s.f i j).d sJ)*aI (rat (s.f i j).n.y sJ)) 8000,rat (aI (rat (s.f i j).d sJ)*aI (rat (s.f i j).n.z sJ)) 8000,rat (aI (rat (s.f i j).d sJ)) 8000]],int i64 (↑c1:Int),c6],[((4096:Nat),ah.mk false true (bh (rat u sK)).size 1 fun x↦rat u 4096),((8192:Nat),ah.mk false true 3 1 fun x↦agg [c6,nil,nil])])))))):=by kernel_rfl
theorem UK {s:Sf} {u:Rat}:aG T qc [100024,100034] 60 zk [part jP [1,1,1,0,1,0,0]] ⟨aB zk (JY s),HF u,2⟩=
  let c4 : AV := agg [int i64 (0 : Int), nil, nil]; let c3 : Int := bt s.a (fun i ↦ aI (rat (s.ku i) sJ)) u; let c2 : Int := (↑(0 : Nat) : Int); let c1 : Prop := 0 < 1; some (af [decide (c2 < (↑s.m : Int)) = true] (af [(0 : Int) ≤ c2 ∧ c2.toNat < s.m, c1] (af [c1, c1, bB (fun i ↦ rat (s.ku i) sJ) s.a sK, qu (fun i ↦ cU (kX (s.f i c2.toNat)) (sJ + sJ)) s.n (sJ + sJ), sK ≤ sK, Kn s.a s.u.toNat fun i ↦ aI (rat (s.ku i) sJ), (0 : Int) ≤ s.u, s.u ≤ (6 : Int), s.a < 2 ^ 40, (↑s.n : Int) = (↑s.a : Int) - s.u - (1 : Int), c1] (af [(c3 != (0 : Int)) = true] (af [c1] (leaf ret ([ptr 1 0 3 0 [], int i64 c3, ptr 0 0 3 0 [], ag 3 s.m fun j ↦ agg [int i64 s.u, ag 3 s.a fun i ↦ rat (s.ku i) 4000, ag 12 s.n fun i ↦ agg [rat ((s.f i j).d * (s.f i j).n.x) 8000, rat ((s.f i j).d * (s.f i j).n.y) 8000, rat ((s.f i j).d * (s.f i j).n.z) 8000, rat (s.f i j).d 8000]], int i64 (↑s.m : Int), int i64 (0 : Int)], [((0 : Nat), ah.mk false true 3 1 fun x ↦ rat u 4096), ((1 : Nat), ah.mk false true 3 1 fun j ↦ if (j == 0) = true then bh (agg c4.kids) else c4)]))))))) := by kernel_rfl
theorem We {u:Rat} {e:Int}:iU T oB .ret ⟨aB [4,5,3] [.ptr 1 0 3 0 [],.int .i64 e,.ptr 0 0 3 0 []],af2 u,2⟩=
  some (af [(0:Nat)<1] (leaf ret [agg [int i64 (0:Int),nil,nil],int i64 e])):=by kernel_rfl
theorem adb {s:Sf} {u v:Rat}:bu T HR [18,28] 60 ue (aq ue) ⟨aM 0 [cq s sJ sJ,.rat u sK,.rat v sK],[],0⟩=
  let c7 : Int := bt s.a (fun i ↦ aI (rat (s.ku i) sJ)) u; let c5 : AV := rat 0 1; let c4 : Sf := Sf.mk s.u s.v s.a (fun i ↦ aI (rat (s.ku i) sJ)) s.b (fun i ↦ aI (rat (s.kv i) sJ)) s.n (ec (bg (s.f 0) s.m sJ)) (eL fun i ↦ bg (s.f i) s.m sJ); let c3 : Prop := 0 < 1; let c1 : Cu := jg c4 u; let c6 : Int := bt c1.n (fun i ↦ aI (rat (c1.k i) sJ)) v; let c2 : Pl := cV (Cu.mk c1.p c1.n (fun i ↦ aI (rat (c1.k i) sJ)) c1.m fun i ↦ uH (cU (c1.f i) sH)) v; some (af [c3, c3, bB (fun i ↦ rat (s.ku i) sJ) s.a sJ, bB (fun i ↦ rat (s.kv i) sJ) s.b sJ, eH (fun i ↦ bg (s.f i) s.m sJ) s.n sJ, sK ≤ sK, dG c4, (1 : Int) ≤ s.u, (1 : Int) ≤ s.v, c3] (fork (c7 != (0 : Int)) (af [c3] (af [c3] (leaf ret [agg [c5, c5, c5], int i64 c7]))) (af [c3, c3, bB (fun i ↦ rat (c1.k i) sJ) c1.n sK, qu (fun i ↦ cU (c1.f i) sH) c1.m sH, sK ≤ sK, Kn c1.n c1.p.toNat fun i ↦ aI (rat (c1.k i) sJ), (0 : Int) ≤ c1.p, c1.p ≤ (6 : Int), c1.n < 2 ^ 40, (↑c1.m : Int) = (↑c1.n : Int) - c1.p - (1 : Int), c3] (fork (c6 != (0 : Int)) (af [c3] (af [c3] (leaf ret [agg [c5, c5, c5], int i64 c6]))) (af [c3, fC ≤ fC, fC ≤ fC, fC ≤ fC, fC ≤ fC, c3] (af [c3] (leaf ret [agg [rat (c2.n.x / c2.d) 137438953474, rat (c2.n.y / c2.d) 137438953474, rat (c2.n.z / c2.d) 137438953474], int i64 (0 : Int)]))))))) := by kernel_rfl
theorem Qv {s:Sf} {u:Rat}:aG T AB [18] 60 yN (before rD [1,1,1,1,0,1]) ⟨aM 0 [cq s sJ sJ,.rat u sK],[],0⟩=
  let c7 : AV := int i64 (0 : Int); let c6 : Int := bt s.a (fun i ↦ aI (rat (s.ku i) sJ)) u; let c5 : AV := ptr 8192 0 3 0 []; let c3 : Prop := 0 < 1; let c2 : Sf := Sf.mk s.u s.v s.a (fun i ↦ aI (rat (s.ku i) sJ)) s.b (fun i ↦ aI (rat (s.kv i) sJ)) s.n (ec (bg (s.f 0) s.m sJ)) (eL fun i ↦ bg (s.f i) s.m sJ); let c4 : AV := agg [c7, nil, nil]; let c1 : Cu := jg c2 u; some (af [c3, c3, bB (fun i ↦ rat (s.ku i) sJ) s.a sJ, bB (fun i ↦ rat (s.kv i) sJ) s.b sJ, eH (fun i ↦ bg (s.f i) s.m sJ) s.n sJ, sK ≤ sK, dG c2, (1 : Int) ≤ s.u, (1 : Int) ≤ s.v, c3] (fork (c6 != (0 : Int)) (af [c3] (leaf ret ([c5, int i64 c6, tuple [], tuple [], tuple [], tuple []], [((8192 : Nat), ah.mk false true 3 1 fun j ↦ if (j == 0) = true then bh (agg c4.kids) else c4)]))) (af [c3, c3, bB (fun i ↦ rat (c1.k i) sJ) c1.n sJ, sJ + 10 ≤ sK, sK < 2 ^ 40, c1.n < 2 ^ 40, c3] (af [c3] (leaf normal ([c5, c7, ptr 86016 0 3 0 [], ag 12 c1.m fun i ↦ agg [rat (c1.f i).n.x 2147483648, rat (c1.f i).n.y 2147483648, rat (c1.f i).n.z 2147483648, rat (c1.f i).d 2147483648], int i64 (↑c1.m : Int), c7], [((86016 : Nat), ah.mk false true 3 1 fun j ↦ if (j == 0) = true then bh (agg ((c4.kids.set 0 (bh (int i64 c1.p))).set 1 (bh (bM (fun i ↦ aI (rat (c1.k i) sJ)) c1.n sK)))) else c4), ((8192 : Nat), ah.mk false true 3 1 fun x ↦ c4)])))))) := by kernel_rfl
theorem aat {c:Cu} {j:Nat}:aG T AB [31] 60 yN [part rD [1,1,1,1,0,1,0,0]] ⟨aB yN (Ez c j),Fc c j,3⟩=
  let c12:Int:=(↑c.m:Int);let c11:AV:=int i64 (0:Int);let c10:AV:=own 2 12 0 j;let c9:AV:=ptr 1 0 3 0 [];let c8:AV:=ptr 0 0 3 0 [];let c7:Prop:=0<1;let c6:Int:=(↑j:Int);let c5:AV:=rat 0 1;let c1:AV:=ag 12 c.m fun i↦agg [rat (c.f i).n.x 2147483648,rat (c.f i).n.y 2147483648,rat (c.f i).n.z 2147483648,rat (c.f i).d 2147483648];let c13:Int:=c6+(1:Int);let c4:AV:=agg [int i64 c.p,bM c.k c.n sK,c10];let c3:Nat×ah:=((0:Nat),ah.mk false true 3 1 fun x↦agg [c11,nil,nil]);let c2:Pl:=c.f c6.toNat;some (fork (decide (c6<c12)) (af [(0:Int)≤c6∧c6.toNat<c.m,c7] (af [c7,c7,sH≤sH,sH≤sH,sH≤sH,sH≤sH,(1:Nat)*12≤2^24,(j+1)*((224:Nat)+1)*2≤2^47,c7] (af [-(2:Int)^63≤c13∧c13<(2:Int)^63] (leaf normal ([c8,c11,c9,c1,int i64 c12,int i64 c13],[((40963:Nat),ah.mk true true 12 (j+1) fun i↦if i<j then bN (gm (c.f i)) sE else nth [agg [agg [rat (c2.n.x/c2.d) sE,rat (c2.n.y/c2.d) sE,rat (c2.n.z/c2.d) sE],rat c2.d sE]] (agg [agg [c5,c5,c5],c5]) (i-j+0)),((1:Nat),ah.mk false true 3 1 fun j_1↦if(j_1==0)=true then agg (c4.kids.set 2 (bh (own (nat_lit 40962+1) 12 0 (j+1))))else c4),c3]))))) (leaf (exit 0) ([c8,c11,c9,c1,int i64 c12,int i64 c6],[((2:Nat),ah.mk true true 12 j fun j↦agg [agg [rat ((c.f j).n.x/(c.f j).d) 4294967298,rat ((c.f j).n.y/(c.f j).d) 4294967298,rat ((c.f j).n.z/(c.f j).d) 4294967298],rat (c.f j).d 4294967298]),((1:Nat),ah.mk false true 3 1 fun x↦agg [int i64 c.p,ag 3 c.n fun i↦rat (c.k i) 4096,c10]),c3]))):=by kernel_rfl
theorem Rw {c:Cu} {j:Nat}:bZ T AB [] 60 pq [part rD [1,1,1,1,1]] ⟨aB yN (Ez c j),Fc c j,3⟩=
  let c1:Prop:=0<1;some (af [c1,c1] (af [c1] (leaf ret [agg [int i64 c.p,ag 3 c.n fun i↦rat (c.k i) 4096,ag 12 j fun i↦agg [agg [rat ((c.f (i+0)).n.x/(c.f (i+0)).d) 4294967298,rat ((c.f (i+0)).n.y/(c.f (i+0)).d) 4294967298,rat ((c.f (i+0)).n.z/(c.f (i+0)).d) 4294967298],rat (c.f (i+0)).d 4294967298]],int i64 (0:Int)]))):=by kernel_rfl
theorem aaC:∀K args pre r,IK K args pre=some r→az P pW K args pre r:=cz fun⟨c,t,_⟩ K hn=>Kb (by decide) (by decide) hn.1 hn.2.1 hn.2.2.1 hn.2.2.2.1 hn.2.2.2.2 K
theorem ab5:∀K args pre r,NM K args pre=some r→az P oS K args pre r:=cz fun⟨h,_⟩ K _=>IQ (by decide) (by decide) (by decide) K
theorem Fu:aW P qc:=cw (aD NS (aD Zi (aD Sb aX)))
theorem P6 {s:Sf} {u:Rat} (h:bF s.a s.ku u):jg s u=lK:=if_pos h
theorem Bd {s:Sf} {u:Rat} (h:¬bF s.a s.ku u):jg s u=⟨s.v,s.b,s.kv,s.m,fun j=>cV (dQ s j) u⟩:=if_neg h
theorem Rr {x y:Nat}:bz (.agg [.int .i64 0,.nil,.nil]) (hU lK x y):=cF ⟨.refl _,iO (by decide),iO (by decide),trivial⟩
theorem abB {s:Sf} {u:Rat} (hs:dG s) (K:Nat):az P rN K [cq s sJ sJ,.rat u sK] [] (aF (.tuple [hU (jg s u) sJ sH,.int .i64 (bt s.a s.ku u)]) []):=by
 refine eB (r:=aF (.tuple [hU (jg s u) sJ sH,.int .i64 (bt s.a s.ku u)]) []) hT Db rfl (of_decide_eq_true (by kernel_rfl)) rfl (fun _ cx h00=>?_) K []
 have hk:=iT h00
 obtain⟨ku,kv,u0,u6,v0,v6,ha,hb,hn,hm2,hw⟩:=id hs
 have hlu:=ku.len
 have hlv:=kv.len
 have hpu:=ku.p1
 have hpv:=kv.p1
 have hm1:1≤s.m:=by omega
 have lv:ec (bg (s.f 0) s.m sJ)=s.m:=rfl
 by_cases hout:bF s.a s.ku u
 ·have hE:bt s.a s.ku u=7:=by unfold bt;rw[if_pos hout]
  refine ak.jv hT Fu hm (x:=jP) [1,1,1,0,1] (i:=0) (y:=part jP [1,1,1,0,1,0,0]) (z:=part jP [1,1,1,1]) (by kernel_rfl) (by kernel_rfl) (by kernel_rfl) Db.dst hk (f1:=[200013]) (f2:=[100024,100034]) 60 zk 2 (fun _:Unit=>JY s) (fun _=>HF u) (fun _=>True) (fun _=>False) (fun _=>0) (sR T oB [4,5,3] (.tuple [hU (jg s u) sJ sH,.int .i64 (bt s.a s.ku u)]))
   ⟨_,RH,?_⟩ (fun _ _=>⟨_,UK,?_⟩) (fun _ h=>h.elim) (fun v s' hv hs'=>hv.fin (L1:=[21,22,23]) hk hs')
  ·simp only[aa.all,ax,lv]
   exact⟨⟨by omega,cm (Nat.le_refl _),cm (Nat.le_refl _),gj (Nat.le_refl _),hs⟩,rfl,⟨by omega,by omega,by omega⟩,⟨by omega,cm (Nat.le_refl _),cm (Nat.le_refl _),gj (Nat.le_refl _),by omega,by omega,by omega⟩,(),trivial,[(0,4096),(1,8192)],rfl,rfl,rfl,aN rfl rfl (aK rfl rfl) (aN rfl rfl (aK rfl rfl) trivial)⟩
  ·have hE':bt s.a (fun i=>aI (rat (s.ku i) sJ)) u=7:=hE
   simp only[aa.all,ax,hE']
   exact⟨decide_eq_true (by omega),⟨⟨by omega,by omega⟩,by omega⟩,⟨by omega,by omega,cm (by decide),Cp (Nat.le_refl _),Nat.le_refl _,ku,u0,u6,by omega,hn,by omega⟩,by decide,by omega,[_,_,_],_,2,_,rfl,rfl,rfl,We,rfl,⟨⟨by omega,fun _ _=>rfl⟩,⟨by omega,fun _ _=>zQ rfl rfl⟩,trivial⟩,Nat.zero_lt_one,by rw[P6 hout];exact Rr,br hE.symm,trivial⟩
 ·have hE:bt s.a s.ku u=0:=by unfold bt;rw[if_neg hout]
  refine ak.jv hT Fu hm (x:=jP) [1,1,1,0,1] (i:=0) (y:=part jP [1,1,1,0,1,0,0]) (z:=part jP [1,1,1,1]) (by kernel_rfl) (by kernel_rfl) (by kernel_rfl) Db.dst hk (f1:=[200013]) (f2:=[24,34]) 60 xx 4 (fun j:Nat=>Ey s j) (fun j=>Ff s u j) (fun j=>j≤s.m) (fun j=>j=s.m) (fun j=>s.m-j) (fun _=>False)
   ⟨_,R3,?_⟩ (fun j hj=>⟨_,Qu,?_⟩) (fun j hj=>?_) (fun _ _ h=>h.elim)
  ·simp only[aa.all,ax,lv]
   exact⟨⟨by omega,cm (Nat.le_refl _),cm (Nat.le_refl _),gj (Nat.le_refl _),hs⟩,rfl,⟨by omega,by omega,by omega⟩,⟨by omega,cm (Nat.le_refl _),cm (Nat.le_refl _),gj (Nat.le_refl _),by omega,by omega,by omega⟩,0,Nat.zero_le _,[(0,4096),(1,8192),(2,49152)],rfl,rfl,rfl,jb rfl (by omega) (by omega) (aN rfl rfl (lT ⟨⟨rfl,aH rfl⟩,⟨rfl,aH rfl⟩,⟨rfl,nS (by omega)⟩,trivial⟩) (aN rfl rfl (aK rfl rfl) (aN rfl rfl (aK rfl rfl) trivial)))⟩
  ·have hE':bt s.a (fun i=>aI (rat (s.ku i) sJ)) u=0:=hE
   simp only[aa.all,ax,decide_eq_true_eq,decide_eq_false_iff_not,Int.toNat_natCast,Nat.add_zero,hE']
   exact⟨fun h=>⟨⟨⟨by omega,by omega⟩,by omega⟩,⟨by omega,by omega,cm (by decide),Cp (Nat.le_refl _),Nat.le_refl _,ku,u0,u6,by omega,hn,by omega⟩,fun h=>absurd h (by decide),fun _=>⟨⟨by omega,by omega,by omega,by omega,by omega⟩,by omega,j+1,by omega,by dsimp only;omega,[(0,0),(1,1),(2,2),(3,81924)],rfl,rfl,rfl,bq rfl rfl rfl (fun k hk=>vR (g:=fun j=>cU (cV (dQ s j) u) sH) (fun _ _=>⟨rfl,rfl⟩) rfl (zF (h:=cV (dQ s j) u) rfl (Nat.le_refl _)) hk) (aN rfl rfl (rO rfl rfl rfl) (aN rfl rfl (aK rfl rfl) (aN rfl rfl (aK rfl rfl) trivial)))⟩⟩,
    fun h=>⟨rfl,j,by omega,[(0,0),(1,1),(2,2),(3,3)],rfl,rfl,rfl,bq rfl rfl rfl (fun _ _=>aK rfl rfl) (aN rfl rfl (rO rfl rfl rfl) (aN rfl rfl (aK rfl rfl) (aN rfl rfl (aK rfl rfl) trivial)))⟩⟩
  ·subst hj
   refine ak.gz ((aC.fin hT Fu hm 60 acO (by kernel_rfl) ?_).mono fun _ _ h=>.inl h)
   simp only[aa.all,ax]
   exact⟨⟨by omega,by omega⟩,by omega,by rw[Bd hout];exact .refl _,br hE.symm,trivial⟩
theorem MT:∀K args pre r,Er K args pre=some r→az P rN K args pre r:=cz fun⟨s,u,_⟩ K hn=>abB hn.1 K
def jQ (s:Sf) (u v:Rat):V3:=if bF s.a s.ku u then⟨0,0,0⟩else if bF s.b s.kv v then⟨0,0,0⟩else(gm (cV (jg s u) v)).n
def iR (s:Sf) (u v:Rat):Int:=if bF s.a s.ku u then 7 else bt s.b s.kv v
theorem XU:aW P HR:=cw (aD MT (aD aaC (aD ab5 aX)))
noncomputable def E9:Spec:=cC (kC (gD sJ sJ) (kC (fy sK) (kC (fy sK) kN))) (fun a=>.tuple [vA (jQ a.1 a.2.1 a.2.2.1) nv,.int .i64 (iR a.1 a.2.1 a.2.2.1)]) fun a=>[dG a.1]
theorem Ik:∀K args pre r,E9 K args pre=some r→az P yK K args pre r:=cz fun⟨s,u,v,_⟩ K hn=>by
 have hs:dG s:=hn
 obtain⟨ku,kv,u0,u6,v0,v6,ha,hb,hn,hm2,hw⟩:=id hs
 have hpu:=ku.p1
 have hpv:=kv.p1
 refine bC (r:=aF (.tuple [vA (jQ s u v) nv,.int .i64 (iR s u v)]) []) hT XU hm afk rfl (of_decide_eq_true (by kernel_rfl)) rfl 60 adb (fun _=>?_) K []
 have hE:bt s.a (fun i=>aI (rat (s.ku i) sJ)) u=bt s.a s.ku u:=rfl
 simp only[aa.all,ax,hE,bne_iff_ne,ne_eq,bne_eq_false_iff_eq]
 generalize hg:jg _ u=c1
 refine⟨⟨by omega,by omega,cm (Nat.le_refl _),cm (Nat.le_refl _),gj (Nat.le_refl _),Nat.le_refl _,hs,by omega,by omega,by omega⟩,fun h=>?_,fun h=>?_⟩
 ·have ho:=qi h
  exact⟨by omega,by omega,oH (u:=⟨0,0,0⟩) (by unfold jQ;rw[if_pos ho]) (by decide),br (by unfold iR bt;rw[if_pos ho,if_pos ho]),trivial⟩
 ·have ho:=pU h
  have hc:c1=jg s u:=hg.symm
  have hi:=Bd ho
  rw[hi]at hc
  subst hc
  have hE2:bt s.b (fun i=>aI (rat (s.kv i) sJ)) v=bt s.b s.kv v:=rfl
  simp only[hE2]
  refine⟨⟨by omega,by omega,cm (by decide),Cp (Nat.le_refl _),Nat.le_refl _,kv,v0,v6,by omega,hm2,by omega⟩,fun h2=>?_,fun h2=>⟨⟨by omega,Nat.le_refl _,Nat.le_refl _,Nat.le_refl _,Nat.le_refl _,by omega⟩,by omega,?_⟩⟩
  ·have ho2:=qi h2
   exact⟨by omega,by omega,oH (u:=⟨0,0,0⟩) (by unfold jQ;rw[if_neg ho,if_pos ho2]) (by decide),br (by unfold iR;rw[if_neg ho]),trivial⟩
  ·have ho2:=pU h2
   refine⟨oH (u:=(gm (cV ⟨s.v,s.b,s.kv,s.m,fun j=>cV (dQ s j) u⟩ v)).n) (by unfold jQ;rw[if_neg ho,if_neg ho2,hi]) (by decide),br (by unfold iR;rw[if_neg ho,h2]),trivial⟩
def eI (s:Sf) (u:Rat):Cu:=if bF s.a s.ku u then lK else⟨s.v,s.b,s.kv,s.m,fun j=>gm (cV (dQ s j) u)⟩
theorem MW:aW P AB:=cw (aD MT (aD (LD _ _) (aD U3 aX)))
noncomputable def zK:Spec:=cC (kC (gD sJ sJ) (kC (fy sK) kN)) (fun a=>.tuple [e9 (eI a.1 a.2.1) sK sE,.int .i64 (bt a.1.a a.1.ku a.2.1)]) fun a=>[dG a.1]
theorem FU {x y:Nat}:bz (.agg [.int .i64 0,.nil,.nil]) (e9 lK x y):=cF ⟨.refl _,iO (by decide),iO (by decide),trivial⟩
theorem ZC {s:Sf} {u:Rat} (hs:dG s) (K:Nat):az P oZ K [cq s sJ sJ,.rat u sK] [] (aF (.tuple [e9 (eI s u) sK sE,.int .i64 (bt s.a s.ku u)]) []):=by
 refine eB (r:=aF (.tuple [e9 (eI s u) sK sE,.int .i64 (bt s.a s.ku u)]) []) hT LV rfl (of_decide_eq_true (by kernel_rfl)) rfl (fun _ cx h00=>?_) K []
 have hk:=iT h00
 obtain⟨ku,kv,u0,u6,v0,v6,ha,hb,hn,hm2,hw⟩:=id hs
 have hpu:=ku.p1
 have hpv:=kv.p1
 obtain⟨c,hc⟩:∃c:Cu,c=⟨s.v,s.b,s.kv,s.m,fun j=>cV (dQ s j) u⟩:=⟨_,rfl⟩
 refine ak.jv hT MW hm (x:=rD) [1,1,1,1,0,1] (i:=0) (y:=part rD [1,1,1,1,0,1,0,0]) (z:=part rD [1,1,1,1,1]) (by kernel_rfl) (by kernel_rfl) (by kernel_rfl) LV.dst hk (f1:=[18]) (f2:=[31]) 60 yN 3 (fun j:Nat=>Ez c j) (fun j=>Fc c j) (fun j=>j≤c.m∧¬bF s.a s.ku u) (fun j=>j=c.m∧¬bF s.a s.ku u) (fun j=>c.m-j) (sR T pq [4,5] (.tuple [e9 (eI s u) sK sE,.int .i64 (bt s.a s.ku u)]))
  ⟨_,Qv,?_⟩ (fun j ⟨hj,hin⟩=>⟨_,aat,?_⟩) (fun j ⟨hj,hin⟩=>?_) (fun v s' hv hs'=>hv.fin (L1:=[8,28,29,30]) hk hs')
 ·have hE:bt s.a (fun i=>aI (rat (s.ku i) sJ)) u=bt s.a s.ku u:=rfl
  simp only[aa.all,ax,hE,bne_iff_ne,ne_eq,bne_eq_false_iff_eq]
  generalize hg:jg _ u=c1
  refine⟨⟨by omega,by omega,cm (Nat.le_refl _),cm (Nat.le_refl _),gj (Nat.le_refl _),Nat.le_refl _,hs,by omega,by omega,by omega⟩,fun h=>?_,fun h=>?_⟩
  ·have ho:=qi h
   exact⟨by omega,[_,_],_,8193,_,rfl,rfl,rfl,Zw,rfl,⟨⟨by omega,fun _ _=>zQ rfl rfl⟩,trivial⟩,Nat.zero_lt_one,by rw[show eI s u=lK from if_pos ho];exact FU,br rfl,trivial⟩
  ·have ho:=pU h
   have hc1:c1=c:=by
    have:c1=jg s u:=hg.symm
    rw[this,Bd ho,hc]
   subst hc1
   have hn2:c1.n=s.b:=by rw[hc]
   exact⟨⟨by omega,by omega,cm (Nat.le_refl _),by decide,by decide,by omega,by omega⟩,by omega,0,⟨Nat.zero_le _,ho⟩,[(0,8192),(1,86016)],rfl,rfl,rfl,jb rfl (by omega) (by omega) (aN rfl rfl (lT ⟨⟨rfl,aH rfl⟩,⟨rfl,aH rfl⟩,⟨rfl,nS (by omega)⟩,trivial⟩) (aN rfl rfl (aK rfl rfl) trivial))⟩
 ·have hcm:c.m<2^28:=by rw[hc];dsimp only;omega
  simp only[aa.all,ax,decide_eq_true_eq,decide_eq_false_iff_not,Int.toNat_natCast,Nat.add_zero]
  refine⟨fun h=>?_,fun h=>⟨rfl,j,⟨by omega,hin⟩,[(0,0),(1,1),(2,2)],rfl,rfl,rfl,bq rfl rfl rfl (fun _ _=>aK rfl rfl) (aN rfl rfl (rO rfl rfl rfl) (aN rfl rfl (aK rfl rfl) trivial))⟩⟩
  (repeat' with_reducible refine And.intro ?_ ?_)
  all_goals first|omega|exact Nat.le_refl _|skip
  exact⟨j+1,⟨by omega,hin⟩,by dsimp only;omega,[(0,0),(1,1),(2,40963)],rfl,rfl,rfl,bq rfl rfl rfl (fun i hi=>vR (g:=fun j=>bN (gm (c.f j)) sE) (fun _ _=>⟨rfl,rfl⟩) rfl (.refl _) hi) (aN rfl rfl (rO rfl rfl rfl) (aN rfl rfl (aK rfl rfl) trivial))⟩
 ·subst hj
  refine ak.gz ((aC.fin hT MW hm 60 Rw (by kernel_rfl) ?_).mono fun _ _ h=>.inl h)
  simp only[aa.all,ax]
  have hE:bt s.a s.ku u=0:=by unfold bt;rw[if_neg hin]
  exact⟨⟨by omega,by omega⟩,by omega,by rw[show eI s u=⟨s.v,s.b,s.kv,s.m,fun j=>gm (cV (dQ s j) u)⟩from if_neg hin,hc];exact .refl _,br hE.symm,trivial⟩
theorem Ei:∀K args pre r,zK K args pre=some r→az P oZ K args pre r:=cz fun⟨s,u,_⟩ K hn=>ZC hn K
end Go.Am.B

/- ref09.Sum; contracts of sums. -/
namespace Go.Am.B
open Go Go.Am.N AV aa aj IntKind
end Go.Am.B

/- basis.Blossom. -/
namespace Go.Am.B
open Go Go.Am.N AV aa aj IntKind
end Go.Am.B

/- ref09.Polar, ref09.Blossom; contracts of polar forms. -/
namespace Go.Am.B
open Go Go.Am.N AV aa aj IntKind
end Go.Am.B

/- basis.Blossom, handed coefficients that may still be written to. -/
namespace Go.Am.B
open Go Go.Am.N AV aa aj IntKind
def IT (f:Nat→AV) (n s:Nat):Prop:=∀i,i<n→keys (f i)=[]∧bz (f i) (.rat (aI (f i)) s)
theorem IT.obj {f:Nat→AV} {n s:Nat} {w:Bool} (h:IT f n s) {m:Nat} (hm:n=m) (ρ:Nat→Option Nat):cD ρ ⟨true,w,3,n,f⟩ ⟨true,w,3,m,fun i=>.rat (aI (f i)) s⟩:=⟨rfl,rfl,rfl,hm.symm,fun i hi=>ny (h i hi).1 (h i hi).2⟩
end Go.Am.B

/- spline.piece, Spline.polar. -/
namespace Go.Am.B
open Go Go.Am.N AV aa aj IntKind
end Go.Am.B

/- ref02: SameList, Mid, Text; ref08.Greville. -/
namespace Go.Am.B
open Go Go.Am.N AV aa aj IntKind
theorem aeS:aO P wE tK (aq tK):=aP Rc (by kernel_rfl) (by kernel_rfl) (by kernel_rfl)
theorem Vx:aO P uk lD (aq lD):=aP Ti (by kernel_rfl) (by kernel_rfl) (by kernel_rfl)
theorem afm:aO P yJ jn (aq jn):=aP Uq (by kernel_rfl) (by kernel_rfl) (by kernel_rfl)
abbrev s9:List Nat:=[0,1,4,5]
abbrev EB (n m:Nat) (f g:Nat→Rat) (i:Nat):List AV:=[bM f n sU,bM g m sU,.bool false,.int .i64 i]
noncomputable abbrev tL:Code:=aq tK
theorem S2 {n m:Nat} {f g:Nat→Rat}:aG T pD [10] 60 s9 (before tL [1,1,0,1]) ⟨aM 0 [bM f n sU,bM g m sU],[],0⟩=
  let c2:AV:=ag 3 m fun i↦rat (g i) 4294967296;let c1:AV:=ag 3 n fun i↦rat (f i) 4294967296;some (fork ((↑n:Int)!=(↑m:Int)) (leaf ret ([c1,c2,AV.bool false,tuple []],[])) (leaf normal ([c1,c2,AV.bool false,int i64 (0:Int)],[]))):=by kernel_rfl
theorem adF {n m i:Nat} {f g:Nat→Rat}:aG T pD [14,26] 60 s9 [part tL [1,1,0,1,0,0]] ⟨aB s9 (EB n m f g i),[],0⟩=
  let c4:AV:=ag 3 m fun i↦rat (g i) 4294967296;let c3:AV:=ag 3 n fun i↦rat (f i) 4294967296;let c2:Int:=(↑i:Int);let c5:Int:=c2+(1:Int);let c1:List AV×aA:=([c3,c4,AV.bool false,int i64 c2],[]);some (fork (decide (c2<(↑n:Int))) (af [(0:Int)≤c2∧c2.toNat<n,(0:Int)≤c2∧c2.toNat<m] (fork (!decide (f c2.toNat=g c2.toNat)) (leaf ret c1) (af [-(2:Int)^63≤c5∧c5<(2:Int)^63] (leaf normal ([c3,c4,AV.bool false,int i64 c5],[]))))) (leaf (exit 0) c1)):=by kernel_rfl
theorem OD {n m i:Nat} {f g:Nat→Rat}:bZ T pD [] 60 tK [part tL [1,1,1]] ⟨aB s9 (EB n m f g i),[],0⟩=
  some (leaf ret [AV.bool true]):=by kernel_rfl
def xV (n:Nat) (f:Nat→Rat) (m:Nat) (g:Nat→Rat):Bool:=decide (n=m∧∀i,i<n→f i=g i)
theorem afY {n m:Nat} {f g:Nat→Rat} (hn:n<2^40) (hm2:m<2^40) (K:Nat):az P wE K [bM f n sU,bM g m sU] [] (aF (.bool (xV n f m g)) []):=by
 refine iL (r:=aF (.bool (xV n f m g)) []) hT JF hm aeS rfl (of_decide_eq_true (by kernel_rfl)) rfl [1,1,0,1] (i:=0) (y:=part tL [1,1,0,1,0,0]) (z:=part tL [1,1,1]) (by kernel_rfl) (by kernel_rfl) (by kernel_rfl) (f1:=[10]) (f2:=[14,26]) (f3:=[]) 60 s9 0
  (fun i:Nat=>EB n m f g i) (fun _=>[]) (fun i=>i≤n∧n=m∧∀j,j<i→f j=g j) (fun i=>i=n∧n=m∧∀j,j<i→f j=g j) (fun i=>n-i) (fun _=>⟨⟨_,S2,?_⟩,fun i ⟨h1,h2,h3⟩=>⟨_,adF,?_⟩,fun i ⟨h1,h2,h3⟩=>⟨_,OD,?_⟩⟩) K []
 ·simp only[aa.all,ax,bne_iff_ne,ne_eq,bne_eq_false_iff_eq]
  exact⟨fun h=>⟨[.bool false],by kernel_rfl,eM (decide_eq_false (fun hh=>h (by omega))).symm⟩,fun h=>⟨0,⟨by omega,by omega,fun j hj=>by omega⟩,.vals rfl⟩⟩
 ·simp only[aa.all,ax,decide_eq_true_eq,decide_eq_false_iff_not,Bool.not_eq_true',Bool.not_eq_false',Int.toNat_natCast]
  (repeat' with_reducible first|refine And.intro ?_ ?_|intro _)
  all_goals first|omega|skip
  ·rename_i a b
   exact⟨[.bool false],by kernel_rfl,eM (decide_eq_false (fun hh=>b (hh.2 i (by omega)))).symm⟩
  ·rename_i a b
   refine⟨i+1,⟨by omega,h2,fun j hj=>?_⟩,by dsimp only;omega,.vals rfl⟩
   by_cases hj2:j=i
   ·subst hj2;exact b
   ·exact h3 j (by omega)
  ·exact⟨rfl,i,⟨by omega,h2,h3⟩,.vals rfl⟩
 ·subst h1
  exact eM (decide_eq_true ⟨h2,h3⟩).symm
def Iz:Spec:=cC (kC (kL sU) (kC (kL sU) kN)) (fun a=>.bool (xV a.1.1 a.1.2 a.2.1.1 a.2.1.2)) fun a=>[a.1.1<2^40,a.2.1.1<2^40]
theorem XI:∀K args pre r,Iz K args pre=some r→az P wE K args pre r:=cz fun _ K hn=>afY hn.1 hn.2 K
end Go.Am.B

/- Affine changes of fG: fG.Affine, ref08.Affine; ref08.Mirror. -/
namespace Go.Am.B
open Go Go.Am.N AV aa aj IntKind
end Go.Am.B

/- slices.Insert of one number zn a list of just its capacity; fG.Insert, ref08.Insert. -/
namespace Go.Am.B
open Go Go.Am.N AV aa aj IntKind
end Go.Am.B

/- Spline.Over, Spline.Insert, curve.back. -/
namespace Go.Am.B
open Go Go.Am.N AV aa aj IntKind
end Go.Am.B

/- curve.inner, curve.Insert. -/
namespace Go.Am.B
open Go Go.Am.N AV aa aj IntKind
end Go.Am.B

/- rational.Valid, rational.Bits; the closures of curve.Check; slices.Clone, curve.numbers, curve.Check. -/
namespace Go.Am.B
open Go Go.Am.N AV aa aj IntKind
theorem QG:aO P yb ug (aq ug):=aP aaM (by kernel_rfl) (by kernel_rfl) (by kernel_rfl)
theorem agA:aO P uz xg (aq xg):=aP Qw (by kernel_rfl) (by kernel_rfl) (by kernel_rfl)
theorem WC:aO P yM uD (aq uD):=aP YX (by kernel_rfl) (by kernel_rfl) (by kernel_rfl)
theorem JM:aO P sC vP (aq vP):=aP X8 (by kernel_rfl) (by kernel_rfl) (by kernel_rfl)
theorem RW:aO P tM uG (aq uG):=aP X3 (by kernel_rfl) (by kernel_rfl) (by kernel_rfl)
theorem aac:aO P BN yH (aq yH):=aP Xf (by kernel_rfl) (by kernel_rfl) (by kernel_rfl)
theorem afp:aO P Bp uj (aq uj):=aP S3 (by kernel_rfl) (by kernel_rfl) (by kernel_rfl)
def MC:Spec:=bA fun l=>match l with
 |[.mag N]=>some (aF (.bool true) [nl N<2^40])
 |_=>none
def B2:aS:=nG::(yb,MC)::(q9,bA (jA CS))::(qv,bA (fT EN))::(rJ,Cr)::[]
def Jm:Spec:=bA fun l=>match l with
 |[.rat q n]=>some (aF (.bool true) [n<2^44])
 |_=>none
def HJ:Spec:=bA fun l=>match l with
 |[.rat q n]=>some (aF (.int .i64 (ck q:Nat)) [n<2^44])
 |_=>none
def zB:Spec:=bA fun l=>match l with
 |[.rat q n]=>some (aF (.bool false) [n≤2048])
 |_=>none
def Bk:aS:=nG::(uz,Jm)::(yM,HJ)::lz
def IG (s:Nat):Kind Pl:=⟨fun v=>match z9 v with
 |some (a,q)=>some (a.1,q++[a.2≤s])
 |none=>none,fun a=>bN a s,fun {v a q} h hq=>by
  split at h
  ·rename_i b q' hb
   simp only[Option.some.injEq,Prod.mk.injEq]at h
   obtain⟨rfl,rfl⟩:=h
   obtain⟨q1,q2⟩:=dw.1 hq
   refine bz.trans (kPl.ok hb q1) ?_
   show bz (bN b.1 b.2) (bN b.1 s)
   exact cF ⟨cF ⟨cN q2,cN q2,cN q2,trivial⟩,cN q2,trivial⟩
  ·simp at h⟩
def Gd:Spec:=cC (kC (IG 2048) kN) (fun _=>.bool false) fun a=>[0<a.1.d]
def Bs:Kind FuncId:=⟨fun v=>match v with
 |.func f []=>some (f,[])
 |_=>none,fun g=>.func g [],fun {v a q} h _=>by
  split at h
  ·simp only[Option.some.injEq,Prod.mk.injEq]at h
   obtain⟨rfl,rfl⟩:=h
   exact .refl _
  ·simp at h⟩
abbrev ja:List Nat:=[4,0,1,7,8]
abbrev wR (n i:Nat) (k:Nat→Rat) (g:FuncId):List AV:=[.int .i64 0,bM k n 2048,.func g [],.int .i64 n,.int .i64 i]
abbrev Cy (n i:Nat) (f:Nat→Pl) (g:FuncId):List AV:=[.int .i64 0,bg f n 2048,.func g [],.int .i64 n,.int .i64 i]
noncomputable abbrev nO:Code:=aq vP
noncomputable abbrev uq:Code:=aq uG
theorem Tt {N:Nat}:bu T [nG] [6] 60 ug (aq ug) ⟨aM 0 [.mag N],[],0⟩=
  let c2:Bool:=(↑(nl N):Int)==(0:Int);let c1:Int:=(↑(nl N):Int)-(1:Int);some (fork c2 (af [c2=true] (leaf ret [AV.bool true])) (af [c2=false,-(2:Int)^63≤c1∧c1<(2:Int)^63,(0:Int)≤c1∧c1.toNat<nl N] (leaf ret [AV.bool (bif false then true else(↑(ay N c1.toNat):Int)!=(0:Int))]))):=by kernel_rfl
theorem Yy {q:Rat} {n:Nat}:bu T B2 [18,25,29,33,43] 60 xg (aq xg) ⟨aM 0 [.rat q n],[],0⟩=
  let c9:aa (List AV):=leaf ret [AV.bool false];let c7:Bool:=!decide (q<0);let c6:Nat:=q.num.natAbs;let c4:Nat:=2^40;let c3:Prop:=0<1;let c2:Nat:=if q.den=1 then 0 else q.den;let c5:Int:=(↑(nl c2):Int);let c10:Bool:=c5==(1:Int);let c8:Bool:=c5==(0:Int);let c1:aa (List AV):=af [c3] (fork ((↑(nl c6):Int)==(0:Int)) (fork c7 (af [c3,c7=true,c3] (leaf ret [AV.bool (bif true then c8 else false)])) (af [c3,c7=false] c9)) (fork c8 (af [c3,c8=true] (leaf ret [AV.bool true])) (af [c3,c8=false,c3,c3,nl c6<c4,nl c2<c4,nl (c6.gcd c2)<c4] (leaf ret [AV.bool (bif false then true else(↑(bp (c6.gcd c2)):Int)==(1:Int))]))));some (fork c10 (af [c3,nl c6<c4,c3,nl c2<c4,c3,c10=true,c3,(0:Int)≤(0:Int)∧Int.toNat (0:Int)<nl c2] (fork (bif bif !true then true else !true then true else bif true then(↑(ay c2 (Int.toNat (0:Int))):Int)==(1:Int)else false) c9 c1)) (af [c3,nl c6<c4,c3,nl c2<c4,c3,c10=false] (fork false c9 c1))):=by kernel_rfl
theorem ad4 {q:Rat} {n:Nat}:bu T B2 [] 60 uD (aq uD) ⟨aM 0 [.rat q n],[],0⟩=
  let c2:Int:=(↑(bp q.den):Int);let c1:Int:=(↑(bp q.num.natAbs):Int);some (af [(0:Nat)<1,nl q.num.natAbs<2^40,(0:Nat)<1,nl q.den<2^40] (leaf ret [int i64 (if c1<c2 then c2 else c1)])):=by kernel_rfl
theorem Wj {N:Nat} (hn:nl N<2^40) (K:Nat):az P yb K [.mag N] [] (aF (.bool true) []):=by
 refine bC hT (cw aX) hm QG rfl (of_decide_eq_true (by kernel_rfl)) rfl 60 Tt (fun _=>?_) K []
 simp only[aa.all,ax]
 refine⟨fun h=>⟨h,.refl _⟩,fun h=>?_⟩
 have h0:nl N≠0:=fun he=>by rw[he]at h;exact absurd h (by decide)
 have h1:N≠0:=fun he=>h0 (gM.2 he)
 have e1:((nl N:Int)-1).toNat=nl N-1:=by omega
 have h2:=AT h1
 rw[e1]
 refine⟨⟨h,by omega,by omega⟩,eM ?_⟩
 rw[cond_false]
 exact bne_iff_ne.2 (by omega)
theorem Uu:∀K args pre r,MC K args pre=some r→az P yb K args pre r:=by
 refine bS fun K args r hk hs _=>?_
 split at hs
 ·simp only[Option.some.injEq]at hs
  subst hs
  exact fun need=>Wj need K trivial
 ·simp at hs
theorem MF:aW P B2:=cw (aD Uu (aD Kq (aD Mx (aD Gx aX))))
theorem acC {N:Nat} (h:nl N=1) (h1:ay N 0=1):N=1:=by
 have h2:N<2^(32*1):=cI.1 (by omega)
 unfold ay at h1
 omega
theorem Zm {q:Rat} {n:Nat} (hn:n<2^44) (K:Nat):az P uz K [.rat q n] [] (aF (.bool true) []):=by
 refine gU fun⟨hs1,_⟩=>?_
 obtain⟨a1,a2,a3⟩:=Sz.gN hs1 hn
 refine bC hT MF hm agA rfl (of_decide_eq_true (by kernel_rfl)) rfl 60 Yy (fun _=>?_) K []
 obtain⟨D,hD⟩:∃D,D=if q.den=1 then 0 else q.den:=⟨_,rfl⟩
 have hD1:D≠1:=by rw[hD];split<;>omega
 have hg:D≠0→q.num.natAbs.gcd D=1:=fun h=>by
  have:D=q.den:=by rw[hD]at h ⊢;split<;>simp_all
  rw[this];exact q.reduced
 have hz:q.num.natAbs=0→¬q<0∧D=0:=fun h=>by
  have h0:=kZ.1 h
  subst h0
  exact⟨by decide,by rw[hD];rfl⟩
 rw[←hD]at a3 ⊢
 have nneg:((nl q.num.natAbs:Int)==0)=true→(!decide (q<0))=true∧((nl D:Int)==0)=true:=fun h=>by
  obtain⟨z1,z2⟩:=hz (gM.1 (by have:=beq_iff_eq.1 h;omega))
  rw[decide_eq_false z1,z2];exact⟨rfl,rfl⟩
 have last:((nl D:Int)==0)=false→D≠0:=fun h he=>by rw[he]at h;exact absurd h (by decide)
 simp only[aa.all,ax,cond_true,cond_false,Bool.not_true]
 refine⟨fun h=>⟨⟨by omega,a1,by omega,a3,by omega,h,by omega,by omega,?_⟩,fun h2=>?_,fun h2=>⟨by omega,fun h3=>⟨fun h4=>⟨⟨by omega,h4,by omega⟩,eM (nneg h3).2⟩,fun h4=>absurd (h4.symm.trans (nneg h3).1) (by decide)⟩,fun h3=>⟨fun h4=>⟨⟨by omega,h4⟩,.refl _⟩,fun h4=>?_⟩⟩⟩,
  fun h=>⟨⟨by omega,a1,by omega,a3,by omega,h⟩,fun h=>absurd h (by decide),fun _=>⟨by omega,fun h3=>⟨fun h4=>⟨⟨by omega,h4,by omega⟩,eM (nneg h3).2⟩,fun h4=>absurd (h4.symm.trans (nneg h3).1) (by decide)⟩,fun h3=>⟨fun h4=>⟨⟨by omega,h4⟩,.refl _⟩,fun h4=>?_⟩⟩⟩⟩
 ·have:=beq_iff_eq.1 h
  rw[Int.toNat_zero];omega
 ·have e1:=beq_iff_eq.1 h
  have e2:=beq_iff_eq.1 h2
  exact absurd (acC (by omega) (by rw[Int.toNat_zero]at e2;omega)) hD1
 ·rw[hg (last h4)]
  exact⟨⟨by omega,h4,by omega,by omega,a1,a3,by decide⟩,eM (by decide)⟩
 ·rw[hg (last h4)]
  exact⟨⟨by omega,h4,by omega,by omega,a1,a3,by decide⟩,eM (by decide)⟩
theorem agd:∀K args pre r,Jm K args pre=some r→az P uz K args pre r:=by
 refine bS fun K args r hk hs _=>?_
 split at hs
 ·simp only[Option.some.injEq]at hs
  subst hs
  exact fun need=>Zm need K trivial
 ·simp at hs
theorem Wn {q:Rat} {n:Nat} (hn:n<2^44) (K:Nat):az P yM K [.rat q n] [] (aF (.int .i64 (ck q:Nat)) []):=by
 refine gU fun⟨hs1,_⟩=>?_
 obtain⟨a1,a2,a3⟩:=Sz.gN hs1 hn
 refine bC hT MF hm WC rfl (of_decide_eq_true (by kernel_rfl)) rfl 60 ad4 (fun _=>?_) K []
 simp only[aa.all,ax]
 refine⟨⟨by omega,a1,by omega,a2⟩,br ?_⟩
 unfold ck
 split<;>omega
theorem VZ:∀K args pre r,HJ K args pre=some r→az P yM K args pre r:=by
 refine bS fun K args r hk hs _=>?_
 split at hs
 ·simp only[Option.some.injEq]at hs
  subst hs
  exact fun need=>Wn need K trivial
 ·simp at hs
theorem Et:aW P Bk:=cw (aD agd (aD VZ mS))
end Go.Am.B

/- brepkernelmade: Knots. -/
namespace Go.Am.B
open Go Go.Am.N AV aa aj IntKind
theorem JS:aO P td uv (aq uv):=aP Pq (by kernel_rfl) (by kernel_rfl) (by kernel_rfl)
def lE:aS:=nG::(mI,gA r6)::(jE,yS)::(lY,qg)::jq
abbrev jI (n:Nat) (z:Nat→Int) (a:Int):ah:=gY n (fun i=>.int .i64 (z i)) a
abbrev tO (t:Rat):ah:=⟨false,true,3,1,fun _=>.rat t 64⟩
abbrev aax (m:Nat) (k:Nat→Rat):ah:=⟨true,true,3,m,fun i=>.rat (k i) 64⟩
abbrev og:List Nat:=[0,1,2,7,8,9]
abbrev Ab (p m:Int) (v:AV) (i:Int):List AV:=[.ptr 0 0 2 0 [],.int .i64 p,.int .i64 m,.ptr 1 0 3 0 [],v,.int .i64 i]
noncomputable abbrev wT:Code:=aq uv
noncomputable abbrev yG:Code:=part wT [1,1,1,1]
noncomputable abbrev qZ:Code:=part yG [1]
abbrev wO:List Nat:=[0,1,7,8,10]
abbrev uf:List Nat:=[0,1,7,8,11]
abbrev oV (p:Int) (l:Nat) (i:Int):List AV:=[.ptr 0 0 2 0 [],.int .i64 p,.ptr 1 0 3 0 [],.own 2 3 0 l,.int .i64 i]
abbrev kT (n:Nat) (z:Nat→Int) (a:Int) (t:Rat) (l:Nat) (k:Nat→Rat):aA:=[(2,aax l k),(1,tO t),(0,jI n z a)]
theorem acf {n:Nat} {z:Nat→Int} {a p m:Int}:aG T lE [] 60 og (before wT [1,1,1,0,1]) ⟨aM 0 [.ptr 0 0 2 0 [],.int .i64 p,.int .i64 m],[(0,jI n z a)],1⟩=
  let c2:Int:=(2:Int)^63;let c1:Int:=cy n (fun i↦int i64 (z i)) a (4:Int)-(2:Int);some (af [cB n (fun i↦int i64 (z i)) a,(0:Int)<(4:Int),(4:Int)<(2:Int)^62,-c2≤c1∧c1<c2,-c2≤c1,c1<c2,(0:Nat)<1] (leaf normal ([ptr 0 0 2 0 [],int i64 p,int i64 m,ptr 20481 0 3 0 [],nil,int i64 (0:Int)],[((20481:Nat),ah.mk false true 3 1 fun j↦if(j==0)=true then bh (rat (↑c1:Rat) (Max.max 1 (bp c1.natAbs)))else rat 0 1),((0:Nat),ah.mk false true 2 1 fun x↦agg [ag 1 n fun i↦int i64 (z i),int i64 (aR n a)])]))):=by kernel_rfl
theorem OE {n:Nat} {z:Nat→Int} {a p m:Int} {t:Rat}:aG T lE [18] 60 og [part wT [1,1,1,0,1,0,0]] ⟨aB og (Ab p m .nil 0),[(1,tO t),(0,jI n z a)],3⟩=
  let c3:AV:=ptr 1 0 3 0 [];let c2:AV:=ptr 0 0 2 0 [];let c1:List (Nat×ah):=[((1:Nat),ah.mk false true 3 1 fun x↦rat t 64),((0:Nat),ah.mk false true 2 1 fun x↦agg [ag 1 n fun i↦int i64 (z i),int i64 a])];some (fork (decide ((0:Int)≤p)) (af [(0:Nat)<1,(1:Nat)*3≤2^24,(0:Nat)<1∧1*((56:Nat)+1)*2≤2^47] (af [-(2:Int)^63≤(0:Int)+(1:Int)∧(0:Int)+(1:Int)<(2:Int)^63] (leaf normal ([c2,int i64 p,int i64 m,c3,own 24579 3 0 1,int i64 (1:Int)],((24579:Nat),ah.mk true true 3 1 fun i↦nth [rat t 64] (rat 0 1) (i+0))::c1)))) (leaf (exit 0) ([c2,int i64 p,int i64 m,c3,nil,int i64 (0:Int)],c1))):=by kernel_rfl
theorem Ra {n j:Nat} {z:Nat→Int} {a p m:Int} {t:Rat} {k:Nat→Rat}:aG T lE [18] 60 og [part wT [1,1,1,0,1,0,0]] ⟨aB og (Ab p m (.own 2 3 0 (j+1)) ((j+1:Nat):Int)),kT n z a t (j+1) k,3⟩=
  let c4:AV:=ptr 1 0 3 0 [];let c3:AV:=ptr 0 0 2 0 [];let c2:Nat:=j+1;let c1:List (Nat×ah):=[((1:Nat),ah.mk false true 3 1 fun x↦rat t 64),((0:Nat),ah.mk false true 2 1 fun x↦agg [ag 1 n fun i↦int i64 (z i),int i64 a])];let c7:Nat:=c2+1;let c6:Int:=(↑c2:Int);let c5:Int:=c6+(1:Int);some (fork (decide (c6≤p)) (af [(0:Nat)<1,(1:Nat)*3≤2^24,c7*((56:Nat)+1)*2≤2^47] (af [-(2:Int)^63≤c5∧c5<(2:Int)^63] (leaf normal ([c3,int i64 p,int i64 m,c4,own 24579 3 0 c7,int i64 c5],((24579:Nat),ah.mk true true 3 c7 fun i↦if i<c2 then rat (k i) 64 else nth [rat t 64] (rat 0 1) (i-c2+0))::c1)))) (leaf (exit 0) ([c3,int i64 p,int i64 m,c4,own 2 3 0 c2,int i64 c6],((2:Nat),ah.mk true true 3 c2 fun i↦rat (k i) 64)::c1))):=by kernel_rfl
theorem Yt {n j:Nat} {z:Nat→Int} {a p m:Int} {t:Rat} {k:Nat→Rat}:aG T lE [] 60 wO (before yG [0,1]) ⟨aB og (Ab p m (.own 2 3 0 (j+1)) ((j+1:Nat):Int)),kT n z a t (j+1) k,3⟩=
  let c1:Int:=m+(1:Int);some (af [-(2:Int)^63≤c1∧c1<(2:Int)^63,cB n (fun i↦int i64 (z i)) a,(0:Int)<c1,c1<(2:Int)^62] (leaf normal ([ptr 0 0 2 0 [],int i64 p,ptr 1 0 3 0 [],own 2 3 0 (j+1),int i64 (cy n (fun i↦int i64 (z i)) a c1)],[((2:Nat),ah.mk true true 3 (j+1) fun i↦rat (k i) 64),((1:Nat),ah.mk false true 3 1 fun x↦rat t 64),((0:Nat),ah.mk false true 2 1 fun x↦agg [ag 1 n fun i↦int i64 (z i),int i64 (aR n a)])]))):=by kernel_rfl
theorem adx {n l:Nat} {z:Nat→Int} {a p i:Int} {t:Rat} {k:Nat→Rat}:aG T lE [30,38,43,53] 60 wO [part yG [0,1,0,0]] ⟨aB wO (oV p l i),kT n z a t l k,3⟩=
  let c40:Int:=i-(1:Int);let c39:Nat:=64+64+1;let c35:AV:=rat t 64;let c34:AV:=rat 0 1;let c33:Int:=aR n a;let c31:Nat:=l+1;let c30:Prop:=(0:Int)<(3:Int);let c28:Prop:=cB n (fun i↦int i64 (z i)) a;let c27:Int:=(↑l:Int);let c25:AV:=ptr 1 0 3 0 [];let c24:AV:=ptr 0 0 2 0 [];let c23:Prop:=0<1;let c21:Int:=(2:Int)^62;let c20:AV:=ag 1 n fun i↦int i64 (z i);let c18:Int:=p+(1:Int);let c16:Prop:=64<2^41;let c7:Int:=cy n (fun i↦int i64 (z i)) a (3:Int);let c5:Int:=(2:Int)^63;let c43:Int:=aR n c33;let c41:Bool:=c27==c18;let c38:Prop:=cB n (fun i↦int i64 (z i)) c33;let c37:Prop:=(3:Int)<c21;let c32:Prop:=-c5≤c18∧c18<c5;let c29:Int:=(1:Int)+c7;let c26:Nat×ah:=((1:Nat),ah.mk false true 3 1 fun x↦c35);let c22:Bool:=bif false then true else decide (c7>(0:Int));let c19:List Prop:=[-c5≤c40∧c40<c5];let c17:Nat:=(c27-p).toNat+0;let c15:Nat×ah:=((106499:Nat),ah.mk true true 3 c31 fun i↦if i<l then rat (k i) 64 else nth [c35] c34 (i-l+0));let c13:List AV:=[c24,int i64 p,c25,own 147459 3 0 c31,int i64 c40];let c12:List AV:=[c24,int i64 p,c25,own 106499 3 0 c31,int i64 c40];let c10:Int:=(1:Int)+cy n (fun i↦int i64 (z i)) c33 (2:Int);let c9:Int:=(1:Int)+cy n (fun i↦int i64 (z i)) c33 (3:Int);let c6:List Prop:=[c23,(1:Nat)*3≤2^24,c31*((56:Nat)+1)*2≤2^47];let c42:Rat:=(↑c29:Rat)/(↑c10:Rat);let c36:Bool:=bif false then true else decide (t=k c17);let c14:List (Nat×ah):=[c26,((0:Nat),ah.mk false true 2 1 fun x↦agg [c20,int i64 a])];let c11:List Prop:=[c23,-c5≤c27-p∧c27-p<c5,(0:Int)≤c27-p∧(c27-p).toNat<l,c17<l,c16,c16];let c8:Int:=(1:Int)+cy n (fun i↦int i64 (z i)) c43 (2:Int);let c3:aa (List AV×aA):=af c6 (af c19 (leaf normal (c12,[c15,c26,((0:Nat),ah.mk false true 2 1 fun x↦agg [c20,int i64 c33])])));let c44:Rat:=(↑c9:Rat)/(↑c8:Rat);let c4:aa (List AV×aA):=af c6 (af c19 (leaf normal (c12,c15::c14)));let c2:aa (List AV×aA):=af [c23,c28,c30,c37,-c5≤c29∧c29<c5,c38,(0:Int)<(2:Int),(2:Int)<c21,-c5≤c10∧c10<c5,-c5≤c29,c29<c5,-c5≤c10,c10<c5,c16,c16,c23] (af c6 (af c19 (leaf normal (c13,[((147459:Nat),ah.mk true true 3 c31 fun i↦if i<l then rat (k i) 64 else nth [rat (t+c42) c39] c34 (i-l+0)),((1:Nat),ah.mk false true 3 1 fun j↦if(j==0)=true then bh (iw (t,(64:Nat)) (c42,(64:Nat)))else c35),((0:Nat),ah.mk false true 2 1 fun x↦agg [c20,int i64 c43])]))));let c1:aa (List AV×aA):=af [c23,c38,c30,c37,-c5≤c9∧c9<c5,cB n (fun i↦int i64 (z i)) c43,(0:Int)<(2:Int),(2:Int)<c21,-c5≤c8∧c8<c5,-c5≤c9,c9<c5,-c5≤c8,c8<c5,c16,c16,c23] (af c6 (af c19 (leaf normal (c13,[((147459:Nat),ah.mk true true 3 c31 fun i↦if i<l then rat (k i) 64 else nth [rat (t+c44) c39] c34 (i-l+0)),((1:Nat),ah.mk false true 3 1 fun j↦if(j==0)=true then bh (iw (t,(64:Nat)) (c44,(64:Nat)))else c35),((0:Nat),ah.mk false true 2 1 fun x↦agg [c20,int i64 (aR n c43)])]))));some (fork (decide (i>(0:Int))) (fork c41 (fork true (af [c32,c41=true,true=true] (fork true c2 c4)) (af (c32::(c41=true)::(true=false)::c11) (fork c36 c2 c4))) (fork c22 (af [c32,c41=false,c28,c30,c37,c22=true] (fork true c1 c3)) (af (c32::(c41=false)::c28::c30::c37::(c22=false)::c11) (fork c36 c1 c3)))) (leaf (exit 2) ([c24,int i64 p,c25,own 2 3 0 l,int i64 i],((2:Nat),ah.mk true true 3 l fun i↦rat (k i) 64)::c14))):=by kernel_rfl
theorem af7 {n l:Nat} {z:Nat→Int} {a p i:Int} {t:Rat} {k:Nat→Rat}:aG T lE [] 60 uf (before qZ [1,0,1]) ⟨aB wO (oV p l i),kT n z a t l k,3⟩=
  let c1:Nat:=Max.max 1 (bp (Int.natAbs (1:Int)));some (af [(0:Nat)<1,-(2:Int)^63≤(1:Int),(1:Int)<(2:Int)^63,(64:Nat)<2^41,c1<2^41,(0:Nat)<1] (leaf normal ([ptr 0 0 2 0 [],int i64 p,ptr 1 0 3 0 [],own 2 3 0 l,int i64 (0:Int)],[((2:Nat),ah.mk true true 3 l fun i↦rat (k i) 64),((1:Nat),ah.mk false true 3 1 fun j↦if(j==0)=true then bh (iw (t,(64:Nat)) ((↑(1:Int):Rat),c1))else rat t 64),((0:Nat),ah.mk false true 2 1 fun x↦agg [ag 1 n fun i↦int i64 (z i),int i64 a])]))):=by kernel_rfl
theorem Ys {n l:Nat} {z:Nat→Int} {a p i:Int} {t:Rat} {k:Nat→Rat}:aG T lE [72] 60 uf [part qZ [1,0,1,0,0]] ⟨aB uf (oV p l i),kT n z a t l k,3⟩=
  let c3:AV:=ptr 1 0 3 0 [];let c2:AV:=ptr 0 0 2 0 [];let c1:List (Nat×ah):=[((1:Nat),ah.mk false true 3 1 fun x↦rat t 64),((0:Nat),ah.mk false true 2 1 fun x↦agg [ag 1 n fun i↦int i64 (z i),int i64 a])];some (fork (decide (i≤p)) (af [(0:Nat)<1,(1:Nat)*3≤2^24,(l+1)*((56:Nat)+1)*2≤2^47] (af [-(2:Int)^63≤i+(1:Int)∧i+(1:Int)<(2:Int)^63] (leaf normal ([c2,int i64 p,c3,own 24579 3 0 (l+1),int i64 (i+(1:Int))],((24579:Nat),ah.mk true true 3 (l+1) fun i↦if i<l then rat (k i) 64 else nth [rat t 64] (rat 0 1) (i-l+0))::c1)))) (leaf (exit 4) ([c2,int i64 p,c3,own 2 3 0 l,int i64 i],((2:Nat),ah.mk true true 3 l fun i↦rat (k i) 64)::c1))):=by kernel_rfl
theorem Xx {n l:Nat} {z:Nat→Int} {a p i:Int} {t:Rat} {k:Nat→Rat}:zh T lE [] 60 uv [part qZ [1,1]] ⟨aB uf (oV p l i),kT n z a t l k,3⟩=
  some (leaf ret ([ag 3 l fun i↦rat (k (i+0)) 64],some (ah.mk false true 2 1 fun x↦agg [ag 1 n fun i↦int i64 (z i),int i64 a]))):=by kernel_rfl
structure rm where
 k:Nat→Rat
 t:Rat
 a:Int
def oc (n:Nat) (f:Nat→AV) (t:Rat) (a:Int):Rat:=t+((1+cy n f a 3:Int):Rat)/((1+cy n f (aR n a) 2:Int):Rat)
def nY (n:Nat) (f:Nat→AV) (p j:Nat) (s:rm):rm:=
 if j=0∨0<cy n f s.a 3∨s.t=s.k (j+1)then
  ⟨jJ s.k (p+1+j) (oc n f s.t (if j=0 then s.a else aR n s.a)),oc n f s.t (if j=0 then s.a else aR n s.a),aR n (aR n (if j=0 then s.a else aR n s.a))⟩
 else⟨jJ s.k (p+1+j) s.t,s.t,if j=0 then s.a else aR n s.a⟩
def nM (n:Nat) (f:Nat→AV) (p:Nat) (s0:rm):Nat→rm
 |0=>s0
 |j+1=>nY n f p j (nM n f p s0 j)
def mR (n:Nat) (f:Nat→AV) (a:Int):rm:=⟨fun _=>((cy n f a 4-2:Int):Rat),((cy n f a 4-2:Int):Rat),aR n (aR n a)⟩
def gv (n:Nat) (f:Nat→AV) (a:Int) (m:Nat):Nat:=(cy n f (aR n a) (m+1)).toNat
def BI (n:Nat) (f:Nat→AV) (a:Int) (p m:Nat):rm:=nM n f p (mR n f a) (gv n f a m)
def iD (n:Nat) (f:Nat→AV) (a:Int) (p m:Nat):Nat:=2*p+2+gv n f a m
def ki (n:Nat) (f:Nat→AV) (a:Int) (p m:Nat):Nat→Rat:=jS p (gv n f a m) (BI n f a p m).k (BI n f a p m).t
def eF (n:Nat) (f:Nat→AV) (a:Int) (p m:Nat):Int:=(BI n f a p m).a
theorem xA {n:Nat} {f:Nat→AV} {a:Int} {p:Nat} (hd:cB n f a) (hp:1≤p):∀j,KG p j (nM n f p (mR n f a) j).k (nM n f p (mR n f a) j).t∧cB n f (nM n f p (mR n f a) j).a
 |0=>by
  have h1:=g7 (n:=n) (f:=f) (a:=a) (m:=4) (by omega)
  have h2:=iz (n:=n) (f:=f) (a:=a) (m:=4) (by omega)
  exact⟨KG.start hp (by omega) (by omega),hd.next.next⟩
 |j+1=>by
  obtain⟨h1,h2⟩:=xA hd hp j
  unfold nM nY oc
  generalize nM n f p (mR n f a) j=s at*
  obtain⟨k,t,b⟩:=s
  simp only at h1 h2 ⊢
  have hb:cB n f (if j=0 then b else aR n b):=by split;exact h2;exact h2.next
  generalize (if j=0 then b else aR n b)=a1 at*
  split
  ·have x1:=g7 (n:=n) (f:=f) (a:=a1) (m:=3) (by omega)
   have x2:=iz (n:=n) (f:=f) (a:=a1) (m:=3) (by omega)
   have y1:=g7 (n:=n) (f:=f) (a:=aR n a1) (m:=2) (by omega)
   have y2:=iz (n:=n) (f:=f) (a:=aR n a1) (m:=2) (by omega)
   refine⟨h1.next (.inl ?_),hb.next.next⟩
   generalize cy n f a1 3=x at*
   generalize cy n f (aR n a1) 2=y at*
   have key:∃z:Int,((1+x:Int):Rat)/((1+y:Int):Rat)=(z:Rat)/2∧1≤z∧z≤6:=by
    rcases(show y=0∨y=1 by omega)with h|h
    ·subst h
     refine⟨2*(1+x),?_,by omega,by omega⟩
     have:((2*(1+x):Int):Rat)=2*((1+x:Int):Rat):=by simp
     rw[this]
     generalize ((1+x:Int):Rat)=w
     simp;grind
    ·subst h
     exact⟨1+x,by simp,by omega,by omega⟩
   obtain⟨z,e,z1,z2⟩:=key
   rw[e]
   refine⟨?_,z,rfl,z2⟩
   have:(1:Rat)≤(z:Rat):=by exact_mod_cast z1
   grind
  ·rename_i hc
   have hc1:¬j=0:=fun h=>hc (.inl h)
   have hc2:¬t=k (j+1):=fun h=>hc (.inr (.inr h))
   exact⟨h1.next (.inr ⟨rfl,by omega,hc2⟩),hb⟩
theorem HN {z:Int} (h1:-2^63≤z) (h2:z<2^63):Sz ((z:Rat)/2) 64:=by
 have:=Lj h1 h2 (y:=2) (by omega) (by omega) (by omega)
 simpa using this
theorem KG.sz {p j:Nat} {k:Nat→Rat} {t:Rat} (h:KG p j k t) (hj:j<2^50):Sz t 64:=by
 obtain⟨z,e,h1,h2⟩:=h.half (p+j) (Nat.le_refl _)
 rw[h.top]at e
 rw[e]
 exact HN (by omega) (by omega)
theorem VG {J j:Nat} (h:j<J):((J-j:Nat):Int)-1=((J-(j+1):Nat):Int):=by omega
theorem DZ {rl:List (Nat×Nat)} {l i:Nat} {k k':Nat→Rat} {t:Rat} {s:Nat} (hk:k'=jJ k l t) (ht:Sz t 64) (hi:i<l+1):gh rl (if i<l then .rat (k i) 64 else nth [.rat t s] (.rat 0 1) (i-l+0)) (.rat (k' i) 64):=by
 subst hk
 by_cases h:i<l
 ·rw[if_pos h,jX (by omega)];exact aK rfl rfl
 ·have:i=l:=by omega
  subst this
  rw[if_neg h,qG,Nat.sub_self]
  exact .inr ⟨rfl,fl rfl ht⟩
theorem zU:aW P lE:=cw (aD A6 (aD AM (aD r9 jV)))
theorem ac4 {k n p m:Nat} {z:Nat→Int} {a:Int} {o:ah} (ho:∀ρ,cD ρ o (jI n z a)) (h:cB n (fun i=>.int .i64 (z i)) a) (hp:1≤p) (hp2:p<1000) (hm2:m<1000) (K:Nat):
  az P td K [.ptr k 0 2 0 [],.int .i64 p,.int .i64 m] [(k,o)] ⟨bM (ki n (fun i=>.int .i64 (z i)) a p m) (iD n (fun i=>.int .i64 (z i)) a p m) 64,[(k,jI n z (eF n (fun i=>.int .i64 (z i)) a p m))],[]⟩:=by
 refine Jf hT JS rfl rfl (of_decide_eq_true (by kernel_rfl)) ho (fun _ c hk=>?_) K
 have a1:=g7 (n:=n) (f:=fun i=>.int .i64 (z i)) (a:=a) (m:=4) (by omega)
 have a2:=iz (n:=n) (f:=fun i=>.int .i64 (z i)) (a:=a) (m:=4) (by omega)
 have b1:=g7 (n:=n) (f:=fun i=>.int .i64 (z i)) (a:=aR n a) (m:=m+1) (by omega)
 have b2:=iz (n:=n) (f:=fun i=>.int .i64 (z i)) (a:=aR n a) (m:=m+1) (by omega)
 have hS:=xA h hp
 unfold eF ki iD BI at*
 obtain⟨J,hJ⟩:∃J,J=gv n (fun i=>.int .i64 (z i)) a m:=⟨_,rfl⟩
 have hJ2:cy n (fun i=>.int .i64 (z i)) (aR n a) (m+1)=(J:Int):=by rw[hJ];unfold gv;omega
 rw[←hJ]at*
 have hJ3:J<1000:=by omega
 obtain⟨S,hSd⟩:∃S,S=nM n (fun i=>.int .i64 (z i)) p (mR n (fun i=>.int .i64 (z i)) a):=⟨_,rfl⟩
 have h00:S 0=mR n (fun i=>.int .i64 (z i)) a:=by rw[hSd];rfl
 have hS1:∀j,S (j+1)=nY n (fun i=>.int .i64 (z i)) p j (S j):=fun j=>by rw[hSd];rfl
 rw[←hSd]at hS ⊢
 clear hSd hJ
 obtain⟨t0,ht0⟩:∃t0:Rat,t0=((cy n (fun i=>.int .i64 (z i)) a 4-2:Int):Rat):=⟨_,rfl⟩
 unfold mR at h00
 rw[←ht0]at h00
 have hs0:Sz t0 64:=by have:=(hS 0).1.sz (by omega);rw[h00]at this;exact this
 refine ak.jv hT zU hm [1,1,1,0,1] (i:=0) (y:=part wT [1,1,1,0,1,0,0]) (z:=yG) (by kernel_rfl) (by kernel_rfl) (by kernel_rfl) JS.dst hk (f1:=[]) (f2:=[18]) 60 og 3
  (fun j:Nat=>Ab p m (match j with
   |0=>.nil
   |_+1=>.own 2 3 0 j) j) (fun j=>match j with
   |0=>[(1,tO t0),(0,jI n z (aR n a))]
   |_+1=>kT n z (aR n a) t0 j (fun _=>t0)) (fun j=>j≤p+1) (fun j=>j=p+1) (fun j=>p+1-j) (fun _=>False) ⟨_,acf,?_⟩ (fun j hj=>?_) (fun j hj=>?_) (fun _ _ h=>h.elim)
 ·simp only[aa.all,ax]
  refine⟨⟨h,by omega,by omega,by omega,by omega,by omega,by omega⟩,0,by omega,[(0,0),(1,20481)],rfl,rfl,rfl,aN rfl rfl (.inr ⟨rfl,?_⟩) (aN rfl rfl (aK rfl rfl) trivial)⟩
  rw[←ht0]
  exact fl rfl hs0
 ·cases j with
  |zero=>
   refine⟨_,OE,?_⟩
   simp only[aa.all,ax,decide_eq_true_eq,decide_eq_false_iff_not]
   refine⟨fun _=>⟨by omega,by omega,1,by omega,by dsimp only;omega,[(0,0),(1,1),(2,24579)],rfl,rfl,rfl,bq rfl rfl rfl (fun i hi=>?_) (aN rfl rfl (aK rfl rfl) (aN rfl rfl (aK rfl rfl) trivial))⟩,fun h=>by omega⟩
   have:i=0:=by omega
   subst this
   exact aK rfl rfl
  |succ j=>
   refine⟨_,Ra,?_⟩
   simp only[aa.all,ax,decide_eq_true_eq,decide_eq_false_iff_not]
   refine⟨fun _=>⟨by omega,by omega,j+2,by omega,by dsimp only;omega,[(0,0),(1,1),(2,24579)],rfl,rfl,rfl,bq rfl rfl rfl (fun i hi=>DZ (by funext i;unfold jJ;split<;>rfl) hs0 hi) (aN rfl rfl (aK rfl rfl) (aN rfl rfl (aK rfl rfl) trivial))⟩,
    fun _=>⟨rfl,j+1,by omega,[(0,0),(1,1),(2,2)],rfl,rfl,rfl,bq rfl rfl rfl (fun i hi=>aK rfl rfl) (aN rfl rfl (aK rfl rfl) (aN rfl rfl (aK rfl rfl) trivial))⟩⟩
 subst hj
 refine ak.jv hT zU hm [0,1] (i:=2) (y:=part yG [0,1,0,0]) (z:=qZ) (by kernel_rfl) (by kernel_rfl) (by kernel_rfl) (by kernel_rfl) hk (f1:=[]) (f2:=[30,38,43,53]) 60 wO 3
  (fun j:Nat=>oV p (p+1+j) ((J-j:Nat):Int)) (fun j=>kT n z (S j).a (S j).t (p+1+j) (S j).k) (fun j=>j≤J) (fun j=>j=J) (fun j=>J-j) (fun _=>False) ⟨_,Yt,?_⟩ (fun j hj=>?_) (fun j hj=>?_) (fun _ _ h=>h.elim)
 ·simp only[aa.all,ax]
  rw[hJ2]
  refine⟨⟨by omega,h.next,by omega,by omega⟩,0,by omega,[(0,0),(1,1),(2,2)],rfl,rfl,rfl,?_⟩
  dsimp only
  rw[h00]
  exact bq rfl rfl rfl (fun i hi=>aK rfl rfl) (aN rfl rfl (aK rfl rfl) (aN rfl rfl (aK rfl rfl) trivial))
 ·refine⟨_,adx,?_⟩
  have hj1:=hS1 j
  obtain⟨hg,hd⟩:=hS j
  have hs1:∀{j},j<2000→Sz (S j).t 64:=fun hj=>(hS _).1.sz (by omega)
  have hsj:=hs1 (j:=j) (by omega)
  have hsj1:=hs1 (j:=j+1) (by omega)
  have e1:(((p+1+j:Nat):Int)-(p:Int)).toNat+0=j+1:=by omega
  simp only[aa.all,ax,decide_eq_true_eq,decide_eq_false_iff_not,beq_iff_eq,beq_eq_false_iff_ne,e1,cond_false]
  have v3:=fun a=>And.intro (g7 (n:=n) (f:=fun i=>.int .i64 (z i)) (a:=a) (m:=3) (by omega)) (iz (n:=n) (f:=fun i=>.int .i64 (z i)) (a:=a) (m:=3) (by omega))
  have v2:=fun a=>And.intro (g7 (n:=n) (f:=fun i=>.int .i64 (z i)) (a:=a) (m:=2) (by omega)) (iz (n:=n) (f:=fun i=>.int .i64 (z i)) (a:=a) (m:=2) (by omega))
  have q1:=v3 (S j).a
  have q2:=v3 (aR n (S j).a)
  have q3:=v2 (aR n (S j).a)
  have q4:=v2 (aR n (aR n (S j).a))
  refine⟨fun hi=>?_,fun hi=>⟨rfl,j,by omega,[(0,0),(1,1),(2,2)],rfl,rfl,rfl,bq rfl rfl rfl (fun i hi=>aK rfl rfl) (aN rfl rfl (aK rfl rfl) (aN rfl rfl (aK rfl rfl) trivial))⟩⟩
  have hlt:j<J:=by omega
  have fin:∀(key:Nat) (t:Rat) (s s2:Nat) (b:Int) (g:Nat→AV),S (j+1)=⟨jJ (S j).k (p+1+j) t,t,b⟩→g 0=.rat t s2→(gL 3 [(0,0),(1,1),(2,key)])=true→(key==1)=false→(key==0)=false→
    Round [0] (fun j=>oV p (p+1+j) ((J-j:Nat):Int)) (fun j=>kT n z (S j).a (S j).t (p+1+j) (S j).k) 3 (fun j=>j≤J) (fun j=>j=J) (fun j=>J-j) 2 (fun _=>False) j normal
     ([ptr 0 0 2 0 [],int i64 p,ptr 1 0 3 0 [],own key 3 0 (p+1+j+1),int i64 (((J-j:Nat):Int)-1)],[(key,⟨true,true,3,p+1+j+1,fun i=>if i<p+1+j then .rat ((S j).k i) 64 else nth [.rat t s] (.rat 0 1) (i-(p+1+j)+0)⟩),(1,⟨false,true,3,1,g⟩),(0,jI n z b)]):=by
   intro key t s s2 b g e1 e2 e3 hk1 hk0
   rw[e1]at hsj1
   refine⟨j+1,by omega,by dsimp only;omega,[(0,0),(1,1),(2,key)],by rw[e3];rfl,by rw[VG hlt];rfl,rfl,?_⟩
   dsimp only
   rw[e1]
   exact bq rfl Jd rfl (fun i hi=>DZ rfl hsj1 hi) (aN rfl ((Je hk1).trans rfl) (.inr ⟨by rw[e2];rfl,by rw[e2];exact fl rfl hsj1⟩) (aN rfl ((Je hk0).trans rfl) (aK rfl rfl) trivial))
  refine⟨fun hl=>?_,fun hl=>⟨fun hc=>?_,fun hc=>?_⟩⟩
  all_goals (repeat' with_reducible first|refine And.intro ?_ ?_|intro _)
  all_goals first|omega|exact hd|exact hd.next|exact hd.next.next|skip
  all_goals try exact absurd ‹true=false› (by decide)
  ·refine fin 147459 _ _ _ _ _ ?_ rfl rfl rfl rfl
   rw[hj1];unfold nY oc
   have hj0:j=0:=by omega
   rw[if_pos (.inl hj0),if_pos hj0]
  ·refine fin 147459 _ _ _ _ _ ?_ rfl rfl rfl rfl
   rw[hj1];unfold nY oc
   have hj0:j≠0:=by omega
   rw[if_pos (.inr (.inl hc)),if_neg hj0]
  ·refine fin 147459 _ _ _ _ _ ?_ rfl rfl rfl rfl
   rw[hj1];unfold nY oc
   have hj0:j≠0:=by omega
   rename_i hk
   rw[if_pos (.inr (.inr hk)),if_neg hj0]
  ·refine fin 106499 _ _ _ _ _ ?_ rfl rfl rfl rfl
   rw[hj1];unfold nY oc
   have hj0:j≠0:=by omega
   rename_i hk
   rw[if_neg (by simp only[hj0,hk,or_false,false_or];omega),if_neg hj0]
 subst hj
 have hs1:Sz ((S j).t+1) 64:=by
  obtain⟨z,e,h1,h2⟩:=(hS j).1.Vg (p+1+j)
  unfold jS at e
  rw[if_neg (by omega)]at e
  rw[e];exact HN (by omega) (by omega)
 refine ak.jv hT zU hm [1,0,1] (i:=4) (y:=part qZ [1,0,1,0,0]) (z:=part qZ [1,1]) (by kernel_rfl) (by kernel_rfl) (by kernel_rfl) (by kernel_rfl) hk (f1:=[]) (f2:=[72]) 60 uf 3
  (fun i:Nat=>oV p (p+1+j+i) i) (fun i=>kT n z (S j).a ((S j).t+1) (p+1+j+i) (jS p j (S j).k (S j).t)) (fun i=>i≤p+1) (fun i=>i=p+1) (fun i=>p+1-i) (fun _=>False) ⟨_,af7,?_⟩ (fun i hi=>?_) (fun i hi=>?_) (fun _ _ h=>h.elim)
 ·simp only[aa.all,ax]
  refine⟨⟨by omega,by omega,by omega,by omega,by decide,by omega⟩,0,by omega,[(0,0),(1,1),(2,2)],rfl,rfl,rfl,bq rfl rfl rfl (fun i hi=>?_) (aN rfl rfl (.inr ⟨rfl,fl rfl hs1⟩) (aN rfl rfl (aK rfl rfl) trivial))⟩
  refine aK rfl ?_
  unfold jS
  rw[if_pos (by omega)]
 ·refine⟨_,Ys,?_⟩
  simp only[aa.all,ax,decide_eq_true_eq,decide_eq_false_iff_not]
  refine⟨fun _=>⟨by omega,by omega,i+1,by omega,by dsimp only;omega,[(0,0),(1,1),(2,24579)],rfl,rfl,rfl,bq rfl rfl rfl (fun i hi=>DZ ?_ hs1 hi) (aN rfl rfl (aK rfl rfl) (aN rfl rfl (aK rfl rfl) trivial))⟩,
   fun _=>⟨rfl,i,by omega,[(0,0),(1,1),(2,2)],rfl,rfl,rfl,bq rfl rfl rfl (fun i hi=>aK rfl rfl) (aN rfl rfl (aK rfl rfl) (aN rfl rfl (aK rfl rfl) trivial))⟩⟩
  funext x
  unfold jJ jS
  split
  ·rename_i hx;rw[if_neg (by omega)]
  ·split<;>rfl
 ·subst hi
  refine ak.gz (aC.K1 hT zU hm 60 Xx (by kernel_rfl) ⟨?_,_,rfl,rfl,lC rfl rfl⟩)
  exact uR (by omega) fun _ _=>rfl
def Ea (n:Nat) (f:Nat→AV) (a:Int) (l:List AV):Option (AV×Int×List Prop):=match l with
 |[.int .i64 p,.int .i64 m]=>some (bM (ki n f a p.toNat m.toNat) (iD n f a p.toNat m.toNat) 64,eF n f a p.toNat m.toNat,[1≤p,p<1000,0≤m,m<1000])
 |_=>none
theorem Qz:∀K args pre r,gA Ea K args pre=some r→az P td K args pre r:=by
 refine qn fun {k n z a l v b q o} K hg ho hd hq=>?_
 unfold Ea at hg
 split at hg
 ·rename_i p m
  simp only[Option.some.injEq,Prod.mk.injEq]at hg
  obtain⟨rfl,rfl,rfl⟩:=hg
  obtain⟨h1,h2,h3,h4⟩:=hq
  have h4:m<1000:=h4
  have:=ac4 (k:=k) (p:=p.toNat) (m:=m.toNat) ho hd (by omega) (by omega) (by omega) K
  rw[Int.toNat_of_nonneg (by omega),Int.toNat_of_nonneg h3]at this
  exact this
 ·simp at hg
end Go.Am.B

/- brepkernelmade: Number. -/
namespace Go.Am.B
open Go Go.Am.N AV
end Go.Am.B

/- law09: made, at. -/
namespace Go.Am.B
open Go Go.Am.N AV aa aj IntKind
end Go.Am.B

/- ref02.Text of a few numbers; law09.awake. -/
namespace Go.Am.B
open Go Go.Am.N AV aa aj IntKind
def r7:aS:=[sG,(p6,Cv)]
def Ls:Spec:=bA fun l=>match l with
 |[.mag 1]=>some (aF (.str [49]) [])
 |[.mag 2]=>some (aF (.str [50]) [])
 |[.mag 3]=>some (aF (.str [51]) [])
 |[.mag 4]=>some (aF (.str [52]) [])
 |_=>none
def zV:aS:=[sG,(yJ,Ls)]
theorem YZ:bu T r7 [] 60 jn (aq jn) ⟨aM 0 [.mag 1],[],0⟩=
  let c1:Int:=(↑(1:Nat):Int);some (af [nl 1<2^40,(0:Int)<(1000000000:Int),(1000000000:Int)<(2:Int)^32] (af [(10:Int)≠(0:Int),(0:Nat)<1∧1*((1:Nat)+1)*2≤2^47] (af [(10:Int)≠(0:Int)] (af [(0:Int)≤c1∧c1≤c1∧c1≤(2:Int)^47∧c1*c1≤(2:Int)^47] (leaf ret [str [UInt8.ofNat (u8.wrap (u32.wrap ((48:Int)+(↑((1:Nat)%Int.toNat (1000000000:Int)):Int).tmod (10:Int)))).toNat]]))))):=by kernel_rfl
theorem TV:bu T r7 [] 60 jn (aq jn) ⟨aM 0 [.mag 2],[],0⟩=
  let c1:Int:=(↑(1:Nat):Int);some (af [nl 2<2^40,(0:Int)<(1000000000:Int),(1000000000:Int)<(2:Int)^32] (af [(10:Int)≠(0:Int),(0:Nat)<1∧1*((1:Nat)+1)*2≤2^47] (af [(10:Int)≠(0:Int)] (af [(0:Int)≤c1∧c1≤c1∧c1≤(2:Int)^47∧c1*c1≤(2:Int)^47] (leaf ret [str [UInt8.ofNat (u8.wrap (u32.wrap ((48:Int)+(↑((2:Nat)%Int.toNat (1000000000:Int)):Int).tmod (10:Int)))).toNat]]))))):=by kernel_rfl
theorem VC:bu T r7 [] 60 jn (aq jn) ⟨aM 0 [.mag 3],[],0⟩=
  let c1:Int:=(↑(1:Nat):Int);some (af [nl 3<2^40,(0:Int)<(1000000000:Int),(1000000000:Int)<(2:Int)^32] (af [(10:Int)≠(0:Int),(0:Nat)<1∧1*((1:Nat)+1)*2≤2^47] (af [(10:Int)≠(0:Int)] (af [(0:Int)≤c1∧c1≤c1∧c1≤(2:Int)^47∧c1*c1≤(2:Int)^47] (leaf ret [str [UInt8.ofNat (u8.wrap (u32.wrap ((48:Int)+(↑((3:Nat)%Int.toNat (1000000000:Int)):Int).tmod (10:Int)))).toNat]]))))):=by kernel_rfl
theorem aa8:bu T r7 [] 60 jn (aq jn) ⟨aM 0 [.mag 4],[],0⟩=
  let c1:Int:=(↑(1:Nat):Int);some (af [nl 4<2^40,(0:Int)<(1000000000:Int),(1000000000:Int)<(2:Int)^32] (af [(10:Int)≠(0:Int),(0:Nat)<1∧1*((1:Nat)+1)*2≤2^47] (af [(10:Int)≠(0:Int)] (af [(0:Int)≤c1∧c1≤c1∧c1≤(2:Int)^47∧c1*c1≤(2:Int)^47] (leaf ret [str [UInt8.ofNat (u8.wrap (u32.wrap ((48:Int)+(↑((4:Nat)%Int.toNat (1000000000:Int)):Int).tmod (10:Int)))).toNat]]))))):=by kernel_rfl
theorem afx:bu T zV [] 60 lD (aq lD) ⟨aM 0 [.agg [.bool false,.mag 1,.mag 4]],[],0⟩=
  some (leaf ret [str [(49:UInt8),(47:UInt8),(52:UInt8)]]):=by kernel_rfl
theorem YD:aW P r7:=ji (aD K7 aX)
theorem adn:∀K args pre r,Ls K args pre=some r→az P yJ K args pre r:=by
 refine bS fun K args r hk hs _=>?_
 have fin:∀{N:Nat} {t:aa (List AV)} {l:List UInt8},bu T r7 [] 60 jn (aq jn) ⟨aM 0 [.mag N],[],0⟩=some t→(t.all fun _ us=>dK us (.str l))→az P yJ K [.mag N] [] (aF (.str l) []):=fun h1 h2=>
  bC (r:=aF _ []) hT YD hm afm rfl (of_decide_eq_true (by kernel_rfl)) rfl 60 h1 (fun _=>h2) K []
 split at hs<;>simp only[Option.some.injEq,reduceCtorEq]at hs
 all_goals subst hs
 ·exact fin YZ (by simp only[aa.all,ax];exact⟨by decide,by decide,by decide,by decide,.refl _⟩)
 ·exact fin TV (by simp only[aa.all,ax];exact⟨by decide,by decide,by decide,by decide,.refl _⟩)
 ·exact fin VC (by simp only[aa.all,ax];exact⟨by decide,by decide,by decide,by decide,.refl _⟩)
 ·exact fin aa8 (by simp only[aa.all,ax];exact⟨by decide,by decide,by decide,by decide,.refl _⟩)
theorem aeI:aW P zV:=ji (aD adn aX)
theorem Kn.congr {n p:Nat} {k k':Nat→Rat} (h:Kn n p k) (e:∀i,i<n→k i=k' i):Kn n p k':=by
 have hp:=h.p1
 have hl:=h.len
 refine⟨h.p1,h.len,fun i hi=>?_,fun i hi=>?_,fun i h1 h2=>?_,fun i h1 h2=>?_⟩
 ·rw[←e i (by omega),←e (i+1) hi];exact h.sorted i hi
 ·rw[←e i (by omega),←e 0 (by omega)];exact h.first i hi
 ·rw[←e i h2,←e (n-1) (by omega)];exact h.last i h1 h2
 ·rw[←e i (by omega),←e (i+p) (by omega)];exact h.mult i h1 h2
end Go.Am.B

/- shapes, vector, ref14: by the evaluator; law14.awake. -/
namespace Go.Am.B
open Go Go.Am.N AV aa aj IntKind
end Go.Am.B

/- law10.awake. -/
namespace Go.Am.B
open Go Go.Am.N AV aa aj IntKind
end Go.Am.B

/- brepkernelmade: pole, Curve. -/
namespace Go.Am.B
open Go Go.Am.N AV aa aj IntKind
theorem abi:aO P AE tU (aq tU):=aP Rv (by kernel_rfl) (by kernel_rfl) (by kernel_rfl)
def Jy:aS:=[(mI,gA r6),(Aq,gA Ec),(jE,yS)]
def mq (n:Nat) (f:Nat→AV) (a:Int) (b:Bool):Pl:=⟨⟨gr n f a,gr n f (fB n f a),if b=true then 0 else gr n f (fB n f (fB n f a))⟩,((1+cy n f (j9 n f a) 3:Int):Rat)⟩
def ED (n:Nat) (f:Nat→AV) (a:Int):Int:=aR n (j9 n f a)
def DR (n:Nat) (f:Nat→AV) (a:Int) (l:List AV):Option (AV×Int×List Prop):=match l with
 |[.bool b]=>some (bN (mq n f a b) 64,ED n f a,[])
 |_=>none
theorem Rx {n:Nat} {z:Nat→Int} {a:Int} {b:Bool}:qH T Jy [8] 60 tU (aq tU) ⟨aM 0 [.ptr 0 0 2 0 [],.bool b],[(0,jI n z a)],1⟩=
  let c9:Int:=fB n (fun i↦int i64 (z i)) a;let c8:AV:=rat (gr n (fun i↦int i64 (z i)) a) 64;let c6:Int:=j9 n (fun i↦int i64 (z i)) a;let c4:Prop:=0<1;let c5:AV:=rat (gr n (fun i↦int i64 (z i)) c9) 64;let c3:Option ah:=some (ah.mk false true 2 1 fun x↦agg [ag 1 n fun i↦int i64 (z i),int i64 (aR n c6)]);let c1:Int:=i64.wrap ((1:Int)+(cy n (fun i↦int i64 (z i)) c6 (3:Int)).tmod (3:Int));let c7:AV:=rat (↑c1:Rat) (Max.max 1 (bp c1.natAbs));let c2:List Prop:=[c4,cB n (fun i↦int i64 (z i)) c6,(0:Int)<(3:Int),(3:Int)<(2:Int)^62,(3:Int)≠(0:Int),-(2:Int)^63≤c1,c1<(2:Int)^63,c4];some (af [cB n (fun i↦int i64 (z i)) a,c4] (fork b (af [(0:Int)≤(2:Int)∧(2:Int)<(↑(3:Nat):Int),c4] (af c2 (af [c4] (leaf ret ([agg [agg [c8,c5,agg [AV.bool false,mag 0,mag 0]],c7]],c3))))) (af c2 (af [c4] (leaf ret ([agg [agg [c8,c5,rat (gr n (fun i↦int i64 (z i)) (fB n (fun i↦int i64 (z i)) c9)) 64],c7]],c3)))))):=by kernel_rfl
theorem abk:aW P Jy:=aD A6 (aD WB (aD AM aX))
theorem V7:∀K args pre r,gA DR K args pre=some r→az P AE K args pre r:=by
 refine qn fun {k n z a l v b q o} K hg ho hd hq=>?_
 unfold DR at hg
 split at hg
 ·rename_i b
  simp only[Option.some.injEq,Prod.mk.injEq]at hg
  obtain⟨rfl,rfl,rfl⟩:=hg
  refine A7 hT abk hm abi rfl rfl (of_decide_eq_true (by kernel_rfl)) ho 60 Rx (fun _=>?_) K
  have a1:=g7 (n:=n) (f:=fun i=>.int .i64 (z i)) (a:=j9 n (fun i=>.int .i64 (z i)) a) (m:=3) (by omega)
  have a2:=iz (n:=n) (f:=fun i=>.int .i64 (z i)) (a:=j9 n (fun i=>.int .i64 (z i)) a) (m:=3) (by omega)
  unfold mq
  generalize cy n (fun i=>.int .i64 (z i)) (j9 n (fun i=>.int .i64 (z i)) a) 3=x at*
  have e1:x.tmod 3=x:=by rw[Int.tmod_eq_of_lt a1 a2]
  have e2:i64.wrap (1+x)=1+x:=wrap_i64 (by omega) (by omega)
  simp only[aa.all,ax,e1,e2]
  have hw:bz (.rat ((1+x:Int):Rat) (max 1 (bp (1+x).natAbs))) (.rat ((1+x:Int):Rat) 64):=fl rfl (Fv (y:=0) (by omega) (by omega))
  refine⟨⟨hd,by omega⟩,fun hb=>⟨by omega,⟨by omega,hd.DX,by omega,by omega,by omega,by omega,by omega,by omega⟩,by omega,?_,_,rfl,rfl,lC rfl rfl⟩,fun hb=>⟨⟨by omega,hd.DX,by omega,by omega,by omega,by omega,by omega,by omega⟩,by omega,?_,_,rfl,rfl,lC rfl rfl⟩⟩
  ·rw[if_pos hb]
   exact cF ⟨cF ⟨.refl _,.refl _,oG (q:=(0:Rat)) ⟨by decide,by decide⟩ rfl rfl rfl,trivial⟩,hw,trivial⟩
  ·rw[if_neg (by rw[hb];decide)]
   exact cF ⟨.refl _,hw,trivial⟩
 ·simp at hg
def gP (n:Nat) (f:Nat→AV) (a:Int):Nat→Int
 |0=>a
 |j+1=>ED n f (gP n f a j)
theorem cB.wC {n:Nat} {f:Nat→AV} {a:Int} (h:cB n f a):∀j,cB n f (gP n f a j)
 |0=>h
 |j+1=>(h.wC j).DX.next
theorem cB.fG {n:Nat} {f:Nat→AV} {a:Int} {p m:Nat} (h:cB n f a) (hp:1≤p):cB n f (eF n f a p m):=(xA h hp _).2
theorem zE {n:Nat} {f:Nat→AV} {a:Int} {m:Nat}:gv n f a m≤m:=by
 have h1:=g7 (n:=n) (f:=f) (a:=aR n a) (m:=m+1) (by omega)
 have h2:=iz (n:=n) (f:=f) (a:=aR n a) (m:=m+1) (by omega)
 unfold gv;omega
end Go.Am.B
