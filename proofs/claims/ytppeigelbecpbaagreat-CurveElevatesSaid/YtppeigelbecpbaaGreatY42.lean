/- ref10. -/
import Derived.Test.YtppeigelbecpbaaGreatY41
import Derived.Test.YtppeigelbecpbaaGreatY38
import Derived.Test.YtppeigelbecpbaaGreatY39
import Derived.Test.YtppeigelbecpbaaGreatY40
import Derived.Test.YtppeigelbecpbaaGreatY37
set_option linter.unusedVariables false
noncomputable section
namespace Go.Am.B
open Go Go.Am.N AV ah au IntKind
theorem Qi:aT P xE l7 (aA l7):=aY Proofs.Tryz.func42 ag ag ag
def OX:Spec:=cN (kC (yF bZ) kN) (fun a=>.agg [vA (oU a.1) (bZ+bZ+1),.rat a.1.d bZ]) fun _=>[]
def gT:bg:=nG::(F6,pF)::(CL,Nk)::(AN,r5)::(s4,zS)::(BN,Qu)::(vN,OX)::nI
abbrev y8:Code:=aA l7
abbrev wh:Code:=part y8 [1,1,1,1,1]
abbrev pZ:Code:=part wh [1,1,1,0,1,0,0]
abbrev rB:Code:=part pZ [1,0,0]
abbrev rM:Code:=part rB [1,1]
abbrev ri:Code:=part rM [1,1,0,1,0,0]
abbrev qK:Code:=part ri [1,0,0]
abbrev nU:Code:=part qK [1,1]
abbrev x7:List Nat:=[1,2,3,4,5,6]
abbrev ud (q:Int) (i:Nat):List AV:=[.ptr 0 0 3 0 [],.ptr 1 0 3 0 [],.int .i64 0,.int .i64 q,.ptr 2 0 3 0 [],.int .i64 i]
abbrev rZ (c:Cu) (q:Int) (m:Nat) (F:Nat->Rat):aF:=[(3,oH 2000 m F),(2,⟨false,true,3,1,fun _=>.agg [.int .i64 q,.own 3 3 0 m,.nil]⟩),(1,tT),(0,⟨false,true,3,1,fun _=>aS c 2000 2000⟩)]
abbrev j6:List Nat:=[1,2,3,4,5,7,8,9]
abbrev nK (q:Int) (M j:Nat):List AV:=[.ptr 0 0 3 0 [],.ptr 1 0 3 0 [],.int .i64 0,.int .i64 q,.ptr 2 0 3 0 [],.int .i64 M,.ptr 4 0 4 0 [],.int .i64 j]
abbrev iX (c:Cu):AV:=.agg [bq (cq c 0) c.m 4000,bq (cq c 1) c.m 4000,bq (cq c 2) c.m 4000,bq (cq c 3) c.m 4000]
abbrev eo (c:Cu) (q:Int) (m:Nat) (F:Nat->Rat) (j:Nat) (G:Nat->Pl):aF:=[(5,⟨true,true,12,j,fun i=>bE (G i) (bZ+bZ+1)⟩),(4,⟨false,true,4,1,fun _=>iX c⟩),(3,⟨true,false,3,m,fun i=>.rat (F i) 2000⟩),(2,⟨false,true,3,1,fun _=>.agg [.int .i64 q,.own 3 3 0 m,.own 5 12 0 j]⟩),(1,tT),(0,⟨false,true,3,1,fun _=>aS c 2000 2000⟩)]
abbrev z7:List Nat:=[1,2,3,4,5,7,8,9,10]
abbrev JW (q:Int) (M j i:Nat):List AV:=[.ptr 0 0 3 0 [],.ptr 1 0 3 0 [],.int .i64 0,.int .i64 q,.ptr 2 0 3 0 [],.int .i64 M,.ptr 4 0 4 0 [],.int .i64 j,.int .i64 i]
abbrev mu:List Nat:=[1,2,3,4,5,7,8,9,11,13,14]
abbrev nM (q:Int) (M j a b:Nat):List AV:=[.ptr 0 0 3 0 [],.ptr 1 0 3 0 [],.int .i64 0,.int .i64 q,.ptr 2 0 3 0 [],.int .i64 M,.ptr 4 0 4 0 [],.int .i64 j,.int .i64 a,.ptr 6 0 12 0 [],.int .i64 b]
abbrev Al:List Nat:=[1,2,3,4,5,7,8,9,11,13,14,15,16]
abbrev k7 (q:Int) (M j a b u x:Nat):List AV:=[.ptr 0 0 3 0 [],.ptr 1 0 3 0 [],.int .i64 0,.int .i64 q,.ptr 2 0 3 0 [],.int .i64 M,.ptr 4 0 4 0 [],.int .i64 j,.int .i64 a,.ptr 6 0 12 0 [],.int .i64 b,.own 7 3 0 u,.int .i64 x]
abbrev vw (S:Pl) (w u:Nat) (A:Nat->Rat):aF:=[(7,oH 2000 u A),(6,eB S w)]
abbrev lp:List Nat:=[1,2,3,4,5,7,8,9,11,13,14,15,17]
abbrev sk (S x:Pl) (f:Rat) (w u k:Nat) (A:Nat->Rat):aF:=[(7,⟨true,k==0,3,u,fun i=>.rat (A i) 2000⟩),(6,⟨false,true,12,1,fun _=>iP S x f w k⟩)]
theorem Ws {c:Cu}:aH T gT [20] 60 x7 (before y8 [1,1,1,1,0,1]) ⟨aQ 0 [aS c 2000 2000],[],0⟩=
  let c8:AV:=int i64 0;let c7:Int:=c.p+(1:Int);let c5:AV:=ptr 4096 0 3 0 [];let c4:Prop:=0<1;let c3:Nat:=(aV (aS c 2000 2000)).size;let c6:AV:=ptr 0 0 c3 0 [];let c2:AV:=agg [c8,nil,nil];let c1:List (Nat×ak):=[(0,ak.mk false true c3 1 fun x=>aS c 2000 2000)];some (aj [c4] (fork (decide (c.p>=(6:Int))) (aj [c4] (leaf ret ([c6,c5,int i64 7,tuple [],tuple [],tuple []],((4096:Nat),aJ fun j=>if(j==0)=true then aV (agg c2.kids)else c2)::c1))) (aj [c4,-(2:Int)^63<=c7/\c7<(2:Int)^63] (aj [c4] (leaf normal ([c6,c5,c8,int i64 c7,ptr 49152 0 3 0 [],c8],((49152:Nat),aJ fun j=>if(j==0)=true then aV (agg (c2.kids.set 0 (aV (int i64 c7))))else c2)::((4096:Nat),aJ fun x=>c2)::c1)))))):=ag
theorem ad7 {c:Cu} {i m:Nat} {q:Int} {F:Nat->Rat}:aH T gT [31,36,50] 60 x7 [part y8 [1,1,1,1,0,1,0,0]] ⟨aC x7 (ud q i),rZ c q m F,4⟩=
  let c22:AV:=int i64 0;let c21:Prop:=2000<2^41;let c20:AV:=rat 0 1;let c19:Prop:=1*3<=2^24;let c18:AV:=ptr 2 0 3 0 [];let c17:AV:=ptr 1 0 3 0 [];let c15:AV:=ptr 0 0 3 0 [];let c11:Nat:=m+1;let c10:Int:=(2:Int)^63;let c9:Prop:=0<1;let c8:Int:=(↑i:Int);let c6:AV:=agg [int i64 q,own 3 3 0 m,nil];let c24:Bool:=c8==(0:Int);let c23:Nat:=c11+1;let c16:Int:=c8+(1:Int);let c14:Int:=c8-(1:Int);let c13:Prop:=(0:Int)<=c8/\c8.toNat<c.n;let c12:AV:=rat (c.k c8.toNat) 2000;let c4:AV:=agg (c6.kids.set 1 (aV (own (nat_lit 122883+1) 3 0 c11)));let c3:List (Nat×ak):=[((1:Nat),aJ fun x=>agg [c22,nil,nil]),((0:Nat),aJ fun x=>aS c 2000 2000)];let c7:List AV:=[c15,c17,c22,int i64 q,c18,int i64 c16];let c5:List Prop:=[c9,c9,c13,c19,c11*((56:Nat)+1)*2<=2^47,c9];let c2:ah (List AV×aF):=aj c5 (aj [-c10<=c16/\c16<c10] (leaf normal (c7,(122884,ak.mk true true 3 c11 fun i=>if i<m then rat (F i) 2000 else nth [c12] c20 (i-m+0))::((2:Nat),aJ fun j=>if(j==0)=true then c4 else c6)::c3)));let c1:ah (List AV×aF):=aj c5 (aj [c9,c9,c13,c19,c23*((56:Nat)+1)*2<=2^47,c9] (aj [-c10<=c16/\c16<c10] (leaf normal (c7,(167940,ak.mk true true 3 c23 fun i=>if i<c11 then if i<m then rat (F i) 2000 else nth [c12] c20 (i-m+0)else nth [c12] c20 (i-c11+0))::((2:Nat),aJ fun j=>if(j==0)=true then agg ((if((0:Nat)==0)=true then c4 else c6).kids.set 1 (aV (own (nat_lit 167939+1) 3 0 c23)))else if(j==0)=true then c4 else c6)::c3))));some (aj [c9] (fork (decide (c8<(↑c.n:Int))) (fork c24 (aj [c24=true] (fork true c1 c2)) (aj [c24=false,c9,c13,c9,-c10<=c14/\c14<c10,(0:Int)<=c14/\c14.toNat<c.n,c21,c21] (fork (bif false then true else !decide (c.k c8.toNat=c.k c14.toNat)) c1 c2))) (leaf (exit 0) ([c15,c17,c22,int i64 q,c18,int i64 c8],(3,ak.mk true true 3 m fun i=>rat (F i) 2000)::((2:Nat),aJ fun x=>c6)::c3)))):=ag
theorem YW {c:Cu} {i m:Nat} {q:Int} {F:Nat->Rat}:aH T gT [76] 60 j6 (before wh [1,1,1,0,1]) ⟨aC x7 (ud q i),rZ c q m F,4⟩=
  let c11:AV:=int i64 0;let c10:AV:=ptr 2 0 3 0 [];let c9:AV:=ptr 1 0 3 0 [];let c8:AV:=ptr 0 0 3 0 [];let c7:Prop:=0<1;let c5:Nat×ak:=(3,ak.mk true false 3 m fun i=>rat (F i) 2000);let c4:Int:=(↑m:Int)-q-(1:Int);let c3:Nat×ak:=((2:Nat),aJ fun x=>agg [int i64 q,own 3 3 0 m,nil]);let c2:Cu:=Cu.mk c.p c.n (fun i=>aR (rat (c.k i) 2000)) c.m fun i=>gG (bE (c.f i) 2000);let c1:List (Nat×ak):=[((0:Nat),aJ fun x=>aS c 2000 2000)];let c6:AV:=agg [c11,nil,nil];some (aj [c7,bP (fun i=>rat (F (i+0)) 2000) m sK,m<2^40,-(2:Int)^40<q,q<(2:Int)^40] (fork (decide (c4>(40:Int))) (aj [c7] (leaf ret ([c8,c9,int i64 2,int i64 q,c10,int i64 c4,tuple [],tuple []],c5::c3::((1:Nat),aJ fun j=>if(j==0)=true then aV (agg c6.kids)else c6)::c1))) (aj [c7,bP (fun i=>rat (c.k i) 2000) c.n 2000,fT (fun i=>bE (c.f i) 2000) c.m 2000,c.m<2^20,c7] (leaf normal ([c8,c9,c11,int i64 q,c10,int i64 c4,ptr 36868 0 4 0 [],c11],c5::(36868,ak.mk false true 4 1 fun j=>if(j==0)=true then aV (agg [bq (cq c2 0) c.m 4000,bq (cq c2 1) c.m 4000,bq (cq c2 2) c.m 4000,bq (cq c2 3) c.m 4000])else agg [nil,nil,nil,nil])::c3::((1:Nat),aJ fun x=>c6)::c1))))):=ag
theorem Z3 {c:Cu} {M j m:Nat} {q:Int} {F:Nat->Rat} {G:Nat->Pl}:aH T gT [82] 60 j6 (before pZ [1,0]) ⟨aC j6 (nK q M j),eo c q m F j G,6⟩=
  let c1:List AV×aF:=([ptr 0 0 3 0 [],ptr 1 0 3 0 [],int i64 0,int i64 q,ptr 2 0 3 0 [],int i64 (↑M:Int),ptr 4 0 4 0 [],int i64 (↑j:Int)],[(5,ak.mk true true 12 j fun i=>bE (G i) 17179869185),(3,ak.mk true false 3 m fun i=>rat (F i) 2000),(4,ak.mk false true 4 1 fun x=>iX c),((2:Nat),aJ fun x=>agg [int i64 q,own 3 3 0 m,own 5 12 0 j]),((1:Nat),aJ fun x=>agg [int i64 0,nil,nil]),((0:Nat),aJ fun x=>aS c 2000 2000)]);some (fork (decide ((↑j:Int)<(↑M:Int))) (leaf normal c1) (leaf (exit 2) c1)):=ag
theorem WD {c:Cu} {M j m:Nat} {q:Int} {F:Nat->Rat} {G:Nat->Pl}:aH T gT [] 60 z7 (before rB [1,0]) ⟨aC j6 (nK q M j),eo c q m F j G,6⟩=
  some (leaf normal ([ptr 0 0 3 0 [],ptr 1 0 3 0 [],int i64 0,int i64 q,ptr 2 0 3 0 [],int i64 (↑M:Int),ptr 4 0 4 0 [],int i64 (↑j:Int),int i64 (↑j:Int)],[(5,ak.mk true true 12 j fun i=>bE (G i) 17179869185),(3,ak.mk true false 3 m fun i=>rat (F i) 2000),(4,ak.mk false true 4 1 fun x=>iX c),((2:Nat),aJ fun x=>agg [int i64 q,own 3 3 0 m,own 5 12 0 j]),((1:Nat),aJ fun x=>agg [int i64 0,nil,nil]),((0:Nat),aJ fun x=>aS c 2000 2000)])):=ag
theorem af3 {c:Cu} {M j m i:Nat} {q:Int} {F:Nat->Rat} {G:Nat->Pl}:aH T gT [97] 60 z7 [part rB [1,0,0,0]] ⟨aC z7 (JW q M j i),eo c q m F j G,6⟩=
  let c10:AV:=int i64 0;let c9:Prop:=2000<2^41;let c8:Int:=(↑i:Int);let c7:AV:=ptr 2 0 3 0 [];let c6:AV:=ptr 1 0 3 0 [];let c5:AV:=ptr 4 0 4 0 [];let c4:AV:=ptr 0 0 3 0 [];let c3:Int:=(2:Int)^63;let c11:Rat:=F (c8.toNat+0);let c2:Int:=c8+(1:Int);let c1:List (Nat×ak):=[(5,ak.mk true true 12 j fun i=>bE (G i) 17179869185),(3,ak.mk true false 3 m fun i=>rat (F i) 2000),(4,ak.mk false true 4 1 fun x=>iX c),((2:Nat),aJ fun x=>agg [int i64 q,own 3 3 0 m,own 5 12 0 j]),((1:Nat),aJ fun x=>agg [c10,nil,nil]),((0:Nat),aJ fun x=>aS c 2000 2000)];let c12:Rat:=F (c2.toNat+0);some (aj [(0:Nat)<1,(0:Int)<=c8/\c8.toNat<m,(0:Nat)<1,-c3<=c2/\c2<c3,(0:Int)<=c2/\c2.toNat<m,c9,c9] (fork (decide (c11=c12)) (aj [-c3<=c2/\c2<c3] (leaf normal ([c4,c6,c10,int i64 q,c7,int i64 (↑M:Int),c5,int i64 (↑j:Int),int i64 c2],c1))) (leaf (exit 4) ([c4,c6,c10,int i64 q,c7,int i64 (↑M:Int),c5,int i64 (↑j:Int),int i64 c8],c1)))):=ag
theorem ZN {c:Cu} {M j m i:Nat} {q:Int} {F:Nat->Rat} {G:Nat->Pl}:aH T gT [] 60 mu (before rM [1,1,0,1]) ⟨aC z7 (JW q M j i),eo c q m F j G,6⟩=
  let c2:Prop:=0<1;let c1:AV:=rat 0 1;some (aj [c2,c2,c2,(0:Int)<=(↑i:Int)/\(↑i:Int).toNat<m,bP (fun i=>rat (c.k i) 2000) c.n sK,(2000:Nat)<=sK,Kn c.n c.p.toNat fun i=>aR (rat (c.k i) 2000),(0:Int)<=c.p,c.n<2^40] (leaf normal ([ptr 0 0 3 0 [],ptr 1 0 3 0 [],int i64 0,int i64 q,ptr 2 0 3 0 [],int i64 (↑M:Int),ptr 4 0 4 0 [],int i64 (↑j:Int),int i64 (↑(fj c.n (fun i=>aR (rat (c.k i) 2000)) (F ((↑i:Int).toNat+0))):Int),ptr 61446 0 12 0 [],int i64 1],[(5,ak.mk true true 12 j fun i=>bE (G i) 17179869185),(3,ak.mk true false 3 m fun i=>rat (F i) 2000),(61446,ak.mk false true 12 1 fun x=>agg [c1,c1,c1,c1]),(4,ak.mk false true 4 1 fun x=>iX c),((2:Nat),aJ fun x=>agg [int i64 q,own 3 3 0 m,own 5 12 0 j]),((1:Nat),aJ fun x=>agg [int i64 0,nil,nil]),((0:Nat),aJ fun x=>aS c 2000 2000)]))):=ag
theorem acF {c:Cu} {M j m a b w:Nat} {q:Int} {F:Nat->Rat} {G:Nat->Pl} {S:Pl}:aH T gT [115] 60 mu (before ri [1,0]) ⟨aC mu (nM q M j a b),(6,eB S w)::eo c q m F j G,7⟩=
  let c1:List AV×aF:=([ptr 0 0 3 0 [],ptr 1 0 3 0 [],int i64 0,int i64 q,ptr 2 0 3 0 [],int i64 (↑M:Int),ptr 4 0 4 0 [],int i64 (↑j:Int),int i64 (↑a:Int),ptr 6 0 12 0 [],int i64 (↑b:Int)],[(5,ak.mk true true 12 j fun i=>bE (G i) 17179869185),(3,ak.mk true false 3 m fun i=>rat (F i) 2000),(6,ak.mk false true 12 1 fun x=>bu S w),(4,ak.mk false true 4 1 fun x=>iX c),((2:Nat),aJ fun x=>agg [int i64 q,own 3 3 0 m,own 5 12 0 j]),((1:Nat),aJ fun x=>agg [int i64 0,nil,nil]),((0:Nat),aJ fun x=>aS c 2000 2000)]);some (fork (decide ((↑b:Int)<=q)) (leaf normal c1) (leaf (exit 6) c1)):=ag
theorem agO {c:Cu} {M j m a b w:Nat} {q:Int} {F:Nat->Rat} {G:Nat->Pl} {S:Pl}:aH T gT [] 60 Al (before qK [1,0,1]) ⟨aC mu (nM q M j a b),(6,eB S w)::eo c q m F j G,7⟩=
  some (leaf normal ([ptr 0 0 3 0 [],ptr 1 0 3 0 [],int i64 0,int i64 q,ptr 2 0 3 0 [],int i64 (↑M:Int),ptr 4 0 4 0 [],int i64 (↑j:Int),int i64 (↑a:Int),ptr 6 0 12 0 [],int i64 (↑b:Int),nil,int i64 1],[(5,ak.mk true true 12 j fun i=>bE (G i) 17179869185),(3,ak.mk true false 3 m fun i=>rat (F i) 2000),(6,ak.mk false true 12 1 fun x=>bu S w),(4,ak.mk false true 4 1 fun x=>iX c),((2:Nat),aJ fun x=>agg [int i64 q,own 3 3 0 m,own 5 12 0 j]),((1:Nat),aJ fun x=>agg [int i64 0,nil,nil]),((0:Nat),aJ fun x=>aS c 2000 2000)])):=ag
theorem ado {c:Cu} {M j m a b w u x:Nat} {q:Int} {F A:Nat->Rat} {G:Nat->Pl} {S:Pl}:aH T gT [120,125] 60 Al [part qK [1,0,1,0,0]] ⟨aC Al (k7 q M j a b u x),vw S w u A++eo c q m F j G,8⟩=
  let c18 : AV := int i64 (↑b : Int); let c17 : AV := int i64 (↑a : Int); let c16 : AV := int i64 (↑M : Int); let c15 : AV := own 7 3 0 u; let c14 : AV := int i64 (0 : Int); let c13 : Int := (↑j : Int); let c11 : Nat × ak := ((3 : Nat), ak.mk true false 3 m fun i => rat (F i) 2000); let c10 : AV := ptr 2 0 3 0 []; let c9 : AV := ptr 1 0 3 0 []; let c8 : AV := ptr 4 0 4 0 []; let c7 : AV := ptr 0 0 3 0 []; let c6 : AV := ptr 6 0 12 0 []; let c5 : Int := (2 : Int) ^ 63; let c4 : Int := (↑x : Int); let c2 : Nat × ak := ((5 : Nat), ak.mk true true 12 j fun i => bE (G i) 17179869185); let c12 : Int := c4 + (1 : Int); let c1 : List (Nat × ak) := [((6 : Nat), ak.mk false true 12 1 fun x => bu S w), ((4 : Nat), ak.mk false true 4 1 fun x => iX c), ((2 : Nat), aJ fun x => agg [int i64 q, own 3 3 0 m, own 5 12 0 j]), ((1 : Nat), aJ fun x => agg [c14, nil, nil]), ((0 : Nat), aJ fun x => aS c 2000 2000)]; let c3 : List (Nat × ak) := c2 :: c11 :: ((7 : Nat), ak.mk true true 3 u fun i => rat (A i) 2000) :: c1; some (fork (decide (c4 <= q)) (fork (c4 != (↑b : Int)) (aj [(0 : Nat) < 1, -c5 <= c13 + c4 /\ c13 + c4 < c5, (0 : Int) <= c13 + c4 /\ (c13 + c4).toNat < m, (1 : Nat) * 3 <= 2 ^ 24, (u + 1) * ((56 : Nat) + 1) * 2 <= 2 ^ 47] (aj [-c5 <= c12 /\ c12 < c5] (leaf normal ([c7, c9, c14, int i64 q, c10, c16, c8, int i64 c13, c17, c6, c18, own 61448 3 0 (u + 1), int i64 c12], c2 :: c11 :: ((61448 : Nat), ak.mk true true 3 (u + 1) fun i => if i < u then rat (A i) 2000 else nth [rat (F ((c13 + c4).toNat + 0)) 2000] (rat 0 1) (i - u + 0)) :: c1)))) (aj [-c5 <= c12 /\ c12 < c5] (leaf normal ([c7, c9, c14, int i64 q, c10, c16, c8, int i64 c13, c17, c6, c18, c15, int i64 c12], c3)))) (leaf (exit 8) ([c7, c9, c14, int i64 q, c10, c16, c8, int i64 c13, c17, c6, c18, c15, int i64 c4], c3))) := ag
theorem YK {c:Cu} {M j m a b w u x:Nat} {q:Int} {F A:Nat->Rat} {G:Nat->Pl} {S:Pl}:aH T gT [] 60 lp (before nU [1]) ⟨aC Al (k7 q M j a b u x),vw S w u A++eo c q m F j G,8⟩=
  let c1:AV:=int i64 0;some (leaf normal ([ptr 0 0 3 0 [],ptr 1 0 3 0 [],c1,int i64 q,ptr 2 0 3 0 [],int i64 (↑M:Int),ptr 4 0 4 0 [],int i64 (↑j:Int),int i64 (↑a:Int),ptr 6 0 12 0 [],int i64 (↑b:Int),own 7 3 0 u,c1],[(5,ak.mk true true 12 j fun i=>bE (G i) 17179869185),(3,ak.mk true false 3 m fun i=>rat (F i) 2000),(7,ak.mk true true 3 u fun i=>rat (A i) 2000),(6,ak.mk false true 12 1 fun x=>bu S w),(4,ak.mk false true 4 1 fun x=>iX c),((2:Nat),aJ fun x=>agg [int i64 q,own 3 3 0 m,own 5 12 0 j]),((1:Nat),aJ fun x=>agg [c1,nil,nil]),((0:Nat),aJ fun x=>aS c 2000 2000)])):=ag
theorem aeU {c:Cu} {M j m a b w u:Nat} {q:Int} {F A:Nat->Rat} {G:Nat->Pl} {S x:Pl} {f:Rat}:aH T gT [] 60 lp [part nU [1,0,0]] ⟨aC lp (k7 q M j a b u 0),sk S x f w u 0 A++eo c q m F j G,8⟩=
  let c9:Nat:=64+sB;let c8:Nat:=c.p.toNat;let c7:Int:=(↑a:Int);let c6:Nat:=2^41;let c5:Int:=(↑(0:Nat):Int);let c3:Prop:=0<1;let c2:Int:=(2:Int)^63;let c4:Nat:=if 0<0 then w+c9+1 else w;let c1:Prop:=(0:Int)<=c5/\c5<(↑(4:Nat):Int);some (aj [c1,c3,-c2<=(1:Int),(1:Int)<c2,-c2<=q,q<c2,c3,c3,c1,c3,bP (fun i=>rat (c.k i) 2000) c.n sK,bP (fun i=>rat (cq c 0 i) 4000) c.m sK,bP (fun i=>rat (A (i+0)) 2000) u sK,(1:Int)<=c.p,c.p<=(6:Int),c.n<2^40,c.m<2^40,c.p<=c7,c7<(↑c.m:Int),c7+c.p<(↑c.n:Int),(↑u:Int)=c.p,(64:Nat)<c6,sB<c6,c4<c6,c9<c6,c1,c3] (aj [-c2<=c5+(1:Int)/\c5+(1:Int)<c2] (leaf normal ([ptr 0 0 3 0 [],ptr 1 0 3 0 [],int i64 0,int i64 q,ptr 2 0 3 0 [],int i64 (↑M:Int),ptr 4 0 4 0 [],int i64 (↑j:Int),int i64 c7,ptr 6 0 12 0 [],int i64 (↑b:Int),own 7 3 0 u,int i64 1],[(5,ak.mk true true 12 j fun i=>bE (G i) 17179869185),(3,ak.mk true false 3 m fun i=>rat (F i) 2000),(7,ak.mk true false 3 u fun i=>rat (A i) 2000),(6,ak.mk false true 12 1 fun j=>if(j==0)=true then agg ((iP S x f w 0).kids.set c5.toNat (aV (ir (if 0<0 then S.n.x+f*x.n.x else S.n.x,c4) ((↑(1:Int):Rat)/(↑q:Rat)*bR (fun i=>aR (rat (c.k i) 2000)) (c7.toNat-c8) c8 (fun i=>aR (rat (A (i+0)) 2000)) (fun j=>aR (rat (cq c 0 (c7.toNat-c8+j)) 4000)) c8 c8,c9))))else iP S x f w 0),(4,ak.mk false true 4 1 fun x=>iX c),((2:Nat),aJ fun x=>agg [int i64 q,own 3 3 0 m,own 5 12 0 j]),((1:Nat),aJ fun x=>agg [int i64 0,nil,nil]),((0:Nat),aJ fun x=>aS c 2000 2000)])))):=ag
theorem afb {c:Cu} {M j m a b w u:Nat} {q:Int} {F A:Nat->Rat} {G:Nat->Pl} {S x:Pl} {f:Rat}:aH T gT [] 60 lp [part nU [1,0,0]] ⟨aC lp (k7 q M j a b u 1),sk S x f w u 1 A++eo c q m F j G,8⟩=
  let c9:Nat:=64+sB;let c8:Nat:=c.p.toNat;let c7:Int:=(↑a:Int);let c6:Nat:=2^41;let c5:Int:=(↑(1:Nat):Int);let c3:Prop:=0<1;let c2:Int:=(2:Int)^63;let c4:Nat:=if 1<1 then w+c9+1 else w;let c1:Prop:=(0:Int)<=c5/\c5<(↑(4:Nat):Int);some (aj [c1,c3,-c2<=(1:Int),(1:Int)<c2,-c2<=q,q<c2,c3,c3,c1,c3,bP (fun i=>rat (c.k i) 2000) c.n sK,bP (fun i=>rat (cq c 1 i) 4000) c.m sK,bP (fun i=>rat (A (i+0)) 2000) u sK,(1:Int)<=c.p,c.p<=(6:Int),c.n<2^40,c.m<2^40,c.p<=c7,c7<(↑c.m:Int),c7+c.p<(↑c.n:Int),(↑u:Int)=c.p,(64:Nat)<c6,sB<c6,c4<c6,c9<c6,c1,c3] (aj [-c2<=c5+(1:Int)/\c5+(1:Int)<c2] (leaf normal ([ptr 0 0 3 0 [],ptr 1 0 3 0 [],int i64 0,int i64 q,ptr 2 0 3 0 [],int i64 (↑M:Int),ptr 4 0 4 0 [],int i64 (↑j:Int),int i64 c7,ptr 6 0 12 0 [],int i64 (↑b:Int),own 7 3 0 u,int i64 2],[(5,ak.mk true true 12 j fun i=>bE (G i) 17179869185),(3,ak.mk true false 3 m fun i=>rat (F i) 2000),(7,ak.mk true false 3 u fun i=>rat (A i) 2000),(6,ak.mk false true 12 1 fun j=>if(j==0)=true then agg ((iP S x f w 1).kids.set c5.toNat (aV (ir (if 1<1 then S.n.y+f*x.n.y else S.n.y,c4) ((↑(1:Int):Rat)/(↑q:Rat)*bR (fun i=>aR (rat (c.k i) 2000)) (c7.toNat-c8) c8 (fun i=>aR (rat (A (i+0)) 2000)) (fun j=>aR (rat (cq c 1 (c7.toNat-c8+j)) 4000)) c8 c8,c9))))else iP S x f w 1),(4,ak.mk false true 4 1 fun x=>iX c),((2:Nat),aJ fun x=>agg [int i64 q,own 3 3 0 m,own 5 12 0 j]),((1:Nat),aJ fun x=>agg [int i64 0,nil,nil]),((0:Nat),aJ fun x=>aS c 2000 2000)])))):=ag
theorem Xh {c:Cu} {M j m a b w u:Nat} {q:Int} {F A:Nat->Rat} {G:Nat->Pl} {S x:Pl} {f:Rat}:aH T gT [] 60 lp [part nU [1,0,0]] ⟨aC lp (k7 q M j a b u 2),sk S x f w u 2 A++eo c q m F j G,8⟩=
  let c9:Nat:=64+sB;let c8:Nat:=c.p.toNat;let c7:Int:=(↑a:Int);let c6:Nat:=2^41;let c5:Int:=(↑(2:Nat):Int);let c3:Prop:=0<1;let c2:Int:=(2:Int)^63;let c4:Nat:=if 2<2 then w+c9+1 else w;let c1:Prop:=(0:Int)<=c5/\c5<(↑(4:Nat):Int);some (aj [c1,c3,-c2<=(1:Int),(1:Int)<c2,-c2<=q,q<c2,c3,c3,c1,c3,bP (fun i=>rat (c.k i) 2000) c.n sK,bP (fun i=>rat (cq c 2 i) 4000) c.m sK,bP (fun i=>rat (A (i+0)) 2000) u sK,(1:Int)<=c.p,c.p<=(6:Int),c.n<2^40,c.m<2^40,c.p<=c7,c7<(↑c.m:Int),c7+c.p<(↑c.n:Int),(↑u:Int)=c.p,(64:Nat)<c6,sB<c6,c4<c6,c9<c6,c1,c3] (aj [-c2<=c5+(1:Int)/\c5+(1:Int)<c2] (leaf normal ([ptr 0 0 3 0 [],ptr 1 0 3 0 [],int i64 0,int i64 q,ptr 2 0 3 0 [],int i64 (↑M:Int),ptr 4 0 4 0 [],int i64 (↑j:Int),int i64 c7,ptr 6 0 12 0 [],int i64 (↑b:Int),own 7 3 0 u,int i64 3],[(5,ak.mk true true 12 j fun i=>bE (G i) 17179869185),(3,ak.mk true false 3 m fun i=>rat (F i) 2000),(7,ak.mk true false 3 u fun i=>rat (A i) 2000),(6,ak.mk false true 12 1 fun j=>if(j==0)=true then agg ((iP S x f w 2).kids.set c5.toNat (aV (ir (if 2<2 then S.n.z+f*x.n.z else S.n.z,c4) ((↑(1:Int):Rat)/(↑q:Rat)*bR (fun i=>aR (rat (c.k i) 2000)) (c7.toNat-c8) c8 (fun i=>aR (rat (A (i+0)) 2000)) (fun j=>aR (rat (cq c 2 (c7.toNat-c8+j)) 4000)) c8 c8,c9))))else iP S x f w 2),(4,ak.mk false true 4 1 fun x=>iX c),((2:Nat),aJ fun x=>agg [int i64 q,own 3 3 0 m,own 5 12 0 j]),((1:Nat),aJ fun x=>agg [int i64 0,nil,nil]),((0:Nat),aJ fun x=>aS c 2000 2000)])))):=ag
theorem agM {c:Cu} {M j m a b w u:Nat} {q:Int} {F A:Nat->Rat} {G:Nat->Pl} {S x:Pl} {f:Rat}:aH T gT [] 60 lp [part nU [1,0,0]] ⟨aC lp (k7 q M j a b u 3),sk S x f w u 3 A++eo c q m F j G,8⟩=
  let c9:Nat:=c.p.toNat;let c8:Nat:=64+sB;let c7:Int:=(↑a:Int);let c6:Nat:=2^41;let c5:Int:=(↑(3:Nat):Int);let c3:Prop:=0<1;let c2:Int:=(2:Int)^63;let c4:Nat:=if 3<3 then w+c8+1 else w;let c1:Prop:=(0:Int)<=c5/\c5<(↑(4:Nat):Int);some (aj [c1,c3,-c2<=(1:Int),(1:Int)<c2,-c2<=q,q<c2,c3,c3,c1,c3,bP (fun i=>rat (c.k i) 2000) c.n sK,bP (fun i=>rat (cq c 3 i) 4000) c.m sK,bP (fun i=>rat (A (i+0)) 2000) u sK,(1:Int)<=c.p,c.p<=(6:Int),c.n<2^40,c.m<2^40,c.p<=c7,c7<(↑c.m:Int),c7+c.p<(↑c.n:Int),(↑u:Int)=c.p,(64:Nat)<c6,sB<c6,c4<c6,c8<c6,c1,c3] (aj [-c2<=c5+(1:Int)/\c5+(1:Int)<c2] (leaf normal ([ptr 0 0 3 0 [],ptr 1 0 3 0 [],int i64 0,int i64 q,ptr 2 0 3 0 [],int i64 (↑M:Int),ptr 4 0 4 0 [],int i64 (↑j:Int),int i64 c7,ptr 6 0 12 0 [],int i64 (↑b:Int),own 7 3 0 u,int i64 4],[(5,ak.mk true true 12 j fun i=>bE (G i) 17179869185),(3,ak.mk true false 3 m fun i=>rat (F i) 2000),(7,ak.mk true false 3 u fun i=>rat (A i) 2000),(6,ak.mk false true 12 1 fun j=>if(j==0)=true then agg ((iP S x f w 3).kids.set c5.toNat (aV (ir (if 3<3 then S.d+f*x.d else S.d,c4) ((↑(1:Int):Rat)/(↑q:Rat)*bR (fun i=>aR (rat (c.k i) 2000)) (c7.toNat-c9) c9 (fun i=>aR (rat (A (i+0)) 2000)) (fun j=>aR (rat (cq c 3 (c7.toNat-c9+j)) 4000)) c9 c9,c8))))else iP S x f w 3),(4,ak.mk false true 4 1 fun x=>iX c),((2:Nat),aJ fun x=>agg [int i64 q,own 3 3 0 m,own 5 12 0 j]),((1:Nat),aJ fun x=>agg [int i64 0,nil,nil]),((0:Nat),aJ fun x=>aS c 2000 2000)])))):=ag
theorem Ya {c:Cu} {M j m a b w u:Nat} {q:Int} {F A:Nat->Rat} {G:Nat->Pl} {S x:Pl} {f:Rat}:aH T gT [] 60 lp [part nU [1,0,0]] ⟨aC lp (k7 q M j a b u 4),sk S x f w u 4 A++eo c q m F j G,8⟩=
  let c1:Nat:=w+((64:Nat)+sB)+1;some (leaf (exit 10) ([ptr 0 0 3 0 [],ptr 1 0 3 0 [],int i64 0,int i64 q,ptr 2 0 3 0 [],int i64 (↑M:Int),ptr 4 0 4 0 [],int i64 (↑j:Int),int i64 (↑a:Int),ptr 6 0 12 0 [],int i64 (↑b:Int),own 7 3 0 u,int i64 4],[(5,ak.mk true true 12 j fun i=>bE (G i) 17179869185),(3,ak.mk true false 3 m fun i=>rat (F i) 2000),(7,ak.mk true false 3 u fun i=>rat (A i) 2000),(6,ak.mk false true 12 1 fun x_1=>agg [rat (if 0<4 then S.n.x+f*x.n.x else S.n.x) (if 0<4 then c1 else w),rat (if 1<4 then S.n.y+f*x.n.y else S.n.y) (if 1<4 then c1 else w),rat (if 2<4 then S.n.z+f*x.n.z else S.n.z) (if 2<4 then c1 else w),rat (if 3<4 then S.d+f*x.d else S.d) (if 3<4 then c1 else w)]),(4,ak.mk false true 4 1 fun x=>iX c),((2:Nat),aJ fun x=>agg [int i64 q,own 3 3 0 m,own 5 12 0 j]),((1:Nat),aJ fun x=>agg [int i64 0,nil,nil]),((0:Nat),aJ fun x=>aS c 2000 2000)])):=ag
theorem alE {c:Cu} {M j m a b w:Nat} {q:Int} {F:Nat->Rat} {G:Nat->Pl} {S:Pl}:aH T gT [] 60 j6 [part rM [1,1,1]] ⟨aC mu (nM q M j a b),(6,eB S w)::eo c q m F j G,7⟩=
  let c5:Prop:=0<1;let c4:Rat:=(↑(1:Int):Rat)/S.d;let c3:Nat:=bZ+bZ+1;let c2:AV:=rat 0 1;let c1:AV:=agg [int i64 q,own 3 3 0 m,own 5 12 0 j];some (aj [c5,c5,w<=bZ,w<=bZ,w<=bZ,w<=bZ,(1:Nat)*12<=2^24,(j+1)*((224:Nat)+1)*2<=2^47,c5] (leaf normal ([ptr 0 0 3 0 [],ptr 1 0 3 0 [],int i64 0,int i64 q,ptr 2 0 3 0 [],int i64 (↑M:Int),ptr 4 0 4 0 [],int i64 (↑j:Int)],[(20487,ak.mk true true 12 (j+1) fun i=>if i<j then bE (G i) c3 else nth [agg [agg [rat (c4*S.n.x) c3,rat (c4*S.n.y) c3,rat (c4*S.n.z) c3],rat S.d bZ]] (agg [agg [c2,c2,c2],c2]) (i-j+0)),(3,ak.mk true false 3 m fun i=>rat (F i) 2000),(4,ak.mk false true 4 1 fun x=>iX c),((2:Nat),aJ fun j_1=>if(j_1==0)=true then agg (c1.kids.set 2 (aV (own (nat_lit 20486+1) 12 0 (j+1))))else c1),((1:Nat),aJ fun x=>agg [int i64 0,nil,nil]),((0:Nat),aJ fun x=>aS c 2000 2000)]))):=ag
theorem Yt {c:Cu} {M j m h:Nat} {q:Int} {F:Nat->Rat} {G:Nat->Pl}:aH T gT [] 60 j6 [part pZ [1,1]] ⟨aC j6 (nK q M j),eo c q m F h G,6⟩=
  let c1:Int:=(↑j:Int)+(1:Int);some (aj [-(2:Int)^63<=c1/\c1<(2:Int)^63] (leaf normal ([ptr 0 0 3 0 [],ptr 1 0 3 0 [],int i64 0,int i64 q,ptr 2 0 3 0 [],int i64 (↑M:Int),ptr 4 0 4 0 [],int i64 c1],[(5,ak.mk true true 12 h fun i=>bE (G i) 17179869185),(3,ak.mk true false 3 m fun i=>rat (F i) 2000),(4,ak.mk false true 4 1 fun x=>iX c),((2:Nat),aJ fun x=>agg [int i64 q,own 3 3 0 m,own 5 12 0 h]),((1:Nat),aJ fun x=>agg [int i64 0,nil,nil]),((0:Nat),aJ fun x=>aS c 2000 2000)]))):=ag
theorem VS {c:Cu} {M j m:Nat} {q:Int} {F:Nat->Rat} {G:Nat->Pl}:cw T gT [] 60 l7 [part wh [1,1,1,1]] ⟨aC j6 (nK q M j),eo c q m F j G,6⟩=
  let c1:Prop:=0<1;some (aj [c1,c1] (aj [c1] (leaf ret [agg [int i64 q,aq 3 m fun i=>rat (F (i+0)) 2000,aq 12 j fun i=>bE (G (i+0)) 17179869185],int i64 0]))):=ag
theorem ahQ {c:Cu} {M j m a b w u:Nat} {q:Int} {F A:Nat->Rat} {G:Nat->Pl} {S x:Pl} {f:Rat}:aH T gT [] 60 mu [part ri [1,1]] ⟨aC lp (k7 q M j a b u 4),sk S x f w u 4 A++eo c q m F j G,8⟩=
  let c2:Int:=(↑b:Int)+(1:Int);let c1:Nat:=w+((64:Nat)+sB)+1;some (aj [-(2:Int)^63<=c2/\c2<(2:Int)^63] (leaf normal ([ptr 0 0 3 0 [],ptr 1 0 3 0 [],int i64 0,int i64 q,ptr 2 0 3 0 [],int i64 (↑M:Int),ptr 4 0 4 0 [],int i64 (↑j:Int),int i64 (↑a:Int),ptr 6 0 12 0 [],int i64 c2],[(5,ak.mk true true 12 j fun i=>bE (G i) 17179869185),(3,ak.mk true false 3 m fun i=>rat (F i) 2000),(6,ak.mk false true 12 1 fun x_1=>agg [rat (if 0<4 then S.n.x+f*x.n.x else S.n.x) (if 0<4 then c1 else w),rat (if 1<4 then S.n.y+f*x.n.y else S.n.y) (if 1<4 then c1 else w),rat (if 2<4 then S.n.z+f*x.n.z else S.n.z) (if 2<4 then c1 else w),rat (if 3<4 then S.d+f*x.d else S.d) (if 3<4 then c1 else w)]),(4,ak.mk false true 4 1 fun x=>iX c),((2:Nat),aJ fun x=>agg [int i64 q,own 3 3 0 m,own 5 12 0 j]),((1:Nat),aJ fun x=>agg [int i64 0,nil,nil]),((0:Nat),aJ fun x=>aS c 2000 2000)]))):=ag
theorem aka {e:Int} {c:Cu}:j4 T l7 .ret ⟨aC [1,2,3] [.ptr 0 0 3 0 [],.ptr 4096 0 3 0 [],.int .i64 e],[(4096,⟨false,true,3,1,fun j=>if(j==0)=true then aV (.agg (AV.kids (.agg [.int .i64 0,.nil,.nil])))else .agg [.int .i64 0,.nil,.nil]⟩),(0,⟨false,true,3,1,fun _=>aS c 2000 2000⟩)],4097⟩=
  some (aj [(0:Nat)<1] (leaf ret [agg [int i64 0,nil,nil],int i64 e])):=ag
theorem ahq:∀K args pre r,OX K args pre=some r->aE P vN K args pre r:=cy fun⟨h,_⟩ K _=>Mk (by decide) (by decide) K
theorem lU:bz P gT:=cZ (aL QS (aL akS (aL OP (aL Bd (aL Ut (aL ahq pI))))))
def gC (b x:Nat):Nat:=if x<=b then x-1 else x-2
abbrev Gl (c:Cu) (a:Nat) (A:Nat->Rat) (e:Nat):Rat:=bR c.k (((a:Nat):Int).toNat-c.p.toNat) c.p.toNat A (fun y=>cq c e (((a:Nat):Int).toNat-c.p.toNat+y)) c.p.toNat c.p.toNat
abbrev Ng (c:Cu) (a:Nat) (A:Nat->Rat):Pl:=⟨⟨Gl c a A 0,Gl c a A 1,Gl c a A 2⟩,Gl c a A 3⟩
theorem Xm {c:Cu} {M j m a b w q:Nat} {F:Nat->Rat} {G:Nat->Pl} {S:Pl} {cx:Ctx} {Q:au->aM->Prop} (hk:Kept [] cx) (hc:Kn c.n c.p.toNat c.k) (hp1:1<=c.p) (hp6:c.p<=6) (hq:(q:Int)=c.p+1) (hn:c.n<2^20) (hm2:(c.m:Int)=(c.n:Int)-c.p-1) (hmn:m<2^20) (hj:j+q<m) (hA:At c.n c.k a) (hb1:1<=b) (hb2:b<=q) (hw:w+(64+sB)+1<=bZ)
  (hQ:∀s',(∃ρ,Le cx ρ s' ⟨aC mu (nM q M j a (b+1)),(6,eB ⟨⟨S.n.x+((1:Int):Rat)/((q:Int):Rat)*(iy (b7 c) (a:Nat) q F j (b-1)).n.x,S.n.y+((1:Int):Rat)/((q:Int):Rat)*(iy (b7 c) (a:Nat) q F j (b-1)).n.y,S.n.z+((1:Int):Rat)/((q:Int):Rat)*(iy (b7 c) (a:Nat) q F j (b-1)).n.z⟩,S.d+((1:Int):Rat)/((q:Int):Rat)*(iy (b7 c) (a:Nat) q F j (b-1)).d⟩ (w+(64+sB)+1))::eo c q m F j G,7⟩)->Q .normal s'):
  ax P cx l7.ntmps qK ⟨aC mu (nM q M j a b),(6,eB S w)::eo c q m F j G,7⟩ (inBlock 7 (dH (fun s'=>ax P cx l7.ntmps (part ri [1,1]) s' Q) Q)):=by
 have hSB:sB=536870912:=rfl
 have hSE:bZ=8589934592:=rfl
 obtain⟨A,hAd⟩:∃A:Nat->Rat,A=fun u=>kP (fun v=>F (v+(j+1))) (b-1) q u:=⟨_,rfl⟩
 obtain⟨w1,w2⟩:=hc.mT hA
 have hwd:=hA.wide
 have hAt:∀x,1<=x->x<=q->x≠b->F (j+x)=A (gC b x):=fun x h1 h2 h3=>by
  rw[hAd]
  show _=kP _ _ _ _
  unfold kP gC
  by_cases h:x<=b
  ·rw[if_pos h,if_neg aa,if_neg aa]
   show _=F (x-1+(j+1))
   rw[show x-1+(j+1)=j+x by omega]
  ·rw[if_neg h,if_neg aa,if_pos aa]
   show _=F (x-2+1+(j+1))
   rw[show x-2+1+(j+1)=j+x by omega]
 have hv:∀{rl:List (Nat×Nat)},bh rl 3=some 3->bh rl 5=some 5->eG rl (.agg [.int .i64 q,.own 3 3 0 m,.own 5 12 0 j]) (.agg [.int .i64 q,.own 3 3 0 m,.own 5 12 0 j]):=fun h0 h=>fW ⟨⟨rfl,aN rfl⟩,⟨rfl,cD h0 rfl rfl⟩,⟨rfl,cD h rfl rfl⟩,trivial⟩
 have hE:ig c.n c.k c.p.toNat c.m c.p.toNat (a:Nat)=0:=Dr aa rfl (by
  rw[aW]
  rintro(h|h|h)
  ·omega
  ·omega
  ·exact absurd h (Rat.not_le.2 hwd))
 have hX:iy (b7 c) (a:Nat) q F j (b-1)=Ng c a A:=by
  have e:∀e,gE (b7 c) (a:Nat) c.p.toNat A e=bR c.k (((a:Nat):Int).toNat-c.p.toNat) c.p.toNat A (fun y=>ff (cE (c.f (((a:Nat):Int).toNat-c.p.toNat+y))) e) c.p.toNat c.p.toNat:=fun e=>if_pos hE
  unfold iy
  rw[<-hAd,show q-1=c.p.toNat by omega]
  unfold oc
  rw[e,e,e,e];rfl
 refine ax.oE hT lU hm (x:=qK) [1,0,1] (i:=8) (y:=part qK [1,0,1,0,0]) ag ag ag hk (f1:=[]) (f2:=[120,125]) 60 Al 8
  (fun x:Nat=>k7 q M j a b (gC b x) x) (fun x=>vw S w (gC b x) A++eo c q m F j G) (fun x=>1<=x/\x<=q+1) (fun x=>x=q+1) (fun x=>q+1-x) (fun _=>False) ⟨_,agO,?_⟩ (fun x hx=>⟨_,ado,?_⟩) (fun x s' hx hle=>?_) (fun _ _ h=>h.elim)
 ·simp only[ah.all,az]
  refine⟨1,⟨aU,aa⟩,?_⟩
  have e0:gC b 1=0:=by unfold gC;rw[if_pos hb1]
  show cP [] _ (k7 q M j a b (gC b 1) 1) (vw S w (gC b 1) A++eo c q m F j G) 8
  rw[e0]
  exact⟨[(0,0),(1,1),(2,2),(3,3),(4,4),(5,5),(6,6)],rfl,rfl,rfl,gU rfl aa aa (aB (bp (aB (bp (bD rfl rfl (hv rfl rfl) (aB (aB trivial)))))))⟩
 ·obtain⟨x1,x2⟩:=hx
  have e1:((j:Int)+x).toNat=j+x:=aa
  have hu:gC b x<=x:=by unfold gC;split<;>omega
  simp only[ah.all,az,aZ,bk,bne_iff_ne,ne_eq,bne_eq_false_iff_eq,e1,Nat.add_zero]
  refine⟨fun h=>⟨fun g=>⟨⟨aa,aa,aa,aa,aa⟩,aa,x+1,⟨aa,aa⟩,by dsimp only;omega,?_⟩,fun g=>⟨aa,x+1,⟨aa,aa⟩,by dsimp only;omega,?_⟩⟩,fun h=>⟨rfl,x,by dsimp only;omega,[(0,0),(1,1),(2,2),(3,3),(4,4),(5,5),(6,6),(7,7)],rfl,rfl,rfl,bp (aB (bp (aB (bp (bD rfl rfl (hv rfl rfl) (aB (aB trivial)))))))⟩⟩
  ·show cP [] _ (k7 q M j a b (gC b (x+1)) ((x+1:Nat))) (vw S w (gC b (x+1)) A++eo c q m F j G) 8
   rw[show gC b (x+1)=gC b x+1 by unfold gC;split<;>split<;>omega]
   exact⟨[(0,0),(1,1),(2,2),(3,3),(4,4),(5,5),(6,6),(7,61448)],rfl,rfl,rfl,bL rfl rfl rfl (fun i hi=>gM (y:=A) (fun _ _=>rfl) (hAt x x1 aa aa) aU aU hi) (aB (bp (aB (bp (bD rfl rfl (hv rfl rfl) (aB (aB trivial)))))))⟩
  ·show cP [] _ (k7 q M j a b (gC b (x+1)) ((x+1:Nat))) (vw S w (gC b (x+1)) A++eo c q m F j G) 8
   rw[show gC b (x+1)=gC b x by unfold gC;split<;>split<;>omega]
   exact⟨[(0,0),(1,1),(2,2),(3,3),(4,4),(5,5),(6,6),(7,7)],rfl,rfl,rfl,bp (aB (bp (aB (bp (bD rfl rfl (hv rfl rfl) (aB (aB trivial)))))))⟩
 ·have hx:x=q+1:=hx
  subst hx
  rw[show behind qK [1,0,1]=[nU]from by kernel_rfl]
  refine aI.weak rfl hle (aI.one ?_)
  rw[show gC b (q+1)=q-1 by unfold gC;rw[if_neg aa];omega]
  refine ax.oE hT lU hm (x:=nU) [1] (i:=10) (y:=part nU [1,0,0]) ag ag ag hk (f1:=[]) (f2:=[]) 60 lp 8
   (fun k:Nat=>k7 q M j a b (q-1) k) (fun k=>sk S (Ng c a A) (((1:Int):Rat)/((q:Int):Rat)) w (q-1) k A++eo c q m F j G) (fun k=>k<=4) (fun k=>k=4) (fun k=>4-k) (fun _=>False) ⟨_,YK,?_⟩ (fun k hk4=>?_) (fun k s2 hk4 hle2=>?_) (fun _ _ h=>h.elim)
  ·simp only[ah.all,az]
   exact⟨0,Nat.zero_le _,[(0,0),(1,1),(2,2),(3,3),(4,4),(5,5),(6,6),(7,7)],rfl,rfl,rfl,bp (aB (bp (aB (bp (bD rfl rfl (hv rfl rfl) (aB (aB trivial)))))))⟩
  ·have hk4:k<=4:=hk4
   rcases(show k=0\/k=1\/k=2\/k=3\/k=4 by omega)with rfl|rfl|rfl|rfl|rfl
   ·refine⟨_,aeU,?_⟩
    simp only[ah.all,az]
    exact⟨⟨aa,aa,aa,aa,aa,aa,aa,aa,aa,aa,bY (by decide),bY (by decide),bY (by decide),hp1,hp6,aa,aa,aa,aa,aa,aa,aa,aa,by show w<2^41;omega,aa,aa,aa⟩,aa,1,aa,by dsimp only;omega,[(0,0),(1,1),(2,2),(3,3),(4,4),(5,5),(6,6),(7,7)],rfl,rfl,rfl,bp (aB (bp (aB (bp (bD rfl rfl (hv rfl rfl) (aB (aB trivial)))))))⟩
   ·refine⟨_,afb,?_⟩
    simp only[ah.all,az]
    exact⟨⟨aa,aa,aa,aa,aa,aa,aa,aa,aa,aa,bY (by decide),bY (by decide),bY (by decide),hp1,hp6,aa,aa,aa,aa,aa,aa,aa,aa,by show w<2^41;omega,aa,aa,aa⟩,aa,2,aa,by dsimp only;omega,[(0,0),(1,1),(2,2),(3,3),(4,4),(5,5),(6,6),(7,7)],rfl,rfl,rfl,bp (aB (bp (aB (bp (bD rfl rfl (hv rfl rfl) (aB (aB trivial)))))))⟩
   ·refine⟨_,Xh,?_⟩
    simp only[ah.all,az]
    exact⟨⟨aa,aa,aa,aa,aa,aa,aa,aa,aa,aa,bY (by decide),bY (by decide),bY (by decide),hp1,hp6,aa,aa,aa,aa,aa,aa,aa,aa,by show w<2^41;omega,aa,aa,aa⟩,aa,3,aa,by dsimp only;omega,[(0,0),(1,1),(2,2),(3,3),(4,4),(5,5),(6,6),(7,7)],rfl,rfl,rfl,bp (aB (bp (aB (bp (bD rfl rfl (hv rfl rfl) (aB (aB trivial)))))))⟩
   ·refine⟨_,agM,?_⟩
    simp only[ah.all,az]
    exact⟨⟨aa,aa,aa,aa,aa,aa,aa,aa,aa,aa,bY (by decide),bY (by decide),bY (by decide),hp1,hp6,aa,aa,aa,aa,aa,aa,aa,aa,by show w<2^41;omega,aa,aa,aa⟩,aa,4,aa,by dsimp only;omega,[(0,0),(1,1),(2,2),(3,3),(4,4),(5,5),(6,6),(7,7)],rfl,rfl,rfl,bp (aB (bp (aB (bp (bD rfl rfl (hv rfl rfl) (aB (aB trivial)))))))⟩
   ·exact⟨_,Ya,rfl,4,rfl,[(0,0),(1,1),(2,2),(3,3),(4,4),(5,5),(6,6),(7,7)],rfl,rfl,rfl,bp (aB (bp (aB (bp (bD rfl rfl (hv rfl rfl) (aB (aB trivial)))))))⟩
  ·have hk4:k=4:=hk4
   subst hk4
   rw[show behind nU [1]=[]from by kernel_rfl]
   show ax P cx _ (part ri [1,1]) s2 Q
   refine ax.jA hle2 (ax.bA hT lU hm 60 mu ahQ ag ?_)
   simp only[ah.all,az]
   rw[hX]at hQ
   exact⟨aa,fun s3 hs3=>hQ s3 (cP.le ⟨[(0,0),(1,1),(2,2),(3,3),(4,4),(5,5),(6,6)],rfl,rfl,rfl,aB (bp (aB (bp (bD rfl rfl (hv rfl rfl) (aB (aB trivial))))))⟩ hs3 hk)⟩
theorem Sd {n:Nat} {k:Nat->Rat}:∀{f i:Nat},i<=mP k n f i
 |0,i=>aU
 |f+1,i=>by
  rw[mP]
  split
  ·exact Nat.le_trans (Nat.le_succ i) Sd
  ·exact Nat.le_refl _
theorem Tj {n:Nat} {k:Nat->Rat} (hs:∀i,i+1<n->k i<=k (i+1)):∀{d i:Nat},k i<k (i+d)->i+d<n->i<=e9 k n i/\e9 k n i<i+d
 |0,i,h,_=>absurd h Rat.lt_irrefl
 |d+1,i,h,hn=>by
  by_cases c:k (i+1)<=k i
  ·have e:k (i+1)=k i:=Rat.le_antisymm c (hs i aa)
   have:=Tj hs (d:=d) (i:=i+1) (by rw[e,show i+1+d=i+(d+1) by omega];exact h) aa
   rw[Jt aa c]
   omega
  ·rw[CH (fun g=>c g.2)]
   omega
theorem ab0 {c:Cu} {M j m q:Nat} {F:Nat->Rat} {G:Nat->Pl} {cx:Ctx} {Q:au->aM->Prop} (hk:Kept [] cx) (hc:Kn c.n c.p.toNat c.k) (hp1:1<=c.p) (hp6:c.p<=6) (hq:(q:Int)=c.p+1) (hn:c.n<2^20) (hm2:(c.m:Int)=(c.n:Int)-c.p-1) (hmn:m<2^20) (hj:j+q+1<m) (hF:∀i,i+1<m->F i<=F (i+1)) (hsup:F j<F (j+(q+1))) (hA:∀i,i<m->F i<F (i+1)->i+1<m->At c.n c.k (fj c.n c.k (F i)))
  (hG:eI (rK (b7 c) (((1:Int):Rat)/((q:Int):Rat)) m q F j)=G j)
  (hQ:∀s',(∃ρ,Le cx ρ s' ⟨aC j6 (nK q M j),eo c q m F (j+1) G,6⟩)->ax P cx l7.ntmps (part pZ [1,1]) s' Q):
  ax P cx l7.ntmps rB ⟨aC j6 (nK q M j),eo c q m F j G,6⟩ (inBlock 3 (dH (fun s'=>ax P cx l7.ntmps (part pZ [1,1]) s' Q) Q)):=by
 have hSB:sB=536870912:=rfl
 have hSE:bZ=8589934592:=rfl
 have hv:∀{rl:List (Nat×Nat)} {x y y':Nat},bh rl 3=some 3->bh rl 5=some x->y=y'->eG rl (.agg [.int .i64 q,.own 3 3 0 m,.own x 12 0 y]) (.agg [.int .i64 q,.own 3 3 0 m,.own 5 12 0 y']):=fun h0 h e=>fW ⟨⟨rfl,aN rfl⟩,⟨rfl,cD h0 rfl rfl⟩,⟨rfl,cD h rfl e⟩,trivial⟩
 obtain⟨s,hs⟩:∃s,s=e9 F m j:=⟨_,rfl⟩
 obtain⟨g1,g2⟩:=Tj hF hsup aa
 rw[<-hs]at g1 g2
 have wS:∀r,gH (r+1)=gH r+(64+sB)+1:=fun r=>by unfold gH;rw[hSB];omega
 have wL:∀r,r<=7->gH r<=bZ:=fun r hr=>by unfold gH;rw[hSB,hSE];omega
 refine ax.oE hT lU hm (x:=rB) [1,0] (i:=4) (y:=part rB [1,0,0,0]) ag ag ag hk (f1:=[]) (f2:=[97]) 60 z7 6
  (fun i:Nat=>JW q M j i) (fun i=>eo c q m F j G) (fun i=>j<=i/\i<=s/\e9 F m i=s) (fun i=>i=s/\F s<F (s+1)) (fun i=>m-i) (fun _=>False) ⟨_,WD,?_⟩ (fun i hi=>⟨_,af3,?_⟩) (fun i s' hi hle=>?_) (fun _ _ h=>h.elim)
 ·simp only[ah.all,az]
  exact⟨j,⟨aU,g1,hs.symm⟩,[(0,0),(1,1),(2,2),(3,3),(4,4),(5,5)],rfl,rfl,rfl,bp (aB (bp (bD rfl rfl (hv rfl rfl rfl) (aB (aB trivial)))))⟩
 ·obtain⟨i1,i2,i3⟩:=hi
  have e1:((i:Int)+1).toNat=i+1:=aa
  simp only[ah.all,az,aZ,bk,e1,aW,Nat.add_zero]
  have hle:=hF i aa
  refine⟨⟨aa,aa,aa,aa,aa,aa,aa⟩,fun h=>?_,fun h=>?_⟩
  ·have e2:e9 F m (i+1)=s:=by rw[<-Jt aa (by rw[h];exact Rat.le_refl)];exact i3
   have e3:i≠s:=fun e=>by
    have:=Sd (k:=F) (n:=m) (f:=m-(i+1)) (i:=i+1)
    have e4:mP F m (m-(i+1)) (i+1)=s:=e2
    omega
   exact⟨aa,i+1,⟨aa,aa,e2⟩,by dsimp only;omega,[(0,0),(1,1),(2,2),(3,3),(4,4),(5,5)],rfl,rfl,rfl,bp (aB (bp (bD rfl rfl (hv rfl rfl rfl) (aB (aB trivial)))))⟩
  ·have hlt:F i<F (i+1):=by grind
   have e2:i=s:=by rw[CH (fun g=>absurd g.2 (Rat.not_le.2 hlt))]at i3;exact i3
   exact⟨rfl,i,⟨e2,by rw[<-e2];exact hlt⟩,[(0,0),(1,1),(2,2),(3,3),(4,4),(5,5)],rfl,rfl,rfl,bp (aB (bp (bD rfl rfl (hv rfl rfl rfl) (aB (aB trivial)))))⟩
 ·obtain⟨i1,i2⟩:=hi
  subst i1
  rw[show behind rB [1,0]=[rM]from by kernel_rfl]
  refine aI.weak rfl hle (aI.one ?_)
  obtain⟨a,ha⟩:∃a,a=fj c.n c.k (F i):=⟨_,rfl⟩
  have hAa:=hA i aa i2 aa
  rw[<-ha]at hAa
  refine ax.VZ hT lU hm (x:=rM) [1,1,0,1] (i:=6) (y:=ri) ag ag ag hk (f1:=[]) 60 mu 7
   (fun b:Nat=>nM q M j a b) (fun b=>(6,eB (jC (((1:Int):Rat)/((q:Int):Rat)) (iy (b7 c) (a:Nat) q F j) (b-1)) (gH (b-1)))::eo c q m F j G) (fun b=>1<=b/\b<=q+1) (fun b=>b=q+1) (fun b=>q+1-b) (fun _=>False) ⟨_,ZN,?_⟩ (fun b hb=>?_) (fun b s2 hb hle2=>?_) (fun _ _ h=>h.elim)
  ·simp only[ah.all,az,aW,Nat.add_zero]
   have h8:fj c.n (fun i=>aR (rat (c.k i) 2000)) (F i)=a:=ha.symm
   rw[h8]
   exact⟨⟨aa,aa,aa,aa,bY (by decide),by decide,hc,aa,aa⟩,1,⟨aU,aa⟩,[(0,0),(1,1),(2,2),(3,3),(4,4),(5,5),(6,61446)],rfl,rfl,rfl,aB (bp (aB (bp (bD rfl rfl (hv rfl rfl rfl) (aB (aB trivial))))))⟩
  ·obtain⟨b1,b2⟩:=hb
   refine ax.nP hT lU hm (y:=ri) (x1:=qK) (zb:=part ri [1,1]) [1,0] (j:=7) ag ag ag ag hk (f1:=[115]) 60 mu 7 (fun _:Unit=>nM q M j a b) (fun _=>(6,eB (jC (((1:Int):Rat)/((q:Int):Rat)) (iy (b7 c) (a:Nat) q F j) (b-1)) (gH (b-1)))::eo c q m F j G) (fun _=>b<=q) ⟨_,acF,?_⟩ (fun _ hb'=>?_)
   ·simp only[ah.all,az,aZ,bk]
    have re:cP [] (nM q M j a b,(6,eB (jC (((1:Int):Rat)/((q:Int):Rat)) (iy (b7 c) (a:Nat) q F j) (b-1)) (gH (b-1)))::eo c q m F j G) (nM q M j a b) ((6,eB (jC (((1:Int):Rat)/((q:Int):Rat)) (iy (b7 c) (a:Nat) q F j) (b-1)) (gH (b-1)))::eo c q m F j G) 7:=⟨[(0,0),(1,1),(2,2),(3,3),(4,4),(5,5),(6,6)],rfl,rfl,rfl,aB (bp (aB (bp (bD rfl rfl (hv rfl rfl rfl) (aB (aB trivial))))))⟩
    exact⟨fun h1=>⟨(),aa,[(0,0),(1,1),(2,2),(3,3),(4,4),(5,5),(6,6)],rfl,rfl,rfl,aB (bp (aB (bp (bD rfl rfl (hv rfl rfl rfl) (aB (aB trivial))))))⟩,fun h1 s' hs'=>⟨rfl,b,by dsimp only;omega,cP.le ⟨[(0,0),(1,1),(2,2),(3,3),(4,4),(5,5),(6,6)],rfl,rfl,rfl,aB (bp (aB (bp (bD rfl rfl (hv rfl rfl rfl) (aB (aB trivial))))))⟩ hs' hk⟩⟩
   ·have hb':b<=q:=hb'
    obtain⟨r,rfl⟩:∃r,b=r+1:=⟨b-1,aa⟩
    refine Xm hk hc hp1 hp6 hq hn hm2 hmn aa hAa b1 hb' (by rw[<-wS];exact wL (r+1) aa) fun s3 hle3=>?_
    refine⟨r+1+1,⟨aa,aa⟩,by dsimp only;omega,?_⟩
    show∃ρ,Le cx ρ s3 ⟨aC mu (nM q M j a (r+1+1)),(6,eB (jC (((1:Int):Rat)/((q:Int):Rat)) (iy (b7 c) (a:Nat) q F j) (r+1)) (gH (r+1)))::eo c q m F j G,7⟩
    rw[wS r]
    exact hle3
  ·have hb:b=q+1:=hb
   subst hb
   rw[show behind rM [1,1,0,1]=[part rM [1,1,1]]from by kernel_rfl]
   refine aI.weak rfl hle2 (aI.bA hT lU hm 60 j6 alE ag ?_)
   simp only[ah.all,az]
   have hw:=wL q aa
   refine⟨⟨aa,aa,hw,hw,hw,hw,aa,aa,aa⟩,fun s3 hs3=>hQ s3 (cP.le ⟨[(0,0),(1,1),(2,2),(3,3),(4,4),(5,20487)],rfl,rfl,rfl,bL rfl rfl rfl (fun u hu=>qL (g:=fun j=>bE (G j) (bZ+bZ+1)) (fun _ _=>⟨rfl,rfl⟩) rfl ?_ hu) (aB (bp (bD rfl rfl (hv rfl rfl rfl) (aB (aB trivial)))))⟩ hs3 hk)⟩
   have e:rK (b7 c) (((1:Int):Rat)/((q:Int):Rat)) m q F j=jC (((1:Int):Rat)/((q:Int):Rat)) (iy (b7 c) (a:Nat) q F j) q:=by
    unfold rK
    rw[<-hs,ha]
   rw[<-hG,e]
   exact cC ⟨cC ⟨bM (congrArg V3.x yc.symm) aU,bM (congrArg V3.y yc.symm) aU,bM (congrArg V3.z yc.symm) aU,trivial⟩,bM rfl aa,trivial⟩
theorem Mz {k:Nat->Rat}:∀{i:Nat},ga k i<=i
 |0=>aU
 |i+1=>by have:=Mz (k:=k) (i:=i);rw[ga];split<;>omega
theorem aga (c:Cu) (s r:Nat):(aV (aS c s r)).size=3:=ag
theorem N7 {n p i:Nat} {k:Nat->Rat} (h:Kn n p k) (hi:i+1<n+bU k n n) (hw:cU k n n i<cU k n n (i+1)):At n k (fj n k (cU k n n i)):=by
 have hl:=h.len
 obtain⟨a,a1,a2,a3⟩:=G5 (k:=k) (n:=n) (Q:=i) (m:=n) aa
 have v:cU k n n i=k a:=p9 a1 a2 a3
 have hA:At n k a:=by
  by_cases c:i+1<a+1+bU k n (a+1)
  ·rw[v,p9 (q:=i+1) a1 aa c]at hw
   exact absurd hw Rat.lt_irrefl
  ·have hlt:a+1<n:=by
    by_cases e:a+1<n
    ·exact e
    ·have:a+1=n:=aa
     rw[this]at c
     omega
   have:=(s8 (k:=k) (n:=n) (i:=a+1)).1
   rw[v,p9 (q:=i+1) hlt aa aa]at hw
   exact⟨hlt,h.sorted,hw⟩
 have hlt:=hA.lt
 rw[v]
 unfold fj
 rw[if_neg,AZ hA]
 ·exact hA
 ·rintro(g|g)
  ·exact absurd (h.mono (Nat.zero_le a) aa) (Rat.not_le.2 g)
  ·exact absurd (h.mono (show a<=n-1 by omega) aa) (Rat.not_le.2 g)
theorem Wj {c:Cu} (hc:fe c) (h20:c.n<=20) (K:Nat):aE P xE K [aS c 2000 2000] [] (aK (.tuple [aS (fc c) 2000 (bZ+bZ+1),.int .i64 (jE c)]) []):=by
 refine gr (r:=aK (.tuple [aS (fc c) 2000 (bZ+bZ+1),.int .i64 (jE c)]) []) hT Qi rfl aX rfl (fun _ cx h00=>?_) K []
 have hk:=m7 h00
 obtain⟨k1,k2,k3,k4,k5⟩:=id hc
 have hl:=k1.len
 have hq:c.p+1=((c.p.toNat+1:Nat):Int):=aa
 have hK:=Jq k1
 have hKl:=hK.len
 have hgl:=vj (k:=c.k) (n:=c.n) (i:=c.n)
 have hv:∀{rl:List (Nat×Nat)} {x y y':Nat} {q:Int},bh rl 3=some x->y=y'->eG rl (.agg [.int .i64 q,.own x 3 0 y,.nil]) (.agg [.int .i64 q,.own 3 3 0 y',.nil]):=fun h e=>fW ⟨⟨rfl,aN rfl⟩,⟨rfl,cD h rfl e⟩,⟨rfl,aN rfl⟩,trivial⟩
 refine ax.kG hT lU hm (x:=y8) [1,1,1,1,0,1] (i:=0) (y:=part y8 [1,1,1,1,0,1,0,0]) (z:=wh) ag ag ag Qi.dst hk (f1:=[20]) (f2:=[31,36,50]) 60 x7 4
  (fun i:Nat=>ud ((c.p.toNat+1:Nat):Int) i) (fun i=>rZ c ((c.p.toNat+1:Nat):Int) (i+ga c.k i) (cU c.k c.n c.n)) (fun i=>i<=c.n/\c.p<6) (fun i=>i=c.n/\c.p<6) (fun i=>c.n-i) (rL T l7 [1,2,3] (.tuple [aS (fc c) 2000 (bZ+bZ+1),.int .i64 (jE c)])) ⟨_,Ws,?_⟩ (fun i hi=>⟨_,ad7,?_⟩) (fun i hi=>?_) (fun v s' hv hs'=>hv.fin (L1:=[4,5,6]) hk hs')
 ·simp only[ah.all,az,hq,aZ,bk]
  rw[aga c 2000 2000]
  refine⟨aa,fun h=>⟨aa,?_⟩,fun h=>⟨⟨aa,aa⟩,aa,0,⟨Nat.zero_le _,aa⟩,[(0,0),(1,4096),(2,49152)],rfl,rfl,rfl,gU rfl aa aa (bD rfl rfl (fW ⟨⟨rfl,aN rfl⟩,⟨rfl,iZ aa⟩,⟨rfl,aN rfl⟩,trivial⟩) (aB (aB trivial)))⟩⟩
  have hp:6<=c.p:=aa
  have r1:fc c=kq:=if_pos hp
  have r2:jE c=7:=if_pos hp
  have hR:rL T l7 [1,2,3] (.tuple [aS kq 2000 (bZ+bZ+1),.int .i64 7]) ([.ptr 0 0 3 0 [],.ptr 4096 0 3 0 [],.int .i64 7,.tuple [],.tuple [],.tuple []],[(4096,⟨false,true,3,1,fun j=>if(j==0)=true then aV (.agg (AV.kids (.agg [.int .i64 0,.nil,.nil])))else .agg [.int .i64 0,.nil,.nil]⟩),(0,⟨false,true,3,1,fun _=>aS c 2000 2000⟩)]):=
   ⟨[_,_,_],[_,_,_],4097,_,rfl,rfl,rfl,aka,rfl,⟨⟨aa,fun i _=>oZ rfl rfl⟩,⟨aa,fun i _=>rfl⟩,trivial⟩,Nat.zero_lt_one,yh,.refl _,trivial⟩
  rw[r1,r2]
  exact hR
 ·obtain⟨i1,i2⟩:=hi
  have e1:((i:Int)-1).toNat=i-1:=aa
  simp only[ah.all,az,aZ,bk,cond_false,Bool.not_eq_true',Bool.not_eq_false',e1,aW]
  have hgr:=Mz (k:=c.k) (i:=i)
  refine⟨aa,fun h=>?_,fun h=>⟨rfl,i,⟨aa,i2⟩,[(0,0),(1,1),(2,2),(3,3)],rfl,rfl,rfl,bp (bD rfl rfl (hv rfl rfl) (aB (aB trivial)))⟩⟩
  obtain⟨n1,n2⟩:=UG (k:=c.k) (n:=c.n) (i:=i) aa
  have dbl:∀{v:List AV×aF},(i=0\/c.k i≠c.k (i-1))->(∀m,m=i+ga c.k i->c.k i=cU c.k c.n c.n m->c.k i=cU c.k c.n c.n (m+1)->cP [] v (ud ((c.p.toNat+1:Nat):Int) (i+1)) (rZ c ((c.p.toNat+1:Nat):Int) (m+1+1) (cU c.k c.n c.n)) 4)->cP [] v (ud ((c.p.toNat+1:Nat):Int) (i+1)) (rZ c ((c.p.toNat+1:Nat):Int) (i+1+ga c.k (i+1)) (cU c.k c.n c.n)) 4:=fun {v} g hh=>by
   have e:ga c.k (i+1)=ga c.k i+1:=by rw[ga,if_pos g]
   rw[e,show i+1+(ga c.k i+1)=i+ga c.k i+1+1 by omega]
   exact hh _ rfl n1.symm (n2 g).symm
  have one:∀{v:List AV×aF},¬(i=0\/c.k i≠c.k (i-1))->(∀m,m=i+ga c.k i->c.k i=cU c.k c.n c.n m->cP [] v (ud ((c.p.toNat+1:Nat):Int) (i+1)) (rZ c ((c.p.toNat+1:Nat):Int) (m+1) (cU c.k c.n c.n)) 4)->cP [] v (ud ((c.p.toNat+1:Nat):Int) (i+1)) (rZ c ((c.p.toNat+1:Nat):Int) (i+1+ga c.k (i+1)) (cU c.k c.n c.n)) 4:=fun {v} g hh=>by
   have e:ga c.k (i+1)=ga c.k i:=by rw[ga,if_neg g];rfl
   rw[e,show i+1+ga c.k i=i+ga c.k i+1 by omega]
   exact hh _ rfl n1.symm
  refine⟨fun g=>⟨g,fun _=>⟨⟨aa,aa,aa,aa,aa,aa⟩,⟨aa,aa,aa,aa,aa,aa⟩,aa,i+1,⟨aa,i2⟩,by dsimp only;omega,dbl (.inl (by have:=beq_iff_eq.1 g;omega)) fun m hm' d1 d2=>?_⟩,fun g2=>absurd g2 (by decide)⟩,fun g=>?_⟩
  ·subst hm';exact⟨[(0,0),(1,1),(2,2),(3,167940)],rfl,rfl,rfl,bL rfl rfl rfl (fun u hu=>Fm d1 d2 hu) (bD rfl rfl (by exact hv rfl rfl) (aB (aB trivial)))⟩
  ·have g0:i≠0:=by have:=beq_eq_false_iff_ne.1 g;omega
   refine⟨⟨g,aa,aa,aa,aa,aa,aa,aa⟩,fun g2=>⟨⟨aa,aa,aa,aa,aa,aa⟩,⟨aa,aa,aa,aa,aa,aa⟩,aa,i+1,⟨aa,i2⟩,by dsimp only;omega,dbl (.inr g2) fun m hm' d1 d2=>?_⟩,fun g2=>⟨⟨aa,aa,aa,aa,aa,aa⟩,aa,i+1,⟨aa,i2⟩,by dsimp only;omega,one (fun g3=>g3.elim g0 fun g4=>g4 g2) fun m hm' d1=>?_⟩⟩
   ·subst hm';exact⟨[(0,0),(1,1),(2,2),(3,167940)],rfl,rfl,rfl,bL rfl rfl rfl (fun u hu=>Fm d1 d2 hu) (bD rfl rfl (by exact hv rfl rfl) (aB (aB trivial)))⟩
   ·subst hm';exact⟨[(0,0),(1,1),(2,2),(3,122884)],rfl,rfl,rfl,bL rfl rfl rfl (fun u hu=>gM (y:=cU c.k c.n c.n) (fun _ _=>rfl) d1 aU aU hu) (bD rfl rfl (by exact hv rfl rfl) (aB (aB trivial)))⟩
 ·obtain⟨hi,hp⟩:=hi
  subst hi
  rw[aaM aa]
  obtain⟨M,hM⟩:∃M,M=c.n+bU c.k c.n c.n-(c.p.toNat+1)-1:=⟨_,rfl⟩
  have eM:((c.n+bU c.k c.n c.n:Nat):Int)-((c.p.toNat+1:Nat):Int)-1=(M:Nat):=aa
  obtain⟨G,hG⟩:∃G:Nat->Pl,G=fun j=>eI (rK (b7 c) (((1:Int):Rat)/(((c.p.toNat+1:Nat):Int):Rat)) (c.n+bU c.k c.n c.n) (c.p.toNat+1) (cU c.k c.n c.n) j):=⟨_,rfl⟩
  have hv2:∀{rl:List (Nat×Nat)} {x y y':Nat},bh rl 3=some 3->bh rl 5=some x->y=y'->eG rl (.agg [.int .i64 ((c.p.toNat+1:Nat):Int),.own 3 3 0 (c.n+bU c.k c.n c.n),.own x 12 0 y]) (.agg [.int .i64 ((c.p.toNat+1:Nat):Int),.own 3 3 0 (c.n+bU c.k c.n c.n),.own 5 12 0 y']):=fun h0 h e=>fW ⟨⟨rfl,aN rfl⟩,⟨rfl,cD h0 rfl rfl⟩,⟨rfl,cD h rfl e⟩,trivial⟩
  refine ax.tY hT lU hm (x:=wh) [1,1,1,0,1] (i:=2) (y:=pZ) (z:=part wh [1,1,1,1]) ag ag ag ag hk (f1:=[76]) 60 j6 6
   (fun j:Nat=>nK ((c.p.toNat+1:Nat):Int) M j) (fun j=>eo c ((c.p.toNat+1:Nat):Int) (c.n+bU c.k c.n c.n) (cU c.k c.n c.n) j G) (fun j=>j<=M) (fun j=>j=M) (fun j=>M-j) (fun _=>False) ⟨_,YW,?_⟩ (fun j hj=>?_) (fun j hj=>?_) (fun _ _ h=>h.elim)
  ·simp only[ah.all,az,eM,aZ,bk]
   refine⟨⟨aa,bY (by decide),aa,aa,aa⟩,fun h=>absurd h aa,fun h=>⟨⟨aa,bY (by decide),iM (by decide),aa,aa⟩,0,Nat.zero_le _,[(0,0),(1,1),(2,2),(3,3),(4,36868)],rfl,rfl,rfl,gU rfl aa aa (aB (bp (bD rfl rfl (fW ⟨⟨rfl,aN rfl⟩,⟨rfl,cD rfl rfl rfl⟩,⟨rfl,iZ aa⟩,trivial⟩) (aB (aB trivial)))))⟩⟩
  ·have re:cP [] (nK ((c.p.toNat+1:Nat):Int) M j,eo c ((c.p.toNat+1:Nat):Int) (c.n+bU c.k c.n c.n) (cU c.k c.n c.n) j G) (nK ((c.p.toNat+1:Nat):Int) M j) (eo c ((c.p.toNat+1:Nat):Int) (c.n+bU c.k c.n c.n) (cU c.k c.n c.n) j G) 6:=⟨[(0,0),(1,1),(2,2),(3,3),(4,4),(5,5)],rfl,rfl,rfl,bp (aB (bp (bD rfl rfl (hv2 rfl rfl rfl) (aB (aB trivial)))))⟩
   refine ax.nP hT lU hm (y:=pZ) (x1:=rB) (zb:=part pZ [1,1]) [1,0] (j:=3) ag ag ag ag hk (f1:=[82]) 60 j6 6 (fun _:Unit=>nK ((c.p.toNat+1:Nat):Int) M j) (fun _=>eo c ((c.p.toNat+1:Nat):Int) (c.n+bU c.k c.n c.n) (cU c.k c.n c.n) j G) (fun _=>j<M) ⟨_,Z3,?_⟩ (fun _ hj'=>?_)
   ·simp only[ah.all,az,aZ,bk]
    exact⟨fun h1=>⟨(),aa,[(0,0),(1,1),(2,2),(3,3),(4,4),(5,5)],rfl,rfl,rfl,bp (aB (bp (bD rfl rfl (hv2 rfl rfl rfl) (aB (aB trivial)))))⟩,fun h1 s' hs'=>⟨rfl,j,by dsimp only;omega,cP.le ⟨[(0,0),(1,1),(2,2),(3,3),(4,4),(5,5)],rfl,rfl,rfl,bp (aB (bp (bD rfl rfl (hv2 rfl rfl rfl) (aB (aB trivial)))))⟩ hs' hk⟩⟩
   have hj':j<M:=hj'
   refine ab0 hk k1 k2 k3 aa aa k5 aa aa hK.sorted (hK.KZ aa) (fun i h1 h2 h3=>N7 k1 aa h2) (by rw[hG]) fun s' hle=>?_
   refine ax.jA hle (ax.bA hT lU hm 60 j6 Yt ag ?_)
   simp only[ah.all,az]
   exact⟨aa,fun s'' hs''=>⟨j+1,by dsimp only;omega,by dsimp only;omega,cP.le ⟨[(0,0),(1,1),(2,2),(3,3),(4,4),(5,5)],rfl,rfl,rfl,bp (aB (bp (bD rfl rfl (hv2 rfl rfl rfl) (aB (aB trivial)))))⟩ hs'' hk⟩⟩
  ·have hj:j=M:=hj
   subst hj
   refine ax.j3 ((aI.fin hT lU hm 60 VS ag ?_).mono fun _ _ h=>.inl h)
   simp only[ah.all,az]
   refine⟨⟨aa,aa⟩,aa,?_,?_,trivial⟩
   ·rw[show fc c=nT (lY (b7 c))from if_neg aa]
    refine cC ⟨bQ hq.symm,fq fun i _=>.refl _,mC hM fun i _=>?_,trivial⟩
    rw[hG,<-hq];exact .refl _
   ·rw[show jE c=0 from if_neg aa];exact .refl _
def WH:Spec:=cN (kC (jb 2000 2000) kN) (fun a=>.tuple [aS (fc a.1) 2000 (bZ+bZ+1),.int .i64 (jE a.1)]) fun a=>[fe a.1,a.1.n<=20]
theorem abJ:∀K args pre q,WH K args pre=some q->aE P xE K args pre q:=cy fun⟨c,_⟩ K hn=>Wj hn.1 hn.2 K
theorem acR:aT P Kh CG (aA CG):=aY Proofs.Tryz.func112 ag ag ag
theorem MD:aT P C2 B8 (aA B8):=aY Proofs.Tryz.func41 ag ag ag
def NI:bg:=[(uf,iW vZ),(K0,iW I3),(rC,Aw)]
def vY (n:Nat) (f:Nat->AV) (a:Int) (b:Bool):Pl:=⟨⟨gQ n f a,gQ n f (gq n f a),if b=true then 0 else gQ n f (gq n f (gq n f a))⟩,((1+dx n f (jU n f a) 3:Int):Rat)⟩
def HD (n:Nat) (f:Nat->AV) (a:Int):Int:=bV n (jU n f a)
def JD (n:Nat) (f:Nat->AV) (a:Int) (l:List AV):Option (AV×Int×List Prop):=match l with
 |[.bool b]=>some (bE (vY n f a b) 64,HD n f a,[])
 |_=>none
def Bh:bg:=nG::(uf,iW vZ)::(FG,iW K1)::(Kh,iW JD)::[]
abbrev Az:List Nat:=[0,3,8,9,10]
abbrev KR (b:Bool) (i:Nat):List AV:=[.ptr 0 0 2 0 [],.bool b,.ptr 1 0 3 0 [],.ptr 2 0 3 0 [],.int .i64 i]
abbrev J2 (n:Nat) (z:Nat->Int) (a p:Int) (N:Nat) (k:Nat->Rat) (f:Nat->Pl) (j:Nat):aF:=
 [(3,⟨true,true,12,j,fun i=>bE (f i) 64⟩),(2,⟨false,true,3,1,fun _=>.agg [.int .i64 p,bq k N 64,.own 3 12 0 j]⟩),(1,⟨false,true,3,1,fun _=>.agg [.int .i64 0,.nil,.nil]⟩),(0,lS n z a)]
abbrev Ay:Code:=aA B8
theorem acw {n:Nat} {z:Nat->Int} {a:Int} {b:Bool}:vK T NI [8] 60 CG (aA CG) ⟨aQ 0 [.ptr 0 0 2 0 [],.bool b],[(0,lS n z a)],1⟩=
  let c9:Int:=gq n (fun i=>int i64 (z i)) a;let c8:AV:=rat (gQ n (fun i=>int i64 (z i)) a) 64;let c6:Int:=jU n (fun i=>int i64 (z i)) a;let c4:Prop:=0<1;let c5:AV:=rat (gQ n (fun i=>int i64 (z i)) c9) 64;let c3:Option ak:=some (ak.mk false true 2 1 fun x=>agg [aq 1 n fun i=>int i64 (z i),int i64 (bV n c6)]);let c1:Int:=i64.wrap ((1:Int)+(dx n (fun i=>int i64 (z i)) c6 (3:Int)).tmod (3:Int));let c7:AV:=rat (↑c1:Rat) (Max.max 1 (bN c1.natAbs));let c2:List Prop:=[c4,dh n (fun i=>int i64 (z i)) c6,(0:Int)<(3:Int),(3:Int)<(2:Int)^62,(3:Int)≠(0:Int),-(2:Int)^63<=c1,c1<(2:Int)^63,c4];some (aj [dh n (fun i=>int i64 (z i)) a,c4] (fork b (aj [(0:Int)<=(2:Int)/\(2:Int)<(↑(3:Nat):Int),c4] (aj c2 (aj [c4] (leaf ret ([agg [agg [c8,c5,agg [AV.bool false,mag 0,mag 0]],c7]],c3))))) (aj c2 (aj [c4] (leaf ret ([agg [agg [c8,c5,rat (gQ n (fun i=>int i64 (z i)) (gq n (fun i=>int i64 (z i)) c9)) 64],c7]],c3)))))):=ag
theorem ajr {n:Nat} {z:Nat->Int} {a p m:Int} {b:Bool}:aH T Bh [] 60 Az (before Ay [1,1,1,0,1]) ⟨aQ 0 [.ptr 0 0 2 0 [],.int .i64 p,.int .i64 m,.bool b],[(0,lS n z a)],1⟩=
  let c4:Prop:=0<1;let c2:AV:=agg [int i64 0,nil,nil];let c1:Int:=(1:Int)+dx n (fun i=>int i64 (z i)) a p;let c3:AV:=aV (agg (c2.kids.set 0 (aV (int i64 c1))));some (aj [dh n (fun i=>int i64 (z i)) a,(0:Int)<p,p<(2:Int)^62,-(2:Int)^63<=c1/\c1<(2:Int)^63,c4] (aj [c4,dh n (fun i=>int i64 (z i)) (bV n a),(1:Int)<=c1,c1<(1000:Int),(0:Int)<=m,m<(1000:Int),c4] (leaf normal ([ptr 0 0 2 0 [],AV.bool b,ptr 1 0 3 0 [],ptr 24577 0 3 0 [],int i64 0],[((24577:Nat),aJ fun j=>if(j==0)=true then agg ((if((0:Nat)==0)=true then c3 else c2).kids.set 1 (aV (bq (uU n (fun i=>int i64 (z i)) (bV n a) c1.toNat m.toNat) (s5 n (fun i=>int i64 (z i)) (bV n a) c1.toNat m.toNat) 64)))else if(j==0)=true then c3 else c2),((1:Nat),aJ fun x=>c2),(0,ak.mk false true 2 1 fun x=>agg [aq 1 n fun i=>int i64 (z i),int i64 (sD n (fun i=>int i64 (z i)) (bV n a) c1.toNat m.toNat)])])))):=ag
theorem aaJ {n N j:Nat} {z:Nat->Int} {a p:Int} {k:Nat->Rat} {f:Nat->Pl} {b:Bool}:aH T Bh [30] 60 Az [part Ay [1,1,1,0,1,0,0]] ⟨aC Az (KR b j),J2 n z a p N k f j,4⟩=
  let c15:Int:=(↑j:Int);let c14:Int:=(↑N:Int)-p;let c13:Int:=gq n (fun i=>int i64 (z i)) a;let c12:AV:=own 3 12 0 j;let c11:AV:=aq 1 n fun i=>int i64 (z i);let c9:AV:=ptr 2 0 3 0 [];let c8:AV:=ptr 1 0 3 0 [];let c7:AV:=ptr 0 0 2 0 [];let c6:Prop:=0<1;let c5:AV:=rat 0 1;let c2:Nat×ak:=((1:Nat),aJ fun x=>agg [int i64 0,nil,nil]);let c1:Int:=(2:Int)^63;let c10:Int:=c15+(1:Int);let c4:Int:=c14-(1:Int);let c3:AV:=agg [int i64 p,bq k N 64,c12];some (aj [c6,c6,-c1<=c14/\c14<c1,-c1<=c4/\c4<c1] (fork (decide (c15<c4)) (aj [c6,dh n (fun i=>int i64 (z i)) a,(1:Nat)*12<=2^24,(j+1)*((224:Nat)+1)*2<=2^47,c6] (aj [-c1<=c10/\c10<c1] (leaf normal ([c7,AV.bool b,c8,c9,int i64 c10],[(61444,ak.mk true true 12 (j+1) fun i=>if i<j then bE (f i) 64 else nth [agg [agg [rat (gQ n (fun i=>int i64 (z i)) a) 64,rat (gQ n (fun i=>int i64 (z i)) c13) 64,rat (if b=true then 0 else gQ n (fun i=>int i64 (z i)) (gq n (fun i=>int i64 (z i)) c13)) 64],rat (↑((1:Int)+dx n (fun i=>int i64 (z i)) (jU n (fun i=>int i64 (z i)) a) (3:Int)):Rat) 64]] (agg [agg [c5,c5,c5],c5]) (i-j+0)),((2:Nat),aJ fun j_1=>if(j_1==0)=true then agg (c3.kids.set 2 (aV (own (nat_lit 61443+1) 12 0 (j+1))))else c3),c2,(0,ak.mk false true 2 1 fun x=>agg [c11,int i64 (HD n (fun i=>int i64 (z i)) a)])])))) (leaf (exit 0) ([c7,AV.bool b,c8,c9,int i64 c15],[(3,ak.mk true true 12 j fun i=>agg [agg [rat (f i).n.x 64,rat (f i).n.y 64,rat (f i).n.z 64],rat (f i).d 64]),((2:Nat),aJ fun x=>agg [int i64 p,aq 3 N fun i=>rat (k i) 64,c12]),c2,(0,ak.mk false true 2 1 fun x=>agg [c11,int i64 a])])))):=ag
theorem ad4 {n N j:Nat} {z:Nat->Int} {a p:Int} {k:Nat->Rat} {f:Nat->Pl} {b:Bool}:Ed T Bh [] 60 B8 [part Ay [1,1,1,1]] ⟨aC Az (KR b j),J2 n z a p N k f j,4⟩=
  let c1:Prop:=0<1;some (aj [c1,c1] (aj [c1] (leaf ret ([agg [int i64 p,aq 3 N fun i=>rat (k i) 64,aq 12 j fun i=>agg [agg [rat (f (i+0)).n.x 64,rat (f (i+0)).n.y 64,rat (f (i+0)).n.z 64],rat (f (i+0)).d 64]]],some (ak.mk false true 2 1 fun x=>agg [aq 1 n fun i=>int i64 (z i),int i64 a]))))):=ag
theorem afS:bz P NI:=aL Ci (aL afD (aL Cw bO))
theorem adN:∀K args pre r,iW JD K args pre=some r->aE P Kh K args pre r:=by
 refine wm fun {k n z a l v b q o} K hg ho hd hq=>?_
 unfold JD at hg
 split at hg
 ·rename_i b
  simp only[ay,Prod.mk.injEq]at hg
  obtain⟨rfl,rfl,rfl⟩:=hg
  refine Cm hT afS hm acR rfl rfl aX ho 60 acw (fun _=>?_) K
  have a1:=iQ (n:=n) (f:=fun i=>.int .i64 (z i)) (a:=jU n (fun i=>.int .i64 (z i)) a) (m:=3) aa
  have a2:=iV (n:=n) (f:=fun i=>.int .i64 (z i)) (a:=jU n (fun i=>.int .i64 (z i)) a) (m:=3) aa
  unfold vY
  generalize dx n (fun i=>.int .i64 (z i)) (jU n (fun i=>.int .i64 (z i)) a) 3=x at*
  have e1:x.tmod 3=x:=by rw[Int.tmod_eq_of_lt a1 a2]
  have e2:i64.wrap (1+x)=1+x:=wrap_i64 aa aa
  simp only[ah.all,az,e1,e2]
  have hw:bG (.rat ((1+x:Int):Rat) (max 1 (bN (1+x).natAbs))) (.rat ((1+x:Int):Rat) 64):=dA rfl (Oa (y:=0) aa aa)
  refine⟨⟨hd,aa⟩,fun hb=>⟨aa,⟨aa,hd.Je,aa,aa,aa,aa,aa,aa⟩,aa,?_,_,rfl,rfl,oB rfl rfl⟩,fun hb=>⟨⟨aa,hd.Je,aa,aa,aa,aa,aa,aa⟩,aa,?_,_,rfl,rfl,oB rfl rfl⟩⟩
  ·rw[if_pos hb]
   exact cC ⟨cC ⟨.refl _,.refl _,uj (q:=(0:Rat)) ⟨by decide,by decide⟩ rfl rfl rfl,trivial⟩,hw,trivial⟩
  ·rw[if_neg (by rw[hb];decide)]
   exact cC ⟨.refl _,hw,trivial⟩
 ·simp at hg
theorem MQ:bz P Bh:=cZ (aL Ci (aL abF (aL adN bO)))
def kB (n:Nat) (f:Nat->AV) (a:Int):Nat->Int
 |0=>a
 |j+1=>HD n f (kB n f a j)
theorem dh.yQ {n:Nat} {f:Nat->AV} {a:Int} (h:dh n f a):∀j,dh n f (kB n f a j)
 |0=>h
 |j+1=>(h.yQ j).Je.next
theorem dh.fP {n:Nat} {f:Nat->AV} {a:Int} {p m:Nat} (h:dh n f a) (hp:1<=p):dh n f (sD n f a p m):=(ya h hp _).2
def l9 (n:Nat) (f:Nat->AV) (a d:Int):Nat:=(1+dx n f a d).toNat
def nJ (n:Nat) (f:Nat->AV) (a d:Int) (m:Nat):Int:=sD n f (bV n a) (l9 n f a d) m
def gp (n:Nat) (f:Nat->AV) (a d:Int) (m:Nat) (b:Bool):Cu:=
 ⟨(l9 n f a d:Nat),s5 n f (bV n a) (l9 n f a d) m,uU n f (bV n a) (l9 n f a d) m,l9 n f a d+1+kY n f (bV n a) m,fun i=>vY n f (kB n f (nJ n f a d m) i) b⟩
def KM (n:Nat) (f:Nat->AV) (a d:Int) (m:Nat):Int:=kB n f (nJ n f a d m) (l9 n f a d+1+kY n f (bV n a) m)
def KJ (n:Nat) (f:Nat->AV) (a:Int) (l:List AV):Option (AV×Int×List Prop):=match l with
 |[.int .i64 d,.int .i64 m,.bool b]=>some (aS (gp n f a d m.toNat b) 64 64,KM n f a d m.toNat,[1<=d,d<900,0<=m,m<900])
 |_=>none
theorem Ky {n:Nat} {f:Nat->AV} {a:Int} {m:Nat}:kY n f a m<=m:=by
 have h1:=iQ (n:=n) (f:=f) (a:=bV n a) (m:=m+1) aa
 have h2:=iV (n:=n) (f:=f) (a:=bV n a) (m:=m+1) aa
 unfold kY;omega
theorem abE {k n m:Nat} {z:Nat->Int} {a d:Int} {b:Bool} {o:ak} (ho:∀ρ,cV ρ o (lS n z a)) (h:dh n (fun i=>.int .i64 (z i)) a) (hd1:1<=d) (hd2:d<900) (hm2:m<900) (K:Nat):
  aE P C2 K [.ptr k 0 2 0 [],.int .i64 d,.int .i64 m,.bool b] [(k,o)] ⟨aS (gp n (fun i=>.int .i64 (z i)) a d m b) 64 64,[(k,lS n z (KM n (fun i=>.int .i64 (z i)) a d m))],[]⟩:=by
 refine NZ hT MD rfl rfl aX ho (fun _ c hk=>?_) K
 have a1:=iQ (n:=n) (f:=fun i=>.int .i64 (z i)) (a:=a) (m:=d) aa
 have a2:=iV (n:=n) (f:=fun i=>.int .i64 (z i)) (a:=a) (m:=d) aa
 have hJ:=Ky (n:=n) (f:=fun i=>.int .i64 (z i)) (a:=bV n a) (m:=m)
 unfold gp KM nJ l9
 obtain⟨p,hp⟩:∃p,p=(1+dx n (fun i=>.int .i64 (z i)) a d).toNat:=⟨_,rfl⟩
 have hp2:1+dx n (fun i=>.int .i64 (z i)) a d=(p:Int):=aa
 rw[<-hp]
 have hB:=(h.next.fP (p:=p) (m:=m) aa)
 obtain⟨N,hN⟩:∃N,N=s5 n (fun i=>.int .i64 (z i)) (bV n a) p m:=⟨_,rfl⟩
 obtain⟨kk,hkk⟩:∃kk,kk=uU n (fun i=>.int .i64 (z i)) (bV n a) p m:=⟨_,rfl⟩
 obtain⟨B,hB2⟩:∃B,B=sD n (fun i=>.int .i64 (z i)) (bV n a) p m:=⟨_,rfl⟩
 have hN2:N=2*p+2+kY n (fun i=>.int .i64 (z i)) (bV n a) m:=hN
 rw[<-hN,<-hkk,<-hB2]
 rw[<-hB2]at hB
 generalize kY n (fun i=>.int .i64 (z i)) (bV n a) m=J at*
 refine ax.kG hT MQ hm [1,1,1,0,1] (i:=0) (y:=part Ay [1,1,1,0,1,0,0]) (z:=part Ay [1,1,1,1]) ag ag ag MD.dst hk (f1:=[]) (f2:=[30]) 60 Az 4 (fun j:Nat=>KR b j)
  (fun j=>J2 n z (kB n (fun i=>.int .i64 (z i)) B j) p N kk (fun i=>vY n (fun i=>.int .i64 (z i)) (kB n (fun i=>.int .i64 (z i)) B i) b) j) (fun j=>j<=p+1+J) (fun j=>j=p+1+J) (fun j=>p+1+J-j) (fun _=>False) ⟨_,ajr,?_⟩ (fun j hj=>⟨_,aaJ,?_⟩) (fun j hj=>?_) (fun _ _ h=>h.elim)
 ·simp only[ah.all,az,hp2,aW]
  rw[<-hN,<-hkk,<-hB2]
  exact⟨⟨h,aa,aa,aa,aa⟩,⟨aa,h.next,aa,aa,aa,aa,aa⟩,0,Nat.zero_le _,[(0,0),(1,1),(2,24577)],rfl,rfl,rfl,
   gU rfl aa aa (bD rfl rfl (fW ⟨⟨rfl,aN rfl⟩,⟨rfl,aN rfl⟩,⟨rfl,iZ aa⟩,trivial⟩) (aB (aB trivial)))⟩
 ·simp only[ah.all,az,aZ,bk]
  have hv:∀{rl:List (Nat×Nat)} {a l:Nat},bh rl 3=some a->eG rl (.agg [.int .i64 p,bq kk N 64,.own a 12 0 l]) (.agg [.int .i64 p,bq kk N 64,.own 3 12 0 l]):=fun h=>fW ⟨⟨rfl,aN rfl⟩,⟨rfl,aN rfl⟩,⟨rfl,cD h rfl rfl⟩,trivial⟩
  refine⟨⟨aa,aa,aa,aa⟩,fun h=>⟨⟨aa,hB.yQ j,aa,aa,aa⟩,aa,j+1,aa,by dsimp only;omega,[(0,0),(1,1),(2,2),(3,61444)],rfl,rfl,rfl,
   bL rfl rfl rfl (fun i hi=>Bo (y:=fun i=>vY n (fun i=>.int .i64 (z i)) (kB n (fun i=>.int .i64 (z i)) B i) b) (fun _ _=>rfl) (.refl _) rfl aU aU hi) (bD rfl rfl (hv rfl) (aB (aB trivial)))⟩,
   fun h=>⟨rfl,j,aa,[(0,0),(1,1),(2,2),(3,3)],rfl,rfl,rfl,bp (bD rfl rfl (hv rfl) (aB (aB trivial)))⟩⟩
 ·subst hj
  refine ax.j3 (aI.MF hT MQ hm 60 ad4 ag ?_)
  simp only[ah.all,az]
  exact⟨aa,aa,.refl _,_,rfl,rfl,oB rfl rfl⟩
theorem V0:∀K args pre r,iW KJ K args pre=some r->aE P C2 K args pre r:=by
 refine wm fun {k n z a l v b q o} K hg ho hd hq=>?_
 unfold KJ at hg
 split at hg
 ·rename_i d m b
  simp only[ay,Prod.mk.injEq]at hg
  obtain⟨rfl,rfl,rfl⟩:=hg
  obtain⟨h1,h2,h3,h4⟩:=hq
  have h4:m<900:=h4
  have:=abE (k:=k) (m:=m.toNat) (b:=b) ho hd h1 h2 aa K
  rw[Int.toNat_of_nonneg h3]at this
  exact this
 ·simp at hg
theorem QV {n m:Nat} {f:Nat->AV} {a d:Int} {b:Bool} (h:dh n f a) (hd:1<=d):Kn (gp n f a d m b).n (gp n f a d m b).p.toNat (gp n f a d m b).k/\1<=(gp n f a d m b).p/\(gp n f a d m b).p<=d/\((gp n f a d m b).m:Int)=((gp n f a d m b).n:Int)-(gp n f a d m b).p-1/\
  (gp n f a d m b).m<=(gp n f a d m b).p.toNat+1+m/\∀i,1<=((gp n f a d m b).f i).d/\((gp n f a d m b).f i).d<=3:=by
 have a1:=iQ (n:=n) (f:=f) (a:=a) (m:=d) aa
 have a2:=iV (n:=n) (f:=f) (a:=a) (m:=d) aa
 have hJ:=Ky (n:=n) (f:=f) (a:=bV n a) (m:=m)
 unfold gp
 obtain⟨p,hp⟩:∃p,p=l9 n f a d:=⟨_,rfl⟩
 have hp2:1+dx n f a d=(p:Int):=by rw[hp];unfold l9;omega
 rw[<-hp]
 dsimp only
 refine⟨?_,aa,aa,?_,aa,fun i=>?_⟩
 ·rw[aW]
  exact(ya h.next aa _).1.done
 ·have:s5 n f (bV n a) p m=2*p+2+kY n f (bV n a) m:=rfl
  omega
 ·have c1:=iQ (n:=n) (f:=f) (a:=jU n f (kB n f (nJ n f a d m) i)) (m:=3) aa
  have c2:=iV (n:=n) (f:=f) (a:=jU n f (kB n f (nJ n f a d m) i)) (m:=3) aa
  unfold vY
  dsimp only
  generalize dx n f (jU n f (kB n f (nJ n f a d m) i)) 3=x at*
  exact⟨by exact_mod_cast (show 1<=1+x by omega),by exact_mod_cast (show 1+x<=3 by omega)⟩
def kT (x:Rat):Prop:=∃z:Int,x=(z:Rat)/2/\-4<=z/\z<=28
theorem aiU {z:Int}:(z:Rat)/2*55440=((27720*z:Int):Rat):=by
 rw[Rat.intCast_mul,Rat.div_def,show((27720:Int):Rat)=(2:Rat)⁻¹*55440 by decide+kernel];grind
theorem kT.isD {x:Rat} (h:kT x):gl x:=by
 obtain⟨z,e,h1,h2⟩:=h
 exact⟨27720*z,by rw[e,aiU],aa,aa⟩
theorem SA {n m:Nat} {f:Nat->AV} {a d:Int} {b:Bool} (h:dh n f a) (hd:1<=d) (hm4:m<=4) (i:Nat):kT ((gp n f a d m b).k i):=by
 have a1:=iQ (n:=n) (f:=f) (a:=a) (m:=d) aa
 have hJ:=Ky (n:=n) (f:=f) (a:=bV n a) (m:=m)
 have hp:1<=l9 n f a d:=by unfold l9;omega
 obtain⟨z,e,h1,h2⟩:=(ya (p:=l9 n f a d) h.next hp (kY n f (bV n a) m)).1.NW i
 exact⟨z,e,h1,aa⟩
theorem afH {x y:Int} {k:Nat} (hx:x.natAbs<2^k) (hy:y≠0) (hy2:y.natAbs<2^k):Sz ((x:Rat)/(y:Rat)) k:=by
 rw[<-C5 hy];exact BQ aa hx hy2
theorem J7 {n:Nat} {f:Nat->AV} {a:Int}:Sz (gQ n f a) 3:=by
 have a1:=iQ (n:=n) (f:=f) (a:=a) (m:=13) aa
 have a2:=iV (n:=n) (f:=f) (a:=a) (m:=13) aa
 have b1:=iQ (n:=n) (f:=f) (a:=bV n (bV n a)) (m:=4) aa
 have b2:=iV (n:=n) (f:=f) (a:=bV n (bV n a)) (m:=4) aa
 unfold gQ
 split
 ·exact afH aa aa aa
 ·exact mS aa (by decide)
theorem aiS {n m:Nat} {f:Nat->AV} {a d:Int} (h:dh n f a) (hd:1<=d) (hd6:d<=6) (hm4:m<=4):fY (gp n f a d m false) 5:=by
 obtain⟨k1,k2,k3,k4,k5,k6⟩:=QV (m:=m) (b:=false) h hd
 have hw:∀i,Sz ((gp n f a d m false).f i).d 2:=fun i=>by
  have b1:=iQ (n:=n) (f:=f) (a:=jU n f (kB n f (nJ n f a d m) i)) (m:=3) aa
  have b2:=iV (n:=n) (f:=f) (a:=jU n f (kB n f (nJ n f a d m) i)) (m:=3) aa
  exact mS (x:=1+dx n f (jU n f (kB n f (nJ n f a d m) i)) 3) (n:=2) aa (by decide)
 refine⟨⟨k1,k2,aa,aa,k4⟩,fun i=>?_,fun i=>(SA h hd hm4 i).isD,fun i=>?_,fun i=>?_,fun i=>?_,fun i=>(hw i).more (by decide)⟩
 ·have:=(k6 i).1
  grind
 ·exact(hw i).mul J7
 ·exact(hw i).mul J7
 ·have hz:((gp n f a d m false).f i).n.z=gQ n f (gq n f (gq n f (kB n f (nJ n f a d m) i))):=rfl
  show Sz (((gp n f a d m false).f i).d*((gp n f a d m false).f i).n.z) 5
  rw[hz]
  exact(hw i).mul J7
open Go
def LQ:Int:=144403552893600
theorem Yw:∀v:Nat,v<33->v≠0->v∣144403552893600:=by decide
theorem I5 {v:Int} (h:v.natAbs<33) (h0:v≠0):∃w:Int,LQ=v*w/\w.natAbs<=144403552893600:=by
 obtain⟨w,e⟩:=Yw v.natAbs h aa
 have hw:w<=144403552893600:=by
  rw[e];exact Nat.le_mul_of_pos_left _ aa
 rcases Int.natAbs_eq v with g|g
 ·refine⟨w,?_,by simpa using hw⟩
  rw[g]
  show(144403552893600:Int)=((v.natAbs:Nat):Int)*((w:Nat):Int)
  rw[<-Int.natCast_mul,<-e];rfl
 ·refine⟨-(w:Int),?_,by simpa using hw⟩
  rw[g]
  show(144403552893600:Int)=-((v.natAbs:Nat):Int)*(-((w:Nat):Int))
  rw[Int.neg_mul_neg,<-Int.natCast_mul,<-e];rfl
def iU (t:Rat):Prop:=∃z:Int,t=(z:Rat)/2/\-4<=z/\z<=28
def ep (r:Nat) (x:Rat):Prop:=∃z:Int,(z:Rat)=x*((LQ^(r+1):Int):Rat)/\z.natAbs<=2^(53+54*r)
theorem W2 {r:Nat}:((LQ^r:Int):Rat)≠0:=fun h=>by
 have h:((LQ^r:Int):Rat)=((0:Int):Rat):=h
 have:=Rat.intCast_inj.1 h
 exact absurd this (Int.pow_ne_zero (by decide))
theorem ep.sz {r:Nat} {x:Rat} (h:ep r x):Sz x (102+102*r):=by
 obtain⟨z,e,b⟩:=h
 have hx:x=(z:Rat)/((LQ^(r+1):Int):Rat):=by rw[e,Rat.div_def,Rat.mul_assoc,Rat.mul_inv_cancel _ W2,Rat.mul_one]
 rw[hx]
 have s1:Sz (z:Rat) (54+54*r):=mS (Nat.lt_of_le_of_lt b (Nat.pow_lt_pow_right (by decide) aa)) aa
 have s2:Sz ((LQ^(r+1):Int):Rat) (48*(r+1)):=mS (by
  rw[Int.natAbs_pow,Nat.pow_mul]
  exact Nat.pow_lt_pow_left (by decide) aa) aa
 exact(s1.div s2).more aa
theorem ep.up {r:Nat} {x:Rat} (h:ep r x):ep (r+1) x:=by
 obtain⟨z,e,b⟩:=h
 refine⟨z*LQ,?_,?_⟩
 ·rw[Rat.intCast_mul,e,Int.pow_succ LQ (r+1),Rat.intCast_mul,Rat.mul_assoc]
 ·rw[Int.natAbs_mul,show 53+54*(r+1)=(53+54*r)+54 by omega,Nat.pow_add]
  exact Nat.mul_le_mul b (by decide)
theorem ep.D3 {x:Rat} (h:Sz x 5):ep 0 x:=by
 obtain⟨h1,h2⟩:=h
 obtain⟨w,e,hw⟩:=I5 (v:=(x.den:Int)) (by simpa using by omega) (by have:=x.den_nz;omega)
 refine⟨x.num*w,?_,?_⟩
 ·rw[show LQ^(0+1)=(x.den:Int)*w by rw[<-e];rfl,Rat.intCast_mul,Rat.intCast_mul,<-Rat.mul_assoc]
  congr 1
  have hd:((x.den:Int):Rat)≠0:=by exact_mod_cast x.den_nz
  have hx:x=(x.num:Rat)/((x.den:Int):Rat):=by rw[<-Rat.divInt_eq_div,Rat.num_divInt_den]
  have key:x*((x.den:Int):Rat)=(x.num:Rat):=by
   conv=>lhs;lhs;rw[hx]
   exact Rat.div_mul_cancel hd
  exact key.symm
 ·rw[Int.natAbs_mul]
  exact Nat.le_trans (Nat.mul_le_mul (show x.num.natAbs<=32 by omega) hw) (by decide)
theorem ep.mix {r:Nat} {x y a b t:Rat} (ha:iU a) (hb:iU b) (ht:iU t) (hx:ep r x) (hy:ep r y):ep (r+1) (x+fr a b t*(y-x)):=by
 obtain⟨za,a1,a2,a3⟩:=ha
 obtain⟨zb,b1,b2,b3⟩:=hb
 obtain⟨zt,t1,t2,t3⟩:=ht
 have e1:b-a=((zb-za:Int):Rat)/2:=by rw[a1,b1,Rat.intCast_sub,Rat.div_def,Rat.div_def,Rat.div_def];grind
 have e2:t-a=((zt-za:Int):Rat)/2:=by rw[a1,t1,Rat.intCast_sub,Rat.div_def,Rat.div_def,Rat.div_def];grind
 by_cases hv:zb-za=0
 ·have:fr a b t=0:=by
   unfold fr
   rw[e1,hv,Rat.div_def,show((0:Int):Rat)/2=0 by decide+kernel,Rat.inv_zero,Rat.mul_zero]
  rw[this,Rat.zero_mul,Rat.add_zero]
  exact hx.up
 ·have hvq:((zb-za:Int):Rat)≠0:=fun h=>hv (Rat.intCast_inj.1 (show((zb-za:Int):Rat)=((0:Int):Rat)from h))
  have hf:fr a b t*((zb-za:Int):Rat)=((zt-za:Int):Rat):=by
   unfold fr
   have hn:b-a≠0:=by
    rw[e1]
    intro h
    apply hvq
    have:((zb-za:Int):Rat)=((zb-za:Int):Rat)/2*2:=by rw[Rat.div_mul_cancel (by decide)]
    rw[this,h,Rat.zero_mul]
   have h2:((zb-za:Int):Rat)=(b-a)*2:=by rw[e1,Rat.div_mul_cancel (by decide)]
   have h3:((zt-za:Int):Rat)=(t-a)*2:=by rw[e2,Rat.div_mul_cancel (by decide)]
   rw[h2,h3,<-Rat.mul_assoc,Rat.div_mul_cancel hn]
  obtain⟨w,hw,wb⟩:=I5 (v:=zb-za) aa hv
  obtain⟨zx,x1,x2⟩:=hx
  obtain⟨zy,y1,y2⟩:=hy
  refine⟨zx*LQ+(zt-za)*w*(zy-zx),?_,?_⟩
  ·have hL:fr a b t*(LQ:Rat)=(((zt-za)*w:Int):Rat):=by
    rw[hw,Rat.intCast_mul,Rat.intCast_mul,<-Rat.mul_assoc,hf]
   rw[Rat.intCast_add,Rat.intCast_mul,Rat.intCast_mul ((zt-za)*w),<-hL,Rat.intCast_sub,x1,y1,Int.pow_succ LQ (r+1),Rat.intCast_mul]
   generalize ((LQ^(r+1):Int):Rat)=m
   generalize (LQ:Rat)=l
   generalize fr a b t=f
   grind
  ·have c1:(zy-zx).natAbs<=2^(53+54*r)+2^(53+54*r):=aa
   have c2:((zt-za)*w).natAbs<=32*144403552893600:=by
    rw[Int.natAbs_mul];exact Nat.mul_le_mul aa wb
   have c3:((zt-za)*w*(zy-zx)).natAbs<=32*144403552893600*(2^(53+54*r)+2^(53+54*r)):=by
    rw[Int.natAbs_mul];exact Nat.mul_le_mul c2 c1
   have c4:(zx*LQ).natAbs<=2^(53+54*r)*144403552893600:=by
    rw[Int.natAbs_mul];exact Nat.mul_le_mul x2 aU
   have c5:=Int.natAbs_add_le (zx*LQ) ((zt-za)*w*(zy-zx))
   rw[show 53+54*(r+1)=(53+54*r)+54 by omega,Nat.pow_add]
   generalize 2^(53+54*r)=B at*
   omega
theorem OF {k:Nat->Rat} {b p:Nat} (hk:∀i,iU (k i)):∀{l:List Rat} {r s:Nat} {x:Nat->Rat},(∀t∈l,iU t)->(∀j,ep s (x j))->∀j,ep (s+l.length) (bl k b p r x l j)
 |[],_,_,_,_,hx,j=>hx j
 |t::l,r,s,x,hl,hx,j=>by
  rw[bl,List.length_cons,show s+(l.length+1)=s+1+l.length by omega]
  refine OF hk (fun u hu=>hl u (List.mem_cons_of_mem _ hu)) (fun q=>?_) j
  unfold gz
  split
  ·exact(hx _).mix (hk _) (hk _) (hl t (List.mem_cons_self ..)) (hx _)
  ·exact(hx _).up
theorem RR {k x:Nat->Rat} {p P:Nat} {l:List Rat} (hk:∀i,iU (k i)) (hl:∀t∈l,iU t) (hx:∀j,ep 0 (x j)):ep l.length (jX k p x P l):=by
 have:=OF (b:=P-p) (p:=p) (r:=0) hk hl (fun j=>hx (P-p+j)) p
 rwa [Nat.zero_add]at this
theorem Su {f:Nat->Rat} {C:Rat->Prop} (h:∀i,C (f i)):∀{l a:Nat},∀t∈b9 f a l,C t
 |0,_,t,ht=>by simp[b9]at ht
 |l+1,a,t,ht=>by
  rw[b9,List.mem_cons]at ht
  rcases ht with rfl|ht
  ·exact h a
  ·exact Su h t ht
def lP (r n:Nat) (x:Rat):Prop:=∃z:Int,(z:Rat)=x*((LQ^(r+2):Int):Rat)/\z.natAbs<=n*(2^48*2^(53+54*r))
theorem lP.zero {r:Nat}:lP r 0 0:=⟨0,by rw[Rat.zero_mul];rfl,by simp⟩
theorem lP.next {r n:Nat} {x y:Rat} {q:Int} (hq:1<=q) (hq7:q<=7) (h:lP r n x) (hy:ep r y):lP r (n+1) (x+((1:Int):Rat)/(q:Rat)*y):=by
 obtain⟨zx,x1,x2⟩:=h
 obtain⟨zy,y1,y2⟩:=hy
 obtain⟨w,hw,wb⟩:=I5 (v:=q) aa aa
 have hqq:(q:Rat)≠0:=fun h=>by
  have:=Rat.intCast_inj.1 (show(q:Rat)=((0:Int):Rat)from h)
  omega
 refine⟨zx+w*zy,?_,?_⟩
 ·have hL:((1:Int):Rat)/(q:Rat)*(LQ:Rat)=(w:Rat):=by
   rw[hw,Rat.intCast_mul,<-Rat.mul_assoc,Rat.div_mul_cancel hqq]
   exact Rat.one_mul _
  rw[Rat.intCast_add,Rat.intCast_mul,<-hL,x1,y1,Int.pow_succ LQ (r+1),Rat.intCast_mul]
  generalize ((LQ^(r+1):Int):Rat)=m
  generalize (LQ:Rat)=l
  generalize ((1:Int):Rat)/(q:Rat)=f
  grind
 ·have c1:(w*zy).natAbs<=2^48*2^(53+54*r):=by
   rw[Int.natAbs_mul];exact Nat.mul_le_mul (Nat.le_trans wb (by decide)) y2
  have c2:=Int.natAbs_add_le zx (w*zy)
  rw[Nat.succ_mul]
  omega
theorem lP.is {r n:Nat} {x:Rat} (h:lP r n x) (hn:n<=7):ep (r+1) x:=by
 obtain⟨z,e,b⟩:=h
 refine⟨z,e,Nat.le_trans b ?_⟩
 have h:n*(2^48*2^(53+54*r))<=7*(2^48*2^(53+54*r)):=Nat.mul_le_mul hn aU
 refine Nat.le_trans h ?_
 rw[show 53+54*(r+1)=(53+54*r)+54 by omega,Nat.pow_add 2 (53+54*r) 54,<-Nat.mul_assoc,Nat.mul_comm (2^(53+54*r))]
 exact Nat.mul_le_mul (by decide) aU
open Go Go.Am.N AV ah au IntKind
theorem oJ {t:Rat} (h:kT t):iU t:=h
theorem Vq {c:Cu} {P e:Nat} {g:Nat->Rat} (hc:Kn c.n c.p.toNat c.k) (hp1:1<=c.p) (hm2:(c.m:Int)=(c.n:Int)-c.p-1) (hA:At c.n c.k P):
  gE c (P:Nat) c.p.toNat g e=jX c.k c.p.toNat (fun i=>ff (c.f i) e) P (b9 g 0 c.p.toNat):=by
 obtain⟨w1,w2⟩:=hc.mT hA
 have hw:=hA.wide
 have hE:ig c.n c.k c.p.toNat c.m c.p.toNat (P:Nat)=0:=Dr aa rfl (by
  rw[aW]
  rintro(h|h|h)
  ·omega
  ·omega
  ·exact absurd h (Rat.not_le.2 hw))
 unfold gE mM
 rw[if_pos hE,aW,Rb];rfl
theorem Sc:iU 0:=⟨0,by decide+kernel,by decide,by decide⟩
theorem JX {k:Nat->Rat} {n:Nat} (h:∀i,iU (k i)):∀{m q:Nat},iU (cU k n m q)
 |0,_=>Sc
 |m+1,q=>by
  rw[cU]
  split
  ·exact JX h
  ·exact h m
theorem ai1 {f:Nat->Rat} {i m q:Nat} (h:∀i,iU (f i)):iU (kP f i m q):=by
 unfold kP
 split
 ·exact Sc
 ·split
  ·exact h _
  ·exact h _
theorem fY.Mu {c:Cu} (h:fY c 5) (e:Nat) (i:Nat):ep 0 (ff (cE (c.f i)) e):=by
 match e with
 |0=>exact ep.D3 (h.sx i)
 |1=>exact ep.D3 (h.sy i)
 |2=>exact ep.D3 (h.sz i)
 |e+3=>exact ep.D3 (h.sd i)
theorem yo {r:Nat} {q:Int} {x:Nat->Pl} (hq:1<=q) (hq7:q<=7) (hx:∀i e,ep r (ff (x i) e)):∀{n:Nat} (e:Nat),lP r n (ff (jC (((1:Int):Rat)/(q:Rat)) x n) e)
 |0,0=>lP.zero
 |0,1=>lP.zero
 |0,2=>lP.zero
 |0,_+3=>lP.zero
 |n+1,0=>(yo hq hq7 hx (n:=n) 0).next hq hq7 (hx n 0)
 |n+1,1=>(yo hq hq7 hx (n:=n) 1).next hq hq7 (hx n 1)
 |n+1,2=>(yo hq hq7 hx (n:=n) 2).next hq hq7 (hx n 2)
 |n+1,e+3=>(yo hq hq7 hx (n:=n) 3).next hq hq7 (hx n 3)
theorem Z1 {c:Cu} {j:Nat} (hc:fY c 5) (hh:∀i,kT (c.k i)) (hj:j<(lY (b7 c)).m) (e:Nat):ep 7 (ff ((lY (b7 c)).f j) e):=by
 obtain⟨k1,k2,k3,k4,k5⟩:=id hc.kn
 have hN:yd (b7 c)=c.n+bU c.k c.n c.n:=rfl
 have hK:=Jq k1
 have hj:j<yd (b7 c)-(c.p.toNat+1)-1:=hj
 rw[hN]at hj
 have hsup:=hK.KZ (j:=j) aa
 obtain⟨s,hs⟩:∃s,s=e9 (cU c.k c.n c.n) (c.n+bU c.k c.n c.n) j:=⟨_,rfl⟩
 obtain⟨g1,g2,g3⟩:j<=s/\s<j+(c.p.toNat+1+1)/\cU c.k c.n c.n s<cU c.k c.n c.n (s+1):=by
  rw[hs]
  exact Lr (n:=c.n+bU c.k c.n c.n) (k:=cU c.k c.n c.n) (pc:=mP (cU c.k c.n c.n) (c.n+bU c.k c.n c.n)) (fun _=>rfl) (fun _ _=>rfl) hsup aa aa
 have hA:=N7 k1 (i:=s) aa g3
 obtain⟨P,hP⟩:∃P,P=fj c.n c.k (cU c.k c.n c.n s):=⟨_,rfl⟩
 rw[<-hP]at hA
 have hx:∀i e,ep c.p.toNat (ff (iy (b7 c) (P:Nat) (c.p.toNat+1) (cU c.k c.n c.n) j i) e):=fun i e=>by
  have key:∀e,ep c.p.toNat (gE (b7 c) (P:Nat) c.p.toNat (fun u=>kP (fun v=>cU c.k c.n c.n (v+(j+1))) i (c.p.toNat+1) u) e):=fun e=>by
   rw[Vq (c:=b7 c) k1 k2 k5 hA]
   have:=RR (k:=c.k) (x:=fun i=>ff (cE (c.f i)) e) (p:=c.p.toNat) (P:=P) (l:=b9 (fun u=>kP (fun v=>cU c.k c.n c.n (v+(j+1))) i (c.p.toNat+1) u) 0 c.p.toNat) (fun i=>oJ (hh i)) (Su fun u=>ai1 fun v=>JX fun i=>oJ (hh i)) (fun j=>hc.Mu e j)
   rwa [kZ]at this
  match e with
  |0=>exact key 0
  |1=>exact key 1
  |2=>exact key 2
  |e+3=>exact key 3
 have hS:=(yo (q:=c.p+1) aa aa hx (n:=c.p.toNat+1) e).is aa
 have up:∀{r s:Nat} {x:Rat},ep r x->ep (r+s) x:=fun {r s x} h=>by
  induction s with
  |zero=>exact h
  |succ s ih=>exact ih.up
 have hS:=up (s:=6-c.p.toNat) hS
 rw[show c.p.toNat+1+(6-c.p.toNat)=7 by omega]at hS
 have ef:(lY (b7 c)).f j=jC (((1:Int):Rat)/((c.p+1:Int):Rat)) (iy (b7 c) (P:Nat) (c.p.toNat+1) (cU c.k c.n c.n) j) (c.p.toNat+1):=by
  rw[hP,hs];rfl
 rw[ef]
 exact hS
theorem wD {t:Rat} (h:iU t):Sz t 2000:=by
 obtain⟨z,e,h1,h2⟩:=h
 rw[e]
 exact((mS (x:=z) (n:=5) aa (by decide)).div (mS (x:=2) (n:=2) (by decide) (by decide))).more (by decide)
theorem IX {x y:Rat} (hx:ep 7 x) (hy:ep 7 y):Sz (x/y) 2000:=(hx.sz.div hy.sz).more (by decide)
theorem Te {c:Cu} {x y:Nat} (hc:fY c 5) (hh:∀i,kT (c.k i)):bG (aS (fc c) x y) (aS (fc c) 2000 2000):=by
 unfold fc
 split
 ·exact cC ⟨.refl _,fq fun i hi=>absurd hi (Nat.not_lt_zero i),fq fun i hi=>absurd hi (Nat.not_lt_zero i),trivial⟩
 ·refine cC ⟨.refl _,fq fun i hi=>dA rfl (wD (JX fun i=>oJ (hh i))),fq fun i hi=>?_,trivial⟩
  have hq:=Z1 hc hh hi
  exact cC ⟨cC ⟨dA rfl (IX (hq 0) (hq 3)),dA rfl (IX (hq 1) (hq 3)),dA rfl (IX (hq 2) (hq 3)),trivial⟩,dA rfl ((hq 3).sz.more (by decide)),trivial⟩
theorem Qm {P:Program} {f:FuncId} {K:Nat} {args us vs:List AV} {l l':List Prop} (hf:aE P f K args [] ⟨.tuple us,[],l⟩) (hl:az l'->az l) (hk:bC us=[]) (hle:eH us vs):aE P f K args [] ⟨.tuple vs,[],l'⟩:=by
 intro need
 obtain⟨h1,h2⟩:=hf (hl need)
 refine⟨fun k o ho=>by simp[look]at ho,fun c D D' β w vs hw0 hMw hrel hD hK hv=>(h2 c D D' β w vs hw0 hMw hrel hD hK hv).mono ?_⟩
 rintro x w' ⟨β',g1,g2,xs,rfl,g3⟩
 exact⟨β',g1,g2,xs,rfl,(xj hle (g3.bB hk)).mono (fun b o h1 h2=>⟨h2,h1⟩) (β':=β') fun k x hx=>by simp[bB]at hx⟩
def DV:Spec:=cN (kC (jb 2000 2000) kN) (fun a=>.tuple [aS (fc a.1) 2000 2000,.int .i64 (jE a.1)]) fun a=>[fY a.1 5,∀i,kT (a.1.k i),a.1.n<=20]
theorem akW:∀K args pre q,DV K args pre=some q->aE P DC K args pre q:=cy fun⟨c,_⟩ K hn=>by
 obtain⟨hc,hh,h20⟩:=hn
 have hc:fY c 5:=hc
 have hh:∀i,kT (c.k i):=hh
 exact Qm (us:=[aS (fc c) (sK+10) (bZ+bZ),.int .i64 (jE c)]) (ahn K [aS c 2000 2000] [] _ rfl) (fun _=>⟨bY aU,iM aU,hc.kn,h20⟩) rfl ⟨Te hc hh,.refl _,trivial⟩
theorem acU:∀K args pre q,DV K args pre=some q->aE P xE K args pre q:=cy fun⟨c,_⟩ K hn=>by
 obtain⟨hc,hh,h20⟩:=hn
 have hc:fY c 5:=hc
 have hh:∀i,kT (c.k i):=hh
 exact Qm (us:=[aS (fc c) 2000 (bZ+bZ+1),.int .i64 (jE c)]) (abJ K [aS c 2000 2000] [] _ rfl) (fun _=>⟨bY aU,iM aU,hc.kn,h20⟩) rfl ⟨Te hc hh,.refl _,trivial⟩
structure fX (c:Cu):Prop where
 d:fY c 5
 h:∀i,kT (c.k i)
structure eE (c d:Cu):Prop where
 kn:fe d
 p:d.p=c.p
 pos:∀i,0<(d.f i).d
 sub:ng c.p.toNat c.n c.k (fun e i=>ff (cE (c.f i)) e) d.n d.k (fun e i=>ff (cE (d.f i)) e)
 kc:∀q,q<d.n->∃r,r<c.n/\d.k q=c.k r
theorem fX.self {c:Cu} (h:fX c):eE c c:=⟨h.d.kn,rfl,h.d.pos,ng.refl,fun q hq=>⟨q,hq,rfl⟩⟩
theorem SX {f:Nat->Rat} {C:Rat->Prop}:∀{l a:Nat},(∀i,a<=i->i<a+l->C (f i))->∀t∈b9 f a l,C t
 |0,_,_,t,ht=>by simp[b9]at ht
 |l+1,a,h,t,ht=>by
  rw[b9,List.mem_cons]at ht
  rcases ht with rfl|ht
  ·exact h a aU aa
  ·exact SX (fun i h1 h2=>h i aa aa) t ht
theorem eE.hf {c d:Cu} (h:eE c d) (hb:fX c) {q:Nat} (hq:q<d.n):iU (d.k q):=by
 obtain⟨r,_,e⟩:=h.kc q hq
 rw[e];exact oJ (hb.h r)
theorem eE.q {c d:Cu} (h:eE c d) (hb:fX c) {j:Nat} (hj:j<d.m) (e:Nat):ep 6 (ff (cE (d.f j)) e):=by
 obtain⟨k1,k2,k3,k4,k5⟩:=id h.kn
 have hp:=h.p
 rw[hp]at k1 k5
 rw[hp]at k2 k3
 obtain⟨Q,_,g1,g2,g3,g4,g5⟩:=k1.piece (j:=j) aa
 obtain⟨P,hP,_,hE⟩:=h.sub.HZ k1 ⟨aa,k1.sorted,g3⟩ g1 g2
 have:=RR (k:=c.k) (x:=fun i=>ff (cE (c.f i)) e) (p:=c.p.toNat) (P:=P) (l:=b9 d.k (j+1) c.p.toNat) (fun i=>oJ (hb.h i)) (SX fun i h1 h2=>h.hf hb aa) (fun j=>hb.d.Mu e j)
 rw[kZ,hE e]at this
 have up:∀{r s:Nat} {x:Rat},ep r x->ep (r+s) x:=fun {r s x} h=>by
  induction s with
  |zero=>exact h
  |succ s ih=>exact ih.up
 have:=up (s:=6-c.p.toNat) this
 rwa [show c.p.toNat+(6-c.p.toNat)=6 by omega]at this
theorem Kw {x y:Rat} (hx:ep 6 x) (hy:ep 6 y):Sz (x/y) 2000:=(hx.sz.div hy.sz).more (by decide)
theorem eE.G8 {c d:Cu} {r:Nat} (h:eE c d) (hb:fX c):bP (fun i=>.rat (d.k i) r) d.n 2000:=fun _ hi=>dA rfl (wD (h.hf hb hi))
theorem eE.pl {c d:Cu} {r i:Nat} (h:eE c d) (hb:fX c) (hi:i<d.m):bG (bE (d.f i) r) (bE (d.f i) 2000):=by
 have e:=we (wN (h.pos i))
 have q:=h.q hb hi
 have x1:Sz (d.f i).n.x 2000:=by rw[<-e];exact Kw (q 0) (q 3)
 have x2:Sz (d.f i).n.y 2000:=by rw[<-e];exact Kw (q 1) (q 3)
 have x3:Sz (d.f i).n.z 2000:=by rw[<-e];exact Kw (q 2) (q 3)
 have x4:Sz (d.f i).d 2000:=(q 3).sz.more (by decide)
 exact cC ⟨cC ⟨dA rfl x1,dA rfl x2,dA rfl x3,trivial⟩,dA rfl x4,trivial⟩
theorem eE.It {c d:Cu} {r:Nat} (h:eE c d) (hb:fX c):fT (fun i=>bE (d.f i) r) d.m 2000:=fun _ hi=>h.pl hb hi
theorem Qf {c:Cu} {x y x' y':Nat} (hx:x<=x') (hy:y<=y'):bG (aS c x y) (aS c x' y'):=
 cC ⟨.refl _,fq fun i _=>bM rfl hx,fq fun i _=>cC ⟨cC ⟨bM rfl hy,bM rfl hy,bM rfl hy,trivial⟩,bM rfl hy,trivial⟩,trivial⟩
theorem eE.up {c d:Cu} {x y:Nat} (h:eE c d) (hb:fX c) (hy:y<=sE):bG (aS d x y) (aS d 2000 sE):=
 cC ⟨.refl _,fq fun i hi=>h.G8 hb i hi,fq fun i _=>cC ⟨cC ⟨bM rfl hy,bM rfl hy,bM rfl hy,trivial⟩,bM rfl hy,trivial⟩,trivial⟩
theorem eE.ins {c d:Cu} {t:Rat} (h:eE c d) (ht:∃r,r<c.n/\t=c.k r) (he:fR d t=0):eE c (j8 d t):=by
 obtain⟨e1,e2,e3,e4⟩:=FL he
 obtain⟨k1,k2,k3,k4,k5⟩:=id h.kn
 obtain⟨i1,i2,i3⟩:=nW k1 e1 e2
 have hp:=h.p
 rw[show j8 d t=nO d t (bT d.n d.k t)from if_pos he]
 have hpos:∀i,0<(lV d t (bT d.n d.k t) i).d:=fun i=>RS h.kn h.pos e1 e2 i1 i2 i3
 refine⟨⟨k1.dD e1 e2 i1 i2 i3 e3,k2,k3,show d.n+1<=d.p.toNat+41 by omega,show((d.m+1:Nat):Int)=((d.n+1:Nat):Int)-d.p-1 by omega⟩,hp,hpos,?_,fun q hq=>?_⟩
 ·have key:=ng.ins (t:=t) h.sub (by rw[<-hp];exact k1) e1 e2 i1 i2 i3 (by rw[<-hp];exact e3)
  have ef:(fun e i=>ff (cE ((nO d t (bT d.n d.k t)).f i)) e)=fun e=>k8 d.k c.p.toNat (fun i=>ff (cE (d.f i)) e) t (bT d.n d.k t):=by
   funext e i
   show ff (cE (eI (lV d t (bT d.n d.k t) i))) e=_
   rw[O7 (wN (hpos i)),<-hp]
   match e with
   |0=>rfl
   |1=>rfl
   |2=>rfl
   |e+3=>rfl
  rw[ef]
  exact key
 ·have hq:q<d.n+1:=hq
  show∃r,r<c.n/\dD d.k t (bT d.n d.k t+1) q=c.k r
  unfold dD
  split
  ·exact h.kc q aa
  ·split
   ·exact ht
   ·exact h.kc (q-1) aa
theorem uk {c d:Cu} {t:Rat} (hq:eE c d) (ht:∃r,r<c.n/\t=c.k r) (h0:d.k 0<t) (h1:t<d.k (d.n-1)) (h40:d.m+d.p.toNat<=40):∀{r:Nat},((bw d.k t d.n+r:Nat):Int)<=d.p->tZ d t r/\eE c (ck d t r)
 |0,_=>⟨⟨rfl,rfl,rfl,rfl,rfl,rfl,rfl⟩,hq⟩
 |r+1,h=>by
  obtain⟨⟨a1,a2,a3,a4,a5,a6,a7⟩,hr⟩:=uk hq ht h0 h1 h40 (r:=r) aa
  have hE:fR (ck d t r) t=0:=Cd (by rw[a6];exact h0) (by rw[a7];exact h1) (by rw[a5,a2];omega) (by rw[a4];omega)
  obtain⟨b1,b2,b3,b4,b5,b6⟩:=LK hr.kn hE
  exact⟨⟨Se a1 hE,b1.trans a2,by rw[show(ck d t (r+1)).n=(ck d t r).n+1 from b2,a3];rfl,by rw[show(ck d t (r+1)).m=(ck d t r).m+1 from b3,a4];rfl,b4.trans (by rw[a5];rfl),b5.trans a6,b6.trans a7⟩,hr.ins ht hE⟩
theorem Wa {g c:Cu} {t:Rat} (hb:fX g) (hc:eE g c) (ht:∃r,r<g.n/\t=g.k r) (h40:c.m+c.p.toNat<=40) (K:Nat):aE P CS K [aS c 2000 2000,.rat t 2000] [] (aK (.tuple [aS (pB c t) 2000 sE,aS (og c t) 2000 sE,.int .i64 (rm c t)]) []):=by
 refine gr (r:=aK (.tuple [aS (pB c t) 2000 sE,aS (og c t) 2000 sE,.int .i64 (rm c t)]) []) hT Q6 rfl aX rfl (fun _ cx h00=>?_) K []
 have hk:=m7 h00
 obtain⟨k1,k2,k3,k4,k5⟩:=id hc.kn
 have hl:=k1.len
 refine ax.kG hT Ks hm (x:=xy) [1,1,0] (i:=0) (y:=part xy [1,1,0,0,0]) (z:=qT) ag ag ag Q6.dst hk (f1:=[16]) (f2:=[25]) 60 vJ 4
  (fun _:Nat=>DO) (fun r=>Bg (ck c t r) t) (fun r=>((bw c.k t c.n+r:Nat):Int)<=c.p/\c.k 0<t/\t<c.k (c.n-1)) (fun r=>((bw c.k t c.n+r:Nat):Int)=c.p/\c.k 0<t/\t<c.k (c.n-1)) (fun r=>c.p.toNat-bw c.k t c.n-r)
  (rL T o4 [4,5,6,2,3] (.tuple [aS (pB c t) 2000 sE,aS (og c t) 2000 sE,.int .i64 (rm c t)])) ⟨_,adR,?_⟩ (fun r hr=>⟨_,afM,?_⟩) (fun r hr=>?_) (fun v s' hv hs'=>hv.fin (L1:=[]) hk hs')
 ·simp only[ah.all,az,Bool.not_eq_true',Bool.not_eq_false',Bool.and_eq_true,Bool.and_eq_false_iff,aZ,bk]
  rw[LM c 2000 2000]
  refine⟨⟨aa,aa,bY aU,aa,aa,aa⟩,fun ho=>⟨aa,?_⟩,fun hi=>⟨0,⟨?_,hi⟩,[(0,8192),(1,12288),(2,0),(3,4096)],rfl,rfl,rfl,aB (bD rfl rfl (.inr ⟨rfl,Qf aU (by decide)⟩) (aB (aB trivial)))⟩⟩
  ·have hno:¬(c.k 0<t/\t<c.k (c.n-1)):=fun h=>ho.elim (fun g=>g h.1) fun g=>g h.2
   have r1:pB c t=kq:=if_neg hno
   have r2:og c t=kq:=if_neg hno
   have r3:rm c t=7:=if_neg hno
   have hR:rL T o4 [4,5,6,2,3] (.tuple [aS kq 2000 sE,aS kq 2000 sE,.int .i64 7]) ([.ptr 8192 0 3 0 [],.ptr 12288 0 3 0 [],.int .i64 7,.ptr 0 0 3 0 [],.ptr 4096 0 3 0 []],[(4096,tP t 2000),(0,⟨false,true,3,1,fun _=>aS c 2000 2000⟩),(12288,⟨false,true,3,1,fun j=>if(j==0)=true then aV (.agg (AV.kids (.agg [.int .i64 0,.nil,.nil])))else .agg [.int .i64 0,.nil,.nil]⟩),(8192,⟨false,true,3,1,fun j=>if(j==0)=true then aV (.agg (AV.kids (.agg [.int .i64 0,.nil,.nil])))else .agg [.int .i64 0,.nil,.nil]⟩)]):=
    ⟨[_,_,_,_,_],[],12289,_,rfl,rfl,rfl,ak2,rfl,⟨⟨aa,fun i _=>rfl⟩,⟨aa,fun i _=>rfl⟩,⟨aa,fun i _=>oZ rfl rfl⟩,⟨aa,fun i _=>oZ rfl rfl⟩,trivial⟩,⟨Nat.zero_lt_one,Nat.zero_lt_one⟩,yh,yh,.refl _,trivial⟩
   rw[r1,r2,r3]
   exact hR
  ·have:=k1.Hv hi.1 hi.2
   omega
 ·obtain⟨i1,i2,i3⟩:=hr
  obtain⟨hs,hd⟩:=uk hc ht i2 i3 h40 i1
  have e1:(bw (fun i=>aR (rat ((ck c t r).k i) 2000)) t (ck c t r).n:Int)=((bw c.k t c.n+r:Nat):Int):=by
   show((bw (ck c t r).k t (ck c t r).n:Nat):Int)=_
   rw[hs.s]
  simp only[ah.all,az,aZ,bk]
  refine⟨⟨aa,aa,bY (by decide),by decide,by rw[hs.n];omega,aa⟩,fun h1=>?_,fun h1=>⟨rfl,r,⟨?_,i2,i3⟩,[(0,0),(1,1),(2,2),(3,3)],rfl,rfl,rfl,aB (aB (aB (aB trivial)))⟩⟩
  ·rw[e1,hs.p]at h1
   obtain⟨hs2,hd2⟩:=uk (r:=r+1) hc ht i2 i3 h40 aa
   have hE:fR (ck c t r) t=0:=Cd (by rw[hs.k0];exact i2) (by rw[hs.k1];exact i3) (by rw[hs.s,hs.p];exact h1) (by rw[hs.m];omega)
   refine⟨⟨aa,aa,hd.G8 hb,hd.It hb,aa,hd.kn,by show(ck c t r).k 0<t;rw[hs.k0];exact i2,by show t<(ck c t r).k ((ck c t r).n-1);rw[hs.k1];exact i3,fun i=>wN (hd.pos i),aa⟩,r+1,⟨aa,i2,i3⟩,by dsimp only;omega,[(0,0),(1,1),(2,2),(3,3)],rfl,rfl,rfl,aB (bD rfl rfl (.inr ⟨rfl,?_⟩) (aB (aB trivial)))⟩
   have e2:ck c t (r+1)=nO (ck c t r) t (bT (ck c t r).n (ck c t r).k t):=if_pos hE
   have:=hd2.up (x:=2002) (y:=sE) hb aU
   show bG (aS (nO (ck c t r) t (bT (ck c t r).n (ck c t r).k t)) 2002 sE) (aS (ck c t (r+1)) 2000 sE)
   rw[<-e2]
   exact this
  ·rw[e1,hs.p]at h1
   omega
 ·obtain⟨i1,i2,i3⟩:=hr
  obtain⟨hs,hd⟩:=uk (r:=r) hc ht i2 i3 h40 aa
  have e0:jP c t=ck c t r:=by unfold jP;rw[show c.p.toNat-bw c.k t c.n=r by omega]
  obtain⟨a1,a2,a3⟩:=nW hd.kn.1 (by rw[hs.k0];exact i2) (by rw[hs.k1];exact i3)
  refine ahf (a:=bT (ck c t r).n (ck c t r).k t) hk hd.kn.1 (by rw[hs.p];exact k2) (by rw[hs.p];exact k3) hd.kn.2.2.2.2 (by rw[hs.n];omega) (by rw[hs.k0];exact i2) (by rw[hs.k1];exact i3) a1 a2 a3 (by rw[hs.s,hs.p];omega) fun e s' h=>?_
  have r1:pB c t=BW (ck c t r) t (bT (ck c t r).n (ck c t r).k t):=by rw[<-e0];exact if_pos ⟨i2,i3⟩
  have r2:og c t=lE (ck c t r) t (bT (ck c t r).n (ck c t r).k t):=by rw[<-e0];exact if_pos ⟨i2,i3⟩
  have r3:rm c t=0:=if_pos ⟨i2,i3⟩
  rw[r1,r2,r3]
  exact h
def Nr:Spec:=cN (kC (jb 2000 2000) (kC (gx 2000) kN)) (fun a=>.tuple [aS (pB a.1 a.2.1) 2000 sE,aS (og a.1 a.2.1) 2000 sE,.int .i64 (rm a.1 a.2.1)]) fun a=>[∃g,fX g/\eE g a.1/\∃r,r<g.n/\a.2.1=g.k r,a.1.m+a.1.p.toNat<=40]
theorem ac9:∀K args pre q,Nr K args pre=some q->aE P CS K args pre q:=cy fun⟨c,t,_⟩ K hn=>by
 obtain⟨⟨g,h1,h2,h3⟩,h4⟩:=hn
 exact Wa h1 h2 h3 h4 K
theorem OS {k k':Nat->Rat} {b b' p:Nat} (h:∀i,1<=i->k' (b'+i)=k (b+i)):∀{l:List Rat} {r:Nat} {x:Nat->Rat},bl k' b' p r x l=bl k b p r x l
 |[],_,_=>rfl
 |t::l,r,x=>by
  rw[bl,bl,OS h (l:=l)]
  congr 1
  funext j
  unfold gz
  split
  ·rw[h j aa,Nat.add_assoc,h (j+(p-r)) aa,Nat.add_assoc]
  ·rfl
theorem eE.right {c d:Cu} {t:Rat} {a:Nat} (h:eE c d) (h0:d.k 0<t) (h1:t<d.k (d.n-1)) (hlo:d.k a<=t) (hhi:t<d.k (a+1)) (ha:a+1<d.n) (ht:bw d.k t d.n=d.p.toNat):eE c (lE d t a):=by
 obtain⟨k1,k2,k3,k4,k5⟩:=id h.kn
 obtain⟨r1,r2,r3⟩:=k1.split h0 h1 hlo hhi ha ht
 obtain⟨g1,g2⟩:=k1.oD h0 h1 hlo hhi ha
 have hp:=h.p
 have hl:=k1.len
 have hp1:=k1.p1
 have hK:∀i,1<=i->(lE d t a).k i=d.k (a-d.p.toNat+i):=fun i hi=>by
  show(if i<1 then t else d.k (a+1-d.p.toNat+(i-1)))=_
  rw[if_neg aa];congr 1;omega
 have hK0:(lE d t a).k 0=t:=(if_pos aa:(if 0<1 then t else d.k (a+1-d.p.toNat+(0-1)))=t)
 have hN:(lE d t a).n=d.n-(a-d.p.toNat):=by show 1+(d.n-(a+1-d.p.toNat))=_;omega
 have hS:∀i,1<=i->i<=d.p.toNat->d.k (a-d.p.toNat+i)=t:=fun i h1 h2=>r1 _ aa aa
 have hkn:Kn (lE d t a).n d.p.toNat (lE d t a).k:=by
  rw[hN]
  refine⟨hp1,aa,fun i hi=>?_,fun i hi=>?_,fun i h1 h2=>?_,fun i h1 h2=>?_⟩
  ·by_cases e:i=0
   ·subst e
    rw[hK0,hK _ aa,hS _ aa aa];exact Rat.le_refl
   ·rw[hK _ aa,hK _ aa];exact k1.sorted _ aa
  ·by_cases e:i=0
   ·subst e;rfl
   ·rw[hK _ aa,hK0,hS _ aa hi]
  ·rw[hK _ aa,hK _ aa,k1.last _ aa aa,k1.last (a-d.p.toNat+(d.n-(a-d.p.toNat)-1)) aa aa]
  ·rw[hK _ aa,hK _ aa,<-Nat.add_assoc];exact k1.mult _ aa aa
 refine⟨⟨hkn,k2,k3,show(lE d t a).n<=d.p.toNat+41 by omega,show((d.m-(a-d.p.toNat):Nat):Int)=((lE d t a).n:Int)-d.p-1 by omega⟩,hp,fun i=>h.pos _,fun Q hQ=>?_,fun q hq=>?_⟩
 ·obtain⟨v1,v2⟩:=hkn.mT hQ
  have hw:=hQ.wide
  rw[hK _ aa,hK _ aa]at hw
  obtain⟨P,p1,p2,p3,p4⟩:=h.sub (a-d.p.toNat+Q) ⟨aa,k1.sorted,hw⟩
  refine⟨P,p1,by rw[hK _ aa];exact p2,by rw[hK _ aa];exact p3,fun e l hl=>?_⟩
  rw[<-p4 e l hl,<-hp]
  show bl (lE d t a).k (Q-d.p.toNat) d.p.toNat 0 (fun q=>ff (cE (d.f (a-d.p.toNat+(Q-d.p.toNat+q)))) e) l d.p.toNat=bl d.k (a-d.p.toNat+Q-d.p.toNat) d.p.toNat 0 (fun q=>ff (cE (d.f (a-d.p.toNat+Q-d.p.toNat+q))) e) l d.p.toNat
  rw[OS (k:=d.k) (b:=a-d.p.toNat+Q-d.p.toNat) fun i hi=>by rw[hK _ aa];congr 1;omega]
  congr 1
  funext q
  rw[show a-d.p.toNat+(Q-d.p.toNat+q)=a-d.p.toNat+Q-d.p.toNat+q by omega]
 ·by_cases e:q=0
  ·subst e
   rw[hK0,<-hS 1 aa aa];exact h.kc _ aa
  ·rw[hK _ aa];exact h.kc _ aa
def OY (p n:Nat) (k:Nat->Rat) (x:Rat) (R:Nat):Prop:=k 0<x/\x<k (n-1)/\bw k x n+R=p/\∀r,r<=R->yN n p k x r
def GL (n:Nat) (k:Nat->Rat) (x:Rat) (R:Nat):Prop:=(x=k 0\/x=k (n-1))/\R=0
def wR (p n:Nat) (k:Nat->Rat) (x:Rat) (R:Nat):Prop:=OY p n k x R\/GL n k x R
theorem wR.M7 {p n:Nat} {k:Nat->Rat} {x:Rat} {R:Nat} (h:wR p n k x R) (g:x=k 0):GL n k x R:=by
 rcases h with h|h
 ·have:=h.1
  rw[<-g]at this
  exact absurd this Rat.lt_irrefl
 ·exact h
set_option maxHeartbeats 1000000 in
theorem al6 {c:Cu} {a b:Rat} {f l:Nat} {ns rs:Nat->Nat} {ks:Nat->Nat->Rat} (hc:Kn c.n c.p.toNat c.k) (hp1:1<=c.p) (hp6:c.p<=6) (hcn:c.n<2^27) (hcm:c.m<2^28) (n0:ns 0=c.n) (k0:ks 0=c.k) (hns:∀j,j<=2->c.n<=ns j/\ns j<2^28) (hs:∀j,j<2->ns (j+1)=ns j+rs j/\ks (j+1)=fu (ks j) (ns j) (if j=0 then a else b) (rs j)) (hJ:∀j,j<2->wR c.p.toNat (ns j) (ks j) (if j=0 then a else b) (rs j))
  (hf:fQ (lK a (ks 2)) (ns 2)=f) (hl:fQ (lD b (ks 2)) (ns 2)=l) (g1:c.p.toNat+1<=f) (g2:f<=l) (g3:l+c.p.toNat+1<=ns 2) (K:Nat):
  aE P yL K [dj c 2000 4000,.rat a 2000,.rat b 2000] [] (aK (dj (xe (kK c (ns 2) (ks 2)) a b f l) sK sB) []):=by
 refine gr (r:=aK (dj (xe (kK c (ns 2) (ks 2)) a b f l) sK sB) []) hT QI rfl aX rfl (fun _ cx h00=>?_) K []
 have hk:=m7 h00
 have hl4:=hc.len
 refine ax.hole [1] ag (aI.bA hT yG hm 60 Bm Yy (nZ QI.dst) ?_)
 intro s' hs'
 show ax _ _ _ (part vq [1]) s' _
 rw[show behind vq [1]=[]from by kernel_rfl]
 refine ax.jA (s2:=⟨aC Bm [.ptr 0 0 3 0 [],.ptr 1 0 3 0 [],.ptr 2 0 3 0 [],.ptr 3 0 3 0 []],[(3,qS),(2,tP b 2000),(1,tP a 2000),(0,qI c)],4⟩) (cP.le ⟨[(0,0),(1,4096),(2,8192),(3,12288)],rfl,rfl,rfl,aB (aB (aB (aB trivial)))⟩ hs' hk)
  ((?_:ax P cx qd.ntmps (part vq [1]) _ (dP cx (Fin T qd (dj (xe (kK c (ns 2) (ks 2)) a b f l) sK sB)))).mono fun e s' h=>by cases e<;>exact h)
 refine ax.Sa (t:=4) (k:=1) rfl rfl rfl rfl rfl ?_
 refine ax.Sa (t:=5) (k:=2) rfl rfl rfl rfl rfl ?_
 refine ax.JH hT yG hm (x:=By) (y:=xk) (x1:=Aq) (zb:=part xk [1,1,1]) (y2:=part Aq [1,1,0,0]) [1,0,1] (i:=0) ag ag ag [1,1,0] (j:=1) ag ag ag [1,1] (i2:=2) ag ag rfl hk (f1:=[]) (f2:=[21]) (f3:=[28]) (f4:=[40,47]) (f5:=[]) 60 oT vT 2 3
  (fun j:Nat=>qR a b (ns j) (ks j) j) (fun _=>qQ c) (fun j=>j<=2) (fun j=>j=2) (fun j=>2-j) (fun j=>j<2) (fun _=>False) (fun _=>False)
  (fun j (q:Nat×Bool)=>yW a b (ns j+q.1) (fu (ks j) (ns j) (if j=0 then a else b) q.1) j q.2) (fun j _=>zl c (if j=0 then a else b)) (fun j q=>q.2=false/\OY c.p.toNat (ns j) (ks j) (if j=0 then a else b) (rs j)/\q.1<=rs j\/q.2=true/\GL (ns j) (ks j) (if j=0 then a else b) (rs j)/\q.1=0) (fun j q=>q.1=rs j) (fun j q=>rs j-q.1)
  ⟨_,akG,?_⟩ (fun j hj=>⟨_,TL,?_⟩) (fun j hj hG=>?_) (fun j hj hG q hq=>⟨_,adg,?_⟩) (fun j hj hG q hq=>⟨_,aiv,?_⟩) (fun j s' hj hle=>?_) (fun _ _ h=>h.elim) (fun _ _ h=>h.elim)
 ·simp only[ah.all,az]
  refine⟨aa,0,Nat.zero_le _,?_⟩
  show cP [] _ (qR a b (ns 0) (ks 0) 0) (qQ c) 2
  rw[n0,k0]
  exact⟨[(0,0),(1,3)],rfl,rfl,rfl,aB (aB trivial)⟩
 ·simp only[ah.all,az,aZ,bk]
  exact⟨fun h=>⟨aa,[(0,0),(1,1)],rfl,rfl,rfl,aB (aB trivial)⟩,fun h=>⟨rfl,j,aa,[(0,0),(1,1)],rfl,rfl,rfl,aB (aB trivial)⟩⟩
 ·have hG:j<2:=hG
  rcases(show j=0\/j=1 by omega)with rfl|rfl
  ·refine⟨_,ahj,?_⟩
   have hl0:=hns 0 aa
   have e1:((ns 0:Nat)-1:Int).toNat=ns 0-1:=aa
   have hc0:wR c.p.toNat (ns 0) (ks 0) a (rs 0):=hJ 0 aa
   simp only[ah.all,az,aZ,bk,cond_false,Int.toNat_zero,e1]
   refine⟨⟨aa,aa⟩,fun g=>⟨⟨aa,aa,aa,aa,g⟩,(0,true),.inr ⟨rfl,hc0.M7 g,rfl⟩,[(0,0),(1,1),(2,4098)],rfl,rfl,rfl,aB (aB (aB trivial))⟩,fun g=>⟨⟨aa,aa,aa,aa,g,aa,aa,aa,aa,aa⟩,?_⟩⟩
   rcases hc0 with hc1|hc1
   ·have e2:decide (a=ks 0 (ns 0-1))=false:=decide_eq_false fun g2=>by
     have:=hc1.2.1
     rw[<-g2]at this
     exact Rat.lt_irrefl this
    rw[e2]
    exact⟨(0,false),.inl ⟨rfl,hc1,Nat.zero_le _⟩,[(0,0),(1,1),(2,4098)],rfl,rfl,rfl,aB (aB (aB trivial))⟩
   ·have e2:decide (a=ks 0 (ns 0-1))=true:=decide_eq_true (hc1.1.resolve_left g)
    rw[e2]
    exact⟨(0,true),.inr ⟨rfl,hc1,rfl⟩,[(0,0),(1,1),(2,4098)],rfl,rfl,rfl,aB (aB (aB trivial))⟩
  ·refine⟨_,XQ,?_⟩
   have hl0:=hns 1 aa
   have e1:((ns 1:Nat)-1:Int).toNat=ns 1-1:=aa
   have hc0:wR c.p.toNat (ns 1) (ks 1) b (rs 1):=hJ 1 aa
   simp only[ah.all,az,aZ,bk,cond_false,Int.toNat_zero,e1]
   refine⟨⟨aa,aa⟩,fun g=>⟨⟨aa,aa,aa,aa,g⟩,(0,true),.inr ⟨rfl,hc0.M7 g,rfl⟩,[(0,0),(1,1),(2,4098)],rfl,rfl,rfl,aB (aB (aB trivial))⟩,fun g=>⟨⟨aa,aa,aa,aa,g,aa,aa,aa,aa,aa⟩,?_⟩⟩
   rcases hc0 with hc1|hc1
   ·have e2:decide (b=ks 1 (ns 1-1))=false:=decide_eq_false fun g2=>by
     have:=hc1.2.1
     rw[<-g2]at this
     exact Rat.lt_irrefl this
    rw[e2]
    exact⟨(0,false),.inl ⟨rfl,hc1,Nat.zero_le _⟩,[(0,0),(1,1),(2,4098)],rfl,rfl,rfl,aB (aB (aB trivial))⟩
   ·have e2:decide (b=ks 1 (ns 1-1))=true:=decide_eq_true (hc1.1.resolve_left g)
    rw[e2]
    exact⟨(0,true),.inr ⟨rfl,hc1,rfl⟩,[(0,0),(1,1),(2,4098)],rfl,rfl,rfl,aB (aB (aB trivial))⟩
 ·obtain⟨r,e⟩:=q
  have hG:j<2:=hG
  have hl0:=hns j aa
  obtain⟨x,hx⟩:∃x,x=if j=0 then a else b:=⟨_,rfl⟩
  simp only[<-hx]at hq ⊢
  have same:cP [] (yW a b (ns j+r) (fu (ks j) (ns j) x r) j e,zl c x) (yW a b (ns j+r) (fu (ks j) (ns j) x r) j e) (zl c x) 3:=⟨[(0,0),(1,1),(2,2)],rfl,rfl,rfl,aB (aB (aB trivial))⟩
  simp only[ah.all,az,cond_true,aZ,bk]
  rcases hq with⟨he,⟨w1,w2,w3,w4⟩,hr⟩|⟨he,hw,hr⟩
  ·have he:e=false:=he
   have hr:r<=rs j:=hr
   have hq2:=hns (j+1) aa
   have hsj:=(hs j hG).1
   subst he
   have h:=w4 r hr
   have e1:(bw (fun i=>aR (rat (fu (ks j) (ns j) x r i) 2000)) x (ns j+r):Int)=((bw (ks j) x (ns j)+r:Nat):Int):=congrArg Nat.cast h.tm
   have e2:dr (fun i=>aR (rat (fu (ks j) (ns j) x r i) 2000)) x (dc (fun i=>aR (rat (fu (ks j) (ns j) x r i) 2000)) x (ns j+r))=fu (ks j) (ns j) x (r+1):=h.next w1 w2
   simp only[e1,e2]
   refine⟨fun _=>⟨⟨rfl,aa,bY (by decide),by decide,aa,aa⟩,fun g=>⟨⟨aa,bY aU,aa,aa,fun i _=>((w4 (r+1) aa).sd i).sz.more (by decide)⟩,(r+1,false),.inl ⟨rfl,⟨w1,w2,w3,w4⟩,show r+1<=rs j by omega⟩,show rs j-(r+1)<rs j-r by omega,[(0,0),(1,1),(2,2)],rfl,rfl,rfl,bD rfl rfl (cL rfl ?_) (aB (aB trivial))⟩,fun g=>⟨rfl,(r,false),?_,?_⟩⟩,fun g=>absurd g (by decide)⟩
   ·rfl
   ·have g:¬((bw (ks j) x (ns j)+r:Nat):Int)<c.p:=g
    show r=rs j
    omega
   ·exact same
  ·have he:e=true:=he
   have hr:r=0:=hr
   subst he
   exact⟨fun g=>absurd g (by decide),fun _=>⟨rfl,fun g=>absurd g (by decide),fun _=>⟨rfl,(r,true),hr.trans hw.2.symm,same⟩⟩⟩
 ·have hG:j<2:=hG
  obtain⟨r,e⟩:=q
  have hq:r=rs j:=hq
  subst hq
  simp only[ah.all,az]
  refine⟨aa,j+1,aa,by dsimp only;omega,?_⟩
  show cP [] _ (qR a b (ns (j+1)) (ks (j+1)) ((j+1:Nat))) (qQ c) 2
  rw[(hs j hG).1,(hs j hG).2]
  exact⟨[(0,0),(1,1)],rfl,rfl,rfl,aB (aB trivial)⟩
 ·subst hj
  rw[show behind By [1,0,1]=[tf]from by kernel_rfl]
  have h2:=hns 2 aa
  exact aI.weak rfl hle (aI.one (agZ hk hc hp1 hp6 aa hcm aa aa hf hl g1 g2 g3 fun _ _ h=>h))
theorem tV {k:Nat->Rat}:∀{n:Nat},(∀i,i+1<n->k i<=k (i+1))->∀{i:Nat},i+1<bn k n->∃s,At n k s/\k s=bH k n i/\k (s+1)=bH k n (i+1)
 |0,_,i,h=>by simp[bn]at h
 |n+1,hs,i,h=>by
  have hs':∀i,i+1<n->k i<=k (i+1):=fun i hi=>hs i (by omega)
  by_cases c:fk k n
  ·rw[bn,if_pos c]at h
   by_cases e:i+1<bn k n
   ·obtain⟨s,h1,h2,h3⟩:=tV hs' e
    refine⟨s,⟨by have:=h1.lt;omega,hs,h1.wide⟩,?_,?_⟩
    ·rw[bH,if_pos c,js (by omega)];exact h2
    ·rw[bH,if_pos c,js (by omega)];exact h3
   ·have hn0:n≠0:=fun e0=>by
     rw[e0]at h
     simp[bn]at h
    obtain⟨m,rfl⟩:∃m,n=m+1:=⟨n-1,by omega⟩
    obtain⟨_,_,e3⟩:=tL (k:=k) (n:=m)
    have hne:k (m+1)≠k m:=by
     rcases c with c|c
     ·omega
     ·exact c
    have hle:=hs m (by omega)
    refine⟨m,⟨by omega,hs,by grind⟩,?_,?_⟩
    ·rw[bH,if_pos c,js (by omega),show i=bn k (m+1)-1 by omega];exact e3.symm
    ·rw[bH,if_pos c,show i+1=bn k (m+1) by omega,pz]
  ·rw[bn,if_neg c,Nat.add_zero]at h
   obtain⟨s,h1,h2,h3⟩:=tV hs' h
   refine⟨s,⟨by have:=h1.lt;omega,hs,h1.wide⟩,?_,?_⟩
   ·rw[bH,if_neg c];exact h2
   ·rw[bH,if_neg c];exact h3
theorem FD {k:Nat->Rat} {t:Rat}:∀{n:Nat},bw k t n≠0->∃q,q<n/\k q=t
 |0,h=>absurd rfl h
 |n+1,h=>by
  by_cases c:k n=t
  ·exact⟨n,by omega,c⟩
  ·rw[kz,if_neg c,Nat.add_zero]at h
   obtain⟨q,h1,h2⟩:=FD h
   exact⟨q,by omega,h2⟩
theorem Qn {k:Nat->Rat} {t y:Rat} {q:Nat} (hy:t≠y):∀{m:Nat},bw (dD k t q) y (q+1+m)=bw k y (q+m)
 |0=>by
  have pre:∀i,i<=q->bw (dD k t q) y i=bw k y i:=fun i=>by
   induction i with
   |zero=>intro _;rfl
   |succ i ih=>intro h;rw[kz,kz,ih (by omega),iC (by omega)]
  show bw (dD k t q) y (q+1)=bw k y q
  rw[kz,pre q (Nat.le_refl _),nL,if_neg hy];rfl
 |m+1=>by
  rw[<-Nat.add_assoc,kz,Qn hy (m:=m),iq (by omega),<-Nat.add_assoc,kz,show q+1+m-1=q+m by omega]
structure AM (n p:Nat) (k:Nat->Rat) (a b:Rat) (Q:Nat):Prop where
 at_:At n k Q
 lo:k Q=a
 hi:k (Q+1)=b
 left:∀i,i<=Q->Q<i+p->k i=a
 right:∀i,Q+1<=i->i<=Q+p->k i=b
theorem Kn.Hs {n p Q:Nat} {k:Nat->Rat} {a b:Rat} (h:Kn n p k) (hQ:At n k Q) (ea:k Q=a) (eb:k (Q+1)=b) (ha:k 0=a\/bw k a n=p) (hb:k (n-1)=b\/bw k b n=p):AM n p k a b Q:=by
 obtain⟨w1,w2⟩:=h.mT hQ
 have hw:=hQ.wide
 refine⟨hQ,ea,eb,fun i h1 h2=>?_,fun i h1 h2=>?_⟩
 ·rcases ha with ha|ha
  ·have m1:=h.mono (Nat.zero_le i) (by omega)
   have m2:=h.mono h1 (by omega)
   grind
  ·exact JI h.sorted (show a<k (Q+1) by grind) hQ.lt (by rw[ea];exact Rat.le_refl) h1 (by rw[ha];exact h2)
 ·have m1:=h.mono h1 (by omega)
  rcases hb with hb|hb
  ·have m2:=h.mono (show i<=n-1 by omega) (by omega)
   grind
  ·by_cases e:k i=b
   ·exact e
   ·exfalso
    have hp:=h.p1
    have:=D7 (k:=k) (t:=b) (lo:=Q+1) (hi:=i) h1 (n:=n) fun j hj hjb=>by
     constructor
     ·by_cases c:Q+1<=j
      ·exact c
      ·have:=h.mono (show j<=Q by omega) (by omega)
       grind
     ·by_cases c:j<i
      ·exact c
      ·have:=h.mono (show i<=j by omega) hj
       grind
    omega
end Go.Am.B
