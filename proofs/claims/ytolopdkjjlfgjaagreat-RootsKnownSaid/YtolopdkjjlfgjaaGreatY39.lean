/- roots.Isolate. -/
import Derived.Test.YtolopdkjjlfgjaaGreatY38
import Derived.Test.YtolopdkjjlfgjaaGreatY37
import Derived.Test.YtolopdkjjlfgjaaGreatZ2
import Derived.Test.YtolopdkjjlfgjaaGreatB33
set_option linter.unusedVariables false
noncomputable section
namespace Go.Am.B
open Go Go.Am.N AV af au IntKind Proofs.Tryz
def pg (d:Nat):bG:=nG::(57,xd)::(59,wJ)::(su,FQ)::(nO,qF d)::(70,Bu)::(72,zq)::(73,Bf)::(74,AL)::gF
abbrev Fg:Code:=aJ f18
abbrev xl:Code:=part Fg [1,1,1,1,1,1,1,1,1]
abbrev vK:Code:=part xl [1,1,1,1,1]
abbrev xQ:Code:=part vK [0,1,0,0]
abbrev yZ:Code:=part xQ [1,0,0]
abbrev CI:List Nat:=[2,3,4,6,7,8,9,10]
abbrev JO (a:PP):List AV:=[.nil,.int .i64 0,aO a,.ptr 0 0 1 0 [],.ptr 3 0 1 0 [],.ptr 1 0 1 0 [],.ptr 4 0 3 0 [],.ptr 5 0 3 0 []]
abbrev K4 (n:Nat) (c:Nat->PP) (l:List (Rat×Rat)):aG:=[(0,uP 2 l.length),(1,sr n c 0 1),(2,tY l),(3,⟨false,false,1,1,fun _=>Bm n c⟩),(4,tR 0 ag),(5,tR 1 ag)]
abbrev xk:List Nat:=[4,11,50,51,52]
abbrev Mn (l:List (Rat×Rat)) (g:Nat->Nat) (m:Nat):aC:=⟨true,true,7,m,fun j=>.agg [dx l j,.int .i64 (g j)]⟩
abbrev Ce (a:PP) (m i:Nat):List AV:=[aO a,.own 1 7 0 i,.own 0 6 0 m,.int .i64 m,.int .i64 i]
abbrev BH (l:List (Rat×Rat)) (g:Nat->Nat) (i:Nat):aG:=[(0,tY l),(1,Mn l g i)]
abbrev rU:List Nat:=[4,11]
abbrev Aw (a:PP) (m:Nat):List AV:=[aO a,.own 0 7 0 m]
abbrev sY (l:List (Rat×Rat)) (g:Nat->Nat) (m:Nat):aG:=[(0,Mn l g m)]
abbrev y9:List Nat:=[4,11,14,75,76,77]
abbrev Gn (a:PP) (n:Nat) (c:Nat->PP) (m i:Nat):List AV:=[aO a,.own 0 7 0 m,gB n c,.own 0 7 0 m,.int .i64 m,.int .i64 i]
abbrev vN (v w:AV):aC:=⟨false,true,1,1,fun j=>if(j==0)=true then v else w⟩
abbrev vM (v w:AV):aC:=⟨false,true,3,1,fun j=>if(j==0)=true then v else w⟩
def eI (a:PP):Nat->PP
 |0=>bL a (bh a)
 |j+1=>bL (eI a j) (bh (eI a j))
def kV (a:PP):Nat->Nat->Nat
 |0,j=>j
 |f+1,j=>if 1<(eI a j).1 then kV a f (j+1)else j
def kD (a:PP) (l:List (Rat×Rat)):Nat->Nat->Nat
 |0,_=>1
 |j+1,i=>if jL (aV (eI a j)) (aS (eI a j)) (bN l i).1 (bN l i).2=true then kD a l j i+1 else kD a l j i
def jQ (d n:Nat) (c:Nat->PP):List (Rat×Rat):=(if cC (c 0) 0=0 then [(0,0)]else [])++ej n c d 0 1++(if cC (c 0) 1=0 then [(1,1)]else [])
def dO (d:Nat) (p:PP):List (Rat×Rat):=if(ak p).1=0 then []else jQ d (aV (ak p)) (aS (ak p))
def lJ (d:Nat) (p:PP) (i:Nat):Nat:=kD (ak p) (dO d p) (kV (ak p) (ak p).1 0) i
abbrev uN (l:List (Rat×Rat)) (g:Nat->Nat) (j:Nat):AV:=.agg [dx l j,.int .i64 (g j)]
abbrev Fa (d:Nat) (p:PP):AV:=.tuple [.az 7 (dO d p).length (uN (dO d p) (lJ d p)),.int .i64 (if(ak p).1=0 then 3 else 0)]
def z7 (x:PP):Prop:=dy (x.1-1) (dF x.2)/\oe (x,bh x)
def sV (d:Nat) (p:PP):Prop:=iU p/\((ak p).1≠0->jK (ak p)/\aV (ak p)<2^40/\cJ (aV (ak p)) (aS (ak p)) 0/\cJ (aV (ak p)) (aS (ak p)) 1/\j9 (aV (ak p)) (aS (ak p)) d 0 1/\(dO d p).length<2^30/\z7 (ak p)/\
 ∀j,1<(eI (ak p) j).1->z7 (eI (ak p) j)/\jK (eI (ak p) j)/\aV (eI (ak p) j)<2^40/\∀i,i<(dO d p).length->cJ (aV (eI (ak p) j)) (aS (eI (ak p) j)) (bN (dO d p) i).1/\cJ (aV (eI (ak p) j)) (aS (eI (ak p) j)) (bN (dO d p) i).2)
theorem MR:bC 18 f18:=bD func18
theorem aeX {d:Nat} {p:PP}:aK T (pg d) [20] 60 CI (before Fg [1,1,1,1,1,1,1,1,1]) ⟨bf 0 [aO p],[],0⟩=
  some (aj [aR p,iU p] (fork (((ak p).1:Int)==0) (leaf ret ([.nil,.int .i64 3,aO (ak p),.tuple [],.tuple [],.tuple [],.tuple [],.tuple []],[]))
   (aj [aR (ak p),jK (ak p),(0:Nat)<1] (aj [(0:Nat)<1] (aj [(0:Nat)<1] (aj [-2^63<=(0:Int),(0:Int)<2^63,-2^63<=(1:Int),(1:Int)<2^63,(0:Nat)<1,(0:Nat)<1]
    (leaf normal ([.nil,.int .i64 0,aO (ak p),.ptr 49152 0 1 0 [],.ptr 57344 0 1 0 [],.ptr 65536 0 1 0 [],.ptr 86016 0 3 0 [],.ptr 90112 0 3 0 []],
     [(65536,vN (MB (aV (ak p)) (aS (ak p)) 49152 65536) .void),(49152,⟨false,true,1,1,fun _=>.nil⟩),(90112,vM (.rat ((1:Int):Rat) (max 1 (bU (Int.natAbs 1)))) (.rat 0 1)),(86016,vM (.rat ((0:Int):Rat) (max 1 (bU (Int.natAbs 0)))) (.rat 0 1)),(57344,⟨false,false,1,1,fun j=>if(j==0)=true then Bm (aV (ak p)) (aS (ak p))else .void⟩)])))))))):=ah
theorem Ve {d n:Nat} {c:Nat->PP} {a:PP} {l:List (Rat×Rat)}:aK T (pg d) [29,41] 60 xk (before xl [1,1,1,1,0,1]) ⟨aH CI (JO a),K4 n c l,6⟩=
  let c36:AV:=rat 0 1;let c35:Prop:=n<2^40;let c30:Prop:=0<n;let c29:Nat:=l.length;let c28:Nat:=2^47;let c27:Nat:=112+1;let c26:PP:=b7 (aO (c 0));let c25:AV:=rat 1 ag;let c24:AV:=own 73734 7 0 0;let c23:Prop:=ag<=ag;let c22:Prop:=j9 n (fun i=>b7 (aO (c i))) d 0 1;let c21:Int:=(↑(120:Nat):Int);let c20:Prop:=(0:Int)<=0;let c17:List AV:=[int i64 0];let c16:Prop:=aF [∀(i:Nat),i<n->bg (aO (c i)) (aO (b7 (aO (c i))))];let c14:Prop:=1*6<=2^24;let c10:Int:=(2:Int)^47;let c8:List (Rat×Rat):=ej n (fun i=>b7 (aO (c i))) d 0 1;let c6:AV:=az 3 a.fst fun i=>rat (a.snd i) ag;let c5:Prop:=bg (gB n c) (gB n fun i=>b7 (aO (c i)));let c3:Prop:=0<1;let c15:Nat:=c29+1;let c11:Rat:=cC c26 1;let c9:List Prop:=[c3,c3,c23,∀(i:Nat),i<n->bg (aO (c i)) (aO (b7 (aO (c i)))),c30,cJ n (fun i=>b7 (aO (c i))) 1];let c7:AV:=agg [c36,c36];let c2:List (Rat×Rat):=jI (dx l) c29++c8;let c19:Nat:=c2.length;let c4:aC:=aC.mk true true 7 0 fun x=>agg (c7::c17);let c1:List (Rat×Rat):=jI (fun i=>if i<c29 then dx l i else nth [agg [rat 0 ag,rat 0 ag]] c7 (i-c29+0)) c15++c8;let c33:Int:=(↑c19:Int);let c18:Nat:=c1.length;let c13:Nat:=c19+1;let c34:Int:=(↑c13:Int);let c31:Int:=(↑c18:Int);let c12:Nat:=c18+1;let c32:Int:=(↑c12:Int);some (aj [c3,c3,c23,∀(i:Nat),i<n->bg (aO (c i)) (aO (b7 (aO (c i)))),c30,cJ n (fun i=>b7 (aO (c i))) 0] (fork (decide (cC c26 0=0)) (aj [c3,c3,c23,c14,c15*c27*2<=c28,c3] (aj [c3,c3,c3,aF [c23],aF [c23],c16,c5,c5,c5,c15=c15,∀(i:Nat),i<c15->(if i<c29 then dx l i else nth [agg [rat 0 ag,rat 0 ag]] c7 (i-c29+0)).keys=[]/\bg (if i<c29 then dx l i else nth [agg [rat 0 ag,rat 0 ag]] c7 (i-c29+0)) (eu (mN (if i<c29 then dx l i else nth [agg [rat 0 ag,rat 0 ag]] c7 (i-c29+0))).fst (mN (if i<c29 then dx l i else nth [agg [rat 0 ag,rat 0 ag]] c7 (i-c29+0))).snd ag),c30,c35,c22,c15+c8.length<2^30] (aj c9 (fork (decide (c11=0)) (aj [c3,c3,c23,c14,c12*c27*2<=c28,c3] (aj [c3,c20/\(0:Int)<=c32/\c32<=c10/\c32*c21<=c10] (aj [c3] (leaf normal (c6::own 98310 7 0 0::own 81926 6 0 c12::int i64 c32::c17,[(81926,aC.mk true true 6 c12 fun i=>if i<c18 then dx c1 i else nth [agg [c25,c25]] c7 (i-c18+0)),((98310:Nat),c4)]))))) (aj [c3,c20/\(0:Int)<=c31/\c31<=c10/\c31*c21<=c10] (aj [c3] (leaf normal (c6::c24::own 49158 6 0 c18::int i64 c31::c17,[(49158,aC.mk true true 6 c18 fun i=>agg [rat (bN c1 i).fst ag,rat (bN c1 i).snd ag]),((73734:Nat),c4)])))))))) (aj [c3,c3,c3,aF [c23],aF [c23],c16,c5,c5,c5,c29=c29,∀(i:Nat),i<c29->(dx l i).keys=[]/\bg (dx l i) (eu (aN (rat (bN l i).fst ag)) (aN (rat (bN l i).snd ag)) ag),c30,c35,c22,c29+c8.length<2^30] (aj c9 (fork (decide (c11=0)) (aj [c3,c3,c23,c14,c13*c27*2<=c28,c3] (aj [c3,c20/\(0:Int)<=c34/\c34<=c10/\c34*c21<=c10] (aj [c3] (leaf normal (c6::c24::own 57350 6 0 c13::int i64 c34::c17,[(57350,aC.mk true true 6 c13 fun i=>if i<c19 then dx c2 i else nth [agg [c25,c25]] c7 (i-c19+0)),((73734:Nat),c4)]))))) (aj [c3,c20/\(0:Int)<=c33/\c33<=c10/\c33*c21<=c10] (aj [c3] (leaf normal (c6::own 49158 7 0 0::own 24582 6 0 c19::int i64 c33::c17,[(24582,aC.mk true true 6 c19 fun i=>agg [rat (bN c2 i).fst ag,rat (bN c2 i).snd ag]),((49158:Nat),c4)]))))))))):=ah
theorem Vb {d m i:Nat} {a:PP} {l:List (Rat×Rat)} {g:Nat->Nat}:aK T (pg d) [53] 60 xk [part xl [1,1,1,1,0,1,0,0]] ⟨aH xk (Ce a m i),BH l g i,2⟩=
  let c8:AV:=rat 0 1;let c7:Int:=(↑m:Int);let c5:AV:=own 0 6 0 m;let c3:AV:=az 3 a.fst fun i=>rat (a.snd i) ag;let c2:Int:=(↑i:Int);let c1:Nat×aC:=(0,aC.mk true true 6 l.length fun i=>agg [rat (bN l i).fst ag,rat (bN l i).snd ag]);let c6:Int:=c2+1;let c4:Nat:=c2.toNat+0;some (fork (decide (c2<c7)) (aj [(0:Int)<=c2/\c2.toNat<m,c4<l.length,(0:Nat)<1] (aj [(0:Nat)<1,(1:Nat)*7<=2^24,(i+1)*((120:Nat)+1)*2<=2^47] (aj [-(2:Int)^63<=c6/\c6<2^63] (leaf normal ([c3,own 36866 7 0 (i+1),c5,int i64 c7,int i64 c6],[c1,(36866,aC.mk true true 7 (i+1) fun i_1=>if i_1<i then agg [dx l i_1,int i64 (↑(g i_1):Int)]else nth [agg [agg [rat (bN l c4).fst ag,rat (bN l c4).snd ag],int i64 1]] (agg [agg [c8,c8],int i64 0]) (i_1-i+0))]))))) (leaf (exit 0) ([c3,own 1 7 0 i,c5,int i64 c7,int i64 c2],[c1,(1,aC.mk true true 7 i fun j=>agg [agg [rat (bN l j).fst ag,rat (bN l j).snd ag],int i64 (↑(g j):Int)])]))):=ah
theorem Ty {d m i:Nat} {a:PP} {l:List (Rat×Rat)} {g:Nat->Nat}:aK T (pg d) [] 60 rU (before vK [0,1]) ⟨aH xk (Ce a m i),BH l g i,2⟩=
  let c6:Nat×(Nat->Rat):=(a.fst,fun i=>aN (rat (a.snd i) ag));let c4:Prop:=cX (fun i=>rat (a.snd i) ag) a.fst ag;let c1:Nat:=cr (dF fun i=>aN (rat (a.snd i) ag)) (a.fst-1);let c3:Nat×(Nat->Rat):=(c1,fun i=>aN (rat (dF (fun i=>aN (rat (a.snd i) ag)) i) ag));let c2:PP×PP:=(c6,c3);let c5:PP:=(ct c2 c1).fst;some (aj [c4,a.fst<2^40,dy (a.fst-1) (dF fun i=>aN (rat (a.snd i) ag)),c4,cX (fun i=>rat (dF (fun i=>aN (rat (a.snd i) ag)) i) ag) c1 ag,a.fst<2^30,c1<2^30,Trim c6,Trim c3,oe c2] (leaf normal ([az 3 c5.fst fun i=>rat (cT c5.fst c5.snd i) ag,own 1 7 0 i],[(1,aC.mk true true 7 i fun j=>agg [agg [rat (bN l j).fst ag,rat (bN l j).snd ag],int i64 (↑(g j):Int)])]))):=ah
theorem acG {d m:Nat} {a:PP} {l:List (Rat×Rat)} {g:Nat->Nat}:aK T (pg d) [68] 60 rU (before xQ [1,0]) ⟨aH rU (Aw a m),sY l g m,1⟩=
  let c1:List AV×aG:=([az 3 a.fst fun i=>rat (a.snd i) ag,own 0 7 0 m],[(0,aC.mk true true 7 m fun j=>agg [agg [rat (bN l j).fst ag,rat (bN l j).snd ag],int i64 (↑(g j):Int)])]);some (fork (decide ((↑a.fst:Int)>1)) (leaf normal c1) (leaf (exit 2) c1)):=ah
theorem aeU {d m:Nat} {a:PP} {l:List (Rat×Rat)} {g:Nat->Nat}:aK T (pg d) [] 60 y9 (before yZ [1,1]) ⟨aH rU (Aw a m),sY l g m,1⟩=
  let c2:AV:=own 0 7 0 m;let c1:Nat×(Nat->Rat):=(a.fst,fun i=>aN (rat (a.snd i) ag));some (aj [cX (fun i=>rat (a.snd i) ag) a.fst ag,jK c1] (leaf normal ([az 3 a.fst fun i=>rat (a.snd i) ag,c2,az 1 (aV c1) fun i=>az 3 (aS c1 i).fst fun i_1=>rat ((aS c1 i).snd i_1) ag,c2,int i64 (↑m:Int),int i64 0],[(0,aC.mk true true 7 m fun j=>agg [agg [rat (bN l j).fst ag,rat (bN l j).snd ag],int i64 (↑(g j):Int)])]))):=ah
theorem acm {d m n i:Nat} {a:PP} {c:Nat->PP} {l:List (Rat×Rat)} {g:Nat->Nat}:aK T (pg d) [78,86] 60 y9 [part yZ [1,1,0,0]] ⟨aH y9 (Gn a n c m i),sY l g m,1⟩=
  let c14:Int:=(↑m:Int);let c8:AV:=az 3 a.fst fun i=>rat (a.snd i) ag;let c7:AV:=az 1 n fun i=>az 3 (c i).fst fun i_1=>rat ((c i).snd i_1) ag;let c6:Int:=(2:Int)^63;let c5:AV:=own 0 7 0 m;let c4:Int:=(↑i:Int);let c3:Nat×aC:=(0,aC.mk true true 7 m fun j=>agg [agg [rat (bN l j).fst ag,rat (bN l j).snd ag],int i64 (↑(g j):Int)]);let c13:Int:=c4+1;let c11:Prop:=(0:Int)<=c4/\c4.toNat<m;let c1:Nat:=c4.toNat+0;let c12:Int:=(↑(g c1):Int)+1;let c10:AV:=rat (bN l c1).fst ag;let c9:AV:=rat (bN l c1).snd ag;let c2:List AV:=[c8,c5,c7,c5,int i64 c14,int i64 c13];some (fork (decide (c4<c14)) (aj [c11,c1<m,∀(i:Nat),i<n->bg (aO (c i)) (aO (b7 (aO (c i)))),bg c10 (rat (aN c10) ag),bg c9 (rat (aN c9) ag),(0:Nat)<n,n<2^40,cJ n (fun i=>b7 (aO (c i))) (aN c10),cJ n (fun i=>b7 (aO (c i))) (aN c9)] (fork (jL n (fun i=>b7 (aO (c i))) (aN c10) (aN c9)) (aj [c11,c1<m,-c6<=c12/\c12<c6,c11,c1<m] (aj [-c6<=c13/\c13<c6] (leaf normal (c2,[(0,aC.mk true true 7 m fun j=>agg [agg [rat (bif j==c1 then(bN l c1).fst else(bN l j).fst) (bif j==c1 then ag else ag),rat (bif j==c1 then(bN l c1).snd else(bN l j).snd) (bif j==c1 then ag else ag)],o9 (j==c1) (int i64 c12) (int i64 (↑(g j):Int))])])))) (aj [-c6<=c13/\c13<c6] (leaf normal (c2,[c3]))))) (leaf (exit 4) ([c8,c5,c7,c5,int i64 c14,int i64 c4],[c3]))):=ah
theorem aaT {d m n i:Nat} {a:PP} {c:Nat->PP} {l:List (Rat×Rat)} {g:Nat->Nat}:aK T (pg d) [] 60 rU (behind yZ [1,1]++[part xQ [1,1]]) ⟨aH y9 (Gn a n c m i),sY l g m,1⟩=
  let c6:Nat×(Nat->Rat):=(a.fst,fun i=>aN (rat (a.snd i) ag));let c4:Prop:=cX (fun i=>rat (a.snd i) ag) a.fst ag;let c1:Nat:=cr (dF fun i=>aN (rat (a.snd i) ag)) (a.fst-1);let c3:Nat×(Nat->Rat):=(c1,fun i=>aN (rat (dF (fun i=>aN (rat (a.snd i) ag)) i) ag));let c2:PP×PP:=(c6,c3);let c5:PP:=(ct c2 c1).fst;some (aj [c4,a.fst<2^40,dy (a.fst-1) (dF fun i=>aN (rat (a.snd i) ag)),c4,cX (fun i=>rat (dF (fun i=>aN (rat (a.snd i) ag)) i) ag) c1 ag,a.fst<2^30,c1<2^30,Trim c6,Trim c3,oe c2] (leaf normal ([az 3 c5.fst fun i=>rat (cT c5.fst c5.snd i) ag,own 0 7 0 m],[(0,aC.mk true true 7 m fun j=>agg [agg [rat (bN l j).fst ag,rat (bN l j).snd ag],int i64 (↑(g j):Int)])]))):=ah
theorem QB {d m:Nat} {a:PP} {l:List (Rat×Rat)} {g:Nat->Nat}:dJ T (pg d) [] 60 f18 [part vK [1]] ⟨aH rU (Aw a m),sY l g m,1⟩=
  some (leaf ret [az 7 m fun i=>agg [agg [rat (bN l (i+0)).fst ag,rat (bN l (i+0)).snd ag],int i64 (↑(g (i+0)):Int)],int i64 0]):=ah
theorem Al {d:Nat}:cm P (pg d):=jh (aM AN (aM Bw (aM Ka (aM (Jn d) (aM EM (aM As (aM Gc (aM GP gU))))))))
theorem LR {a:PP} (ta:Trim a) (h:1<a.1):(bL a (bh a)).1<a.1:=by
 have h1:(bh a).1=a.1-1:=zN (.inr (by
  unfold dF
  rw[show a.1-1-1+1=a.1-1 by omega]
  intro h0
  rcases Rat.mul_eq_zero.1 h0 with h0|h0
  ·have h0:((a.1-1:Nat):Int)=0:=Rat.intCast_inj.1 h0
   omega
  ·rcases ta with h2|h2
   ·omega
   ·exact h2 h0))
 have h2:=(l9 ta (dS (a:=a))).2.len aa dS (j8 ta dS)
 omega
theorem uh {a:PP} (ta:Trim a):∀j,Trim (eI a j)
 |0=>j8 ta dS
 |j+1=>j8 (uh ta j) dS
theorem yA {a:PP} (ta:Trim a):(bL a (bh a)).1<=a.1:=Cg (s:=(a,bh a)) aX (Nat.le_trans fU (Nat.sub_le _ _)) ta dS _
theorem CE {a:PP} (ta:Trim a):∀j,(eI a j).1<=a.1
 |0=>yA ta
 |j+1=>Nat.le_trans (yA (uh ta j)) (CE ta j)
theorem GX {a:PP} (ta:Trim a):∀f j,(eI a j).1<=f->(eI a (kV a f j)).1<=1/\(∀i,j<=i->i<kV a f j->1<(eI a i).1)/\j<=kV a f j
 |0,j,h=>⟨by show(eI a j).1<=1;omega,fun i h1 h2=>by have:i<j:=h2;omega,aX⟩
 |f+1,j,h=>by
  unfold kV
  split
  ·rename_i h1
   have:=LR (uh ta j) h1
   obtain⟨g1,g2,g3⟩:=GX ta f (j+1) (by show(bL _ _).1<=f;omega)
   refine⟨g1,fun i h2 h3=>?_,aa⟩
   rcases Nat.eq_or_lt_of_le h2 with h4|h4
   ·rw[<-h4];exact h1
   ·exact g2 i h4 h3
  ·exact⟨aa,fun i h1 h2=>aa,aX⟩
theorem Kc {a:PP}:∀f j,kV a f j<=j+f
 |0,j=>aX
 |f+1,j=>by
  unfold kV
  split
  ·have:=Kc (a:=a) f (j+1);omega
  ·omega
theorem J2 {a:PP} {l:List (Rat×Rat)} {i:Nat}:∀j,kD a l j i<=j+1
 |0=>aX
 |j+1=>by
  have:=J2 (a:=a) (l:=l) (i:=i) j
  unfold kD;split<;>omega
theorem Q0 {k es:Nat} (h:0<es):bg .nil (.own k es 0 0):=by
 refine⟨rfl,fun M w cs hc=>?_⟩
 cases hc with
 |vnil h1=>cases h1;exact .own0 h .nil
def jb (a:PP) (l:List (Rat×Rat)) (k i x:Nat):Nat:=if x<i then kD a l (k+1) x else kD a l k x
abbrev vW (a:PP) (l:List (Rat×Rat)) (k i:Nat):Bool:=jL (aV (eI a k)) (aS (eI a k)) (bN l i).1 (bN l i).2
theorem I8 {a:PP} {l:List (Rat×Rat)} {k i:Nat}:kD a l (k+1) i=if vW a l k i=true then kD a l k i+1 else kD a l k i:=rfl
theorem Ey {a:PP} {l:List (Rat×Rat)} {k i:Nat}:jb a l k i i=kD a l k i:=if_neg aa
theorem Jg {a:PP} {l:List (Rat×Rat)} {k i x:Nat} (h:x≠i):jb a l k (i+1) x=jb a l k i x:=by
 unfold jb
 by_cases h1:x<i
 ·rw[if_pos h1,if_pos aa]
 ·rw[if_neg h1,if_neg aa]
theorem Y5 {a:PP} {l:List (Rat×Rat)} {k i:Nat} (h:vW a l k i=true):jb a l k (i+1) i=jb a l k i i+1:=by
 rw[Ey];unfold jb
 rw[if_pos aa,I8,if_pos h]
theorem X5 {a:PP} {l:List (Rat×Rat)} {k i:Nat} (h:vW a l k i=false):jb a l k (i+1)=jb a l k i:=by
 funext x
 by_cases hx:x=i
 ·subst hx
  rw[Ey];unfold jb
  rw[if_pos aa,I8,if_neg (by rw[h];decide)]
 ·exact Jg hx
theorem Jj {a:PP} {l:List (Rat×Rat)} {k i c j:Nat} (hc:c=i) (h:vW a l k i=true):
  AV.agg [.agg [.rat (bif j==c then(bN l c).1 else(bN l j).1) (bif j==c then ag else ag),.rat (bif j==c then(bN l c).2 else(bN l j).2) (bif j==c then ag else ag)],o9 (j==c) (.int .i64 ((jb a l k i c:Nat)+1)) (.int .i64 (jb a l k i j:Nat))]=uN l (jb a l k (i+1)) j:=by
 subst hc
 by_cases hj:j=c
 ·subst hj
  rw[beq_self_eq_true]
  show AV.agg [dx l j,.int .i64 ((jb a l k j j:Nat)+1)]=AV.agg [dx l j,.int .i64 (jb a l k (j+1) j:Nat)]
  rw[Y5 h];rfl
 ·rw[show(j==c)=false by simp[hj]]
  show AV.agg [dx l j,.int .i64 (jb a l k c j:Nat)]=AV.agg [dx l j,.int .i64 (jb a l k (c+1) j:Nat)]
  rw[Jg hj]
theorem adF {l:List (Rat×Rat)} {p:Rat×Rat} {z:AV} {i:Nat} (hi:i<l.length+1):keys (if i<l.length then dx l i else nth [eu p.1 p.2 ag] z (i-l.length+0))=[]/\
  bg (if i<l.length then dx l i else nth [eu p.1 p.2 ag] z (i-l.length+0)) (eu (mN (if i<l.length then dx l i else nth [eu p.1 p.2 ag] z (i-l.length+0))).1 (mN (if i<l.length then dx l i else nth [eu p.1 p.2 ag] z (i-l.length+0))).2 ag):=by
 rw[we hi];exact⟨rfl,.refl _⟩
theorem BI {a:PP} {l:List (Rat×Rat)} {g:Nat->Nat} {k0 k1 M:Nat} {row:aC} {z:Nat->AV} (hM:l.length=M) (hrow:row=⟨true,true,6,M,row.f⟩) (hf:∀i,i<l.length->row.f i=dx l i) (hne:k0≠k1):
  fm [] ([aO a,.own k1 7 0 0,.own k0 6 0 M,.int .i64 M,.int .i64 0],[(k0,row),(k1,⟨true,true,7,0,z⟩)]) (Ce a l.length 0) (BH l g 0) 2:=by
 subst hM
 have e1:look k1 [(k0,row),(k1,(⟨true,true,7,0,z⟩:aC))]=some ⟨true,true,7,0,z⟩:=by simp[look,hne]
 have e0:look k0 [(k0,row),(k1,(⟨true,true,7,0,z⟩:aC))]=some ⟨true,true,6,l.length,row.f⟩:=by rw[<-hrow];simp[look]
 exact⟨[(0,k0),(1,k1)],by simp[jB,hne,Ne.symm hne],rfl,rfl,bX rfl e0 rfl (fun i hi=>cA (by rw[hf i hi];rfl) (hf i hi)) (bX rfl e1 rfl (fun i hi=>absurd hi (Nat.not_lt_zero _)) trivial)⟩
theorem Uu {d:Nat} {p:PP} (hz:sV d p) (K:Nat):aY P 18 K [aO p] [] (aT (Fa d p) []):=by
 have hW:=dc
 obtain⟨z1,z2⟩:=hz
 refine ja (r:=aT (Fa d p) []) hT MR rfl br rfl (fun _ cx h0=>?_) K []
 have hk:=oD h0
 refine aA.IV hT Al hm (x:=Fg) [1,1,1,1,1,1,1,1,1] ah ah MR.dst hk (f1:=[20]) 60 CI 6 (fun _:Unit=>JO (ak p)) (fun _=>K4 (aV (ak p)) (aS (ak p)) []) (fun _=>(ak p).1≠0) ⟨_,aeX (d:=d),?_⟩ (fun _ hne=>?_)
 ·simp only[af.all,aF,beq_iff_eq,beq_eq_false_iff_ne,ne_eq]
  refine⟨⟨eG aX,z1⟩,fun h s' hv=>?_,fun h=>?_⟩
  ·have h:(ak p).1=0:=aa
   have e1:dO d p=[]:=if_pos h
   refine mV.fin ⟨[.nil,.int .i64 3],rfl,?_⟩ hv
   show ir [.nil,.int .i64 3] [.az 7 (dO d p).length (uN (dO d p) (lJ d p)),.int .i64 (if(ak p).1=0 then 3 else 0)]
   rw[e1,if_pos h]
   exact⟨mC aa,.refl _,trivial⟩
  ·have h:(ak p).1≠0:=aa
   obtain⟨y1,y2,y3,y4,y5,y6,y7,y8⟩:=z2 h
   refine⟨⟨eG aX,y1,aa⟩,aa,aa,⟨aa,aa,aa,aa,aa,aa⟩,(),h,[(0,49152),(1,65536),(3,57344),(4,86016),(5,90112)],rfl,rfl,rfl,?_⟩
   refine kW rfl rfl (.inr ⟨rfl,Q0 aa⟩) (kW rfl rfl (.inl (.inr (FK ⟨⟨rfl,jN rfl (.refl _)⟩,⟨rfl,lG rfl⟩,⟨rfl,lG rfl⟩,⟨rfl,jN rfl (.refl _)⟩,trivial⟩ rfl))) (xL rfl aa aa (fq (kW rfl rfl (.inr ⟨rfl,fh rfl (by rw[hW];decide)⟩) (kW rfl rfl (.inr ⟨rfl,fh rfl (by rw[hW];decide)⟩) trivial)))))
 ·obtain⟨y1,y2,y3,y4,y5,y6,y7,y8⟩:=z2 hne
  have hsm:0<aV (ak p):=Nat.succ_pos _
  have hl:dO d p=jQ d (aV (ak p)) (aS (ak p)):=if_neg hne
  obtain⟨l,hll⟩:∃l,l=dO d p:=⟨_,rfl⟩
  rw[<-hll]at y6 y8
  have hl2:l=(if cC (aS (ak p) 0) 0=0 then [(0,0)]else [])++ej (aV (ak p)) (aS (ak p)) d 0 1++(if cC (aS (ak p) 0) 1=0 then [(1,1)]else []):=by rw[hll,hl];rfl
  refine aA.qp hT Al hm (x:=xl) [1,1,1,1,0,1] (i:=0) (y:=part xl [1,1,1,1,0,1,0,0]) (z:=vK) ah ah ah ah hk (f1:=[29,41]) (f2:=[53]) 60 xk 2 (fun i:Nat=>Ce (ak p) l.length i) (fun i=>BH l (fun _=>1) i) (fun i=>i<=l.length) (fun i=>i=l.length) (fun i=>l.length-i) (fun _=>False)
   ⟨_,Ve (d:=d),?_⟩ (fun i hi=>⟨_,Vb (d:=d),?_⟩) (fun i hi=>?_) fun _ _ h=>h.elim
  ·have hC:(fun i=>b7 (aO (aS (ak p) i)))=aS (ak p):=rfl
   have hC0:b7 (aO (aS (ak p) 0))=aS (ak p) 0:=rfl
   have h00:([]:List (Rat×Rat)).length=0:=rfl
   have e0:jI (fun i=>if i<([]:List (Rat×Rat)).length then dx [] i else nth [.agg [.rat 0 ag,.rat 0 ag]] (.agg [.rat 0 1,.rat 0 1]) (i-([]:List (Rat×Rat)).length+0)) (([]:List (Rat×Rat)).length+1)=[(0,0)]:=HM (l:=[]) (p:=(0,0))
   simp only[af.all,aF,hC,hC0,Ow,e0,bI,bO]
   have hm:(ej (aV (ak p)) (aS (ak p)) d 0 1).length<=l.length:=by rw[hl2];simp only[List.length_append];omega
   refine⟨⟨aa,aa,aX,fun i _=>.refl _,hsm,y3⟩,fun r0=>⟨⟨aa,aa,aX,aa,aa,aa⟩,⟨aa,aa,aa,aX,aX,fun i _=>.refl _,.refl _,.refl _,.refl _,trivial,?_,hsm,y2,y5,?_⟩,⟨aa,aa,aX,fun i _=>.refl _,hsm,y4⟩,?_⟩,fun r0=>⟨⟨aa,aa,aa,aX,aX,fun i _=>.refl _,.refl _,.refl _,.refl _,trivial,fun i hi=>absurd hi (Nat.not_lt_zero _),hsm,y2,y5,?_⟩,⟨aa,aa,aX,fun i _=>.refl _,hsm,y4⟩,?_⟩⟩
   ·exact fun i hi=>adF (l:=[]) (p:=(0,0)) hi
   ·show 0+1+(ej (aV (ak p)) (aS (ak p)) d 0 1).length<2^30
    rw[hl2,if_pos r0]at y6;simp only[List.length_append,List.length_cons,List.length_nil]at y6;omega
   ·refine⟨fun r1=>?_,fun r1=>?_⟩
    ·rw[if_pos r0,if_pos r1]at hl2
     have hle:l.length=([(0,0)]++ej (aV (ak p)) (aS (ak p)) d 0 1).length+1:=by rw[hl2,List.length_append];rfl
     refine⟨⟨aa,aa,aX,aa,aa,aa⟩,⟨aa,aa,aa,aa,aa⟩,aa,0,Nat.zero_le _,BI hle rfl (fun i hi=>?_) (by decide)⟩
     rw[hle]at hi;rw[hl2];exact we (p:=(1,1)) hi
    ·rw[if_pos r0,if_neg r1,List.append_nil]at hl2
     have hl3:([(0,0)]++ej (aV (ak p)) (aS (ak p)) d 0 1).length=l.length:=by rw[<-hl2]
     refine⟨⟨aa,aa,aa,aa,aa⟩,aa,0,Nat.zero_le _,BI hl3.symm rfl (fun i hi=>by rw[hl2]) (by decide)⟩
   ·show 0+(ej (aV (ak p)) (aS (ak p)) d 0 1).length<2^30
    omega
   ·refine⟨fun r1=>?_,fun r1=>?_⟩
    ·rw[if_neg r0,if_pos r1]at hl2
     have hle:l.length=([]++ej (aV (ak p)) (aS (ak p)) d 0 1).length+1:=by rw[hl2,List.length_append];rfl
     refine⟨⟨aa,aa,aX,aa,aa,aa⟩,⟨aa,aa,aa,aa,aa⟩,aa,0,Nat.zero_le _,BI hle rfl (fun i hi=>?_) (by decide)⟩
     rw[hle]at hi;rw[hl2];exact we (p:=(1,1)) hi
    ·rw[if_neg r0,if_neg r1,List.append_nil]at hl2
     have hl3:([]++ej (aV (ak p)) (aS (ak p)) d 0 1).length=l.length:=by rw[<-hl2]
     refine⟨⟨aa,aa,aa,aa,aa⟩,aa,0,Nat.zero_le _,BI hl3.symm rfl (fun i hi=>by rw[hl2]) (by decide)⟩
  ·have hiA:((i:Int)).toNat+0=i:=aa
   simp only[af.all,aF,bI,bO]
   refine⟨fun h=>⟨⟨aa,aa,aa⟩,⟨aa,aa,aa⟩,aa,i+1,aa,by dsimp only;omega,[(0,0),(1,36866)],rfl,by rw[show(i:Int)+1=((i+1:Nat):Int) by omega];rfl,rfl,pQ (bX rfl rfl rfl (fun x hx=>?_) trivial)⟩,
    fun h=>⟨rfl,i,aa,[(0,0),(1,1)],rfl,rfl,rfl,pQ (bX rfl rfl rfl (fun x hx=>cA rfl rfl) trivial)⟩⟩
   rw[hiA]
   by_cases hx2:x<i
   ·rw[if_pos hx2];exact cA rfl rfl
   ·rw[if_neg hx2,HL aa,show x=i by omega];exact cA rfl rfl
  ·subst hi
   have ta:Trim (ak p):=mU
   obtain⟨J,hJ⟩:∃J,J=kV (ak p) (ak p).1 0:=⟨_,rfl⟩
   have hl0:(eI (ak p) 0).1<=(ak p).1:=CE ta 0
   obtain⟨j1,j2,_⟩:=GX ta (ak p).1 0 hl0
   rw[<-hJ]at j1 j2
   have hp41:(ak p).1<=41:=Nat.le_trans fU z1.2.1
   have hd:∀{x:PP},x.1<=41->(bh x).1<2^30:=fun h=>Nat.lt_of_le_of_lt fU aa
   refine aA.uS hT Al hm (x:=vK) [0,1] (i:=2) (y:=xQ) (z:=part vK [1]) ah ah ah ah [1,0] (j:=3) (x1:=yZ) (zb:=part xQ [1,1]) ah ah ah [1,1] (i2:=4) (y2:=part yZ [1,1,0,0]) ah ah rfl hk
    (f1:=[]) (f2:=[68]) (f3:=[]) (f4:=[78,86]) (f5:=[]) 60 rU y9 1 1 (fun k:Nat=>Aw (eI (ak p) k) l.length) (fun k=>sY l (kD (ak p) l k) l.length) (fun k=>k<=J) (fun k=>k=J) (fun k=>J-k) (fun k=>k<J) (fun _=>False) (fun _=>False)
    (fun k (i:Nat)=>Gn (eI (ak p) k) (aV (eI (ak p) k)) (aS (eI (ak p) k)) l.length i) (fun k i=>sY l (jb (ak p) l k i) l.length) (fun _ i=>i<=l.length) (fun _ i=>i=l.length) (fun _ i=>l.length-i)
    ⟨_,Ty (d:=d),?_⟩ (fun k hk=>⟨_,acG (d:=d),?_⟩) (fun k hk hG=>⟨_,aeU (d:=d),?_⟩) (fun k hk hG i hi=>⟨_,acm (d:=d),?_⟩) (fun k hk hG i hi=>⟨_,aaT (d:=d),?_⟩) (fun k hk=>?_) (fun _ _ h=>h.elim) (fun _ _ h=>h.elim)
   ·simp only[af.all,aF]
    refine⟨⟨eG aX,by show(ak p).1<_;omega,y7.1,eG aX,eG aX,by show(ak p).1<_;omega,hd hp41,ta,dS,y7.2⟩,0,Nat.zero_le _,[(0,1)],rfl,rfl,rfl,pQ trivial⟩
   ·simp only[af.all,aF,bI,bO]
    refine⟨fun h=>⟨?_,[(0,0)],rfl,rfl,rfl,pQ trivial⟩,fun h=>⟨rfl,k,?_,[(0,0)],rfl,rfl,rfl,pQ trivial⟩⟩
    ·rcases Nat.lt_or_ge k J with h2|h2
     ·exact h2
     ·have:k=J:=aa
      subst this;omega
    ·rcases Nat.lt_or_ge k J with h2|h2
     ·have:=j2 k (Nat.zero_le _) h2
      omega
     ·omega
   ·obtain⟨x1,x2,x3,x4⟩:=y8 k (j2 k (Nat.zero_le _) hG)
    simp only[af.all,aF]
    exact⟨⟨eG aX,x2⟩,0,Nat.zero_le _,[(0,0)],rfl,rfl,rfl,pQ trivial⟩
   ·obtain⟨x1,x2,x3,x4⟩:=y8 k (j2 k (Nat.zero_le _) hG)
    have hJ2:J<=(ak p).1:=by rw[hJ];have:=Kc (a:=ak p) (ak p).1 0;omega
    have hsk:0<aV (eI (ak p) k):=Nat.succ_pos _
    have hb:jb (ak p) l k i i<=42:=by rw[Ey];have:=J2 (a:=ak p) (l:=l) (i:=i) k;omega
    simp only[af.all,aF,bI,bO,bJ,Nat.add_zero]
    refine⟨fun h=>⟨⟨aa,aa,fun i _=>.refl _,.refl _,.refl _,hsk,x3,(x4 i aa).1,(x4 i aa).2⟩,fun h2=>⟨⟨aa,aa,aa,aa,aa⟩,aa,i+1,aa,by dsimp only;omega,[(0,0)],rfl,by rw[show(i:Int)+1=((i+1:Nat):Int) by omega];rfl,rfl,bX rfl rfl rfl (fun x hx=>?_) trivial⟩,
      fun h2=>⟨aa,i+1,aa,by dsimp only;omega,[(0,0)],rfl,by rw[show(i:Int)+1=((i+1:Nat):Int) by omega];rfl,rfl,bX rfl rfl rfl (fun x hx=>?_) trivial⟩⟩,
     fun h=>⟨rfl,i,aa,[(0,0)],rfl,rfl,rfl,pQ trivial⟩⟩
    ·have h2:vW (ak p) l k i=true:=h2
     exact cA (by rw[Jj rfl h2];rfl) (Jj rfl h2)
    ·have h2:vW (ak p) l k i=false:=h2
     exact cA rfl (by show uN l (jb (ak p) l k i) x=_;rw[X5 h2])
   ·obtain⟨x1,x2,x3,x4⟩:=y8 k (j2 k (Nat.zero_le _) hG)
    have hg41:(eI (ak p) k).1<=41:=Nat.le_trans (CE ta k) hp41
    simp only[af.all,aF]
    refine⟨⟨eG aX,by show(eI (ak p) k).1<_;omega,x1.1,eG aX,eG aX,by show(eI (ak p) k).1<_;omega,hd hg41,uh ta k,dS,x1.2⟩,k+1,hG,by dsimp only;omega,[(0,0)],rfl,rfl,rfl,bX rfl rfl rfl (fun x hx=>cA rfl ?_) trivial⟩
    show AV.agg [dx l x,.int .i64 (jb (ak p) l k i x:Nat)]=.agg [dx l x,.int .i64 (kD (ak p) l (k+1) x:Nat)]
    unfold jb
    rw[if_pos (show x<i by omega)]
   ·subst hk
    refine aA.oQ ((aI.fin hT Al hm 60 (QB (d:=d)) ah ?_).mono fun _ _ h=>.inl h)
    show ir [.az 7 l.length _,.int .i64 0] [.az 7 (dO d p).length (uN (dO d p) (lJ d p)),.int .i64 (if(ak p).1=0 then 3 else 0)]
    refine⟨zj (by rw[hll]) fun i hi=>?_,cu (if_neg hne).symm,trivial⟩
    have ht:lJ d p i=kD (ak p) l k i:=by unfold lJ;rw[<-hll,<-hJ]
    show _=AV.agg [dx (dO d p) i,.int .i64 (lJ d p i:Nat)]
    rw[ht,<-hll];rfl
def DN (d:Nat):Spec:=eR (kC (kL ag) kN) (fun a=>Fa d a.1) fun a=>[sV d a.1]
theorem Jl (d:Nat):bF P (DN d) 18:=fk fun⟨a,_⟩ K hn=>Uu hn K
def fX (k:Nat->Rat) (j:Nat):Nat->Int
 |0=>-1
 |l+1=>if k (j+l)=k (j+l+1)then fX k j l else(j+l:Nat)
open Go
theorem Mb {x:Int} {n:Nat} (h:x.natAbs<2^n) (hn:1<=n):Sz (x:Rat) n:=
 ⟨by rw[Rat.num_intCast];exact h,by rw[Rat.den_intCast];exact Nat.lt_of_lt_of_le (show 1<2^1 by decide) (Nat.pow_le_pow_right (by decide) hn)⟩
end Go.Am.B
namespace Go.Am
open Go
def bY (D:Int) (s:Nat) (x:Rat):Prop:=∃z:Int,(z:Rat)=x*(D:Rat)/\z.natAbs<=2^s
theorem nE {D:Int} (h:D≠0):(D:Rat)≠0:=fun h0=>by
 have h0:(D:Rat)=((0:Int):Rat):=h0
 exact h (Rat.intCast_inj.1 h0)
theorem bY.more {D:Int} {s t:Nat} {x:Rat} (h:bY D s x) (ht:s<=t):bY D t x:=h.imp fun z hz=>⟨hz.1,Nat.le_trans hz.2 (Nat.pow_le_pow_right (by decide) ht)⟩
theorem bY.sz {D:Int} {s e:Nat} {x:Rat} (hD:D≠0) (hd:D.natAbs<=2^e) (h:bY D s x):Sz x (s+e+2):=by
 obtain⟨z,hz,b⟩:=h
 have hx:x=(z:Rat)/(D:Rat):=by rw[hz,Rat.div_def,Rat.mul_assoc,Rat.mul_inv_cancel _ (nE hD),Rat.mul_one]
 rw[hx]
 have s1:Sz (z:Rat) (s+1):=B.Mb (Nat.lt_of_le_of_lt b (Nat.pow_lt_pow_right (by decide) aa)) aa
 have s2:Sz (D:Rat) (e+1):=B.Mb (Nat.lt_of_le_of_lt hd (Nat.pow_lt_pow_right (by decide) aa)) aa
 exact(s1.div s2).more aa
theorem bY.zero {D:Int} {s:Nat}:bY D s 0:=⟨0,by rw[Rat.zero_mul];rfl,Nat.zero_le _⟩
theorem bY.int {z:Int} {s:Nat} (h:z.natAbs<=2^s):bY 1 s (z:Rat):=⟨z,by rw[show((1:Int):Rat)=1 from rfl,Rat.mul_one],h⟩
theorem bY.mul {D E:Int} {s t:Nat} {x y:Rat} (h:bY D s x) (h':bY E t y):bY (D*E) (s+t) (x*y):=by
 obtain⟨z,hz,b⟩:=h
 obtain⟨w,hw,c⟩:=h'
 refine⟨z*w,by rw[Rat.intCast_mul,hz,hw,Rat.intCast_mul];grind,?_⟩
 rw[Int.natAbs_mul,Nat.pow_add];exact Nat.mul_le_mul b c
theorem bY.add {D:Int} {s:Nat} {x y:Rat} (h:bY D s x) (h':bY D s y):bY D (s+1) (x+y):=by
 obtain⟨z,hz,b⟩:=h
 obtain⟨w,hw,c⟩:=h'
 refine⟨z+w,by rw[Rat.intCast_add,hz,hw];grind,?_⟩
 have:=Int.natAbs_add_le z w
 rw[Nat.pow_succ];omega
theorem bY.up {D E:Int} {s e:Nat} {x:Rat} (h:bY D s x) (hE:E.natAbs<=2^e):bY (D*E) (s+e) x:=by
 obtain⟨z,hz,b⟩:=h
 refine⟨z*E,by rw[Rat.intCast_mul,hz,Rat.intCast_mul];grind,?_⟩
 rw[Int.natAbs_mul,Nat.pow_add];exact Nat.mul_le_mul b hE
theorem bY.yE {D:Int} {s e:Nat} {x:Rat} (h:bY D s x) {n:Int} (hn:n.natAbs<=2^e):bY D (e+s) ((n:Rat)*x):=by
 obtain⟨z,hz,b⟩:=h
 refine⟨n*z,by rw[Rat.intCast_mul,hz];grind,?_⟩
 rw[Int.natAbs_mul,Nat.pow_add];exact Nat.mul_le_mul hn b
theorem zC {w:Int} {t:Nat} (h:w.natAbs<=2^t) (j:Nat):(w^j).natAbs<=2^(j*t):=by
 rw[Int.natAbs_pow,Nat.mul_comm,Nat.pow_mul];exact Nat.pow_le_pow_left h j
theorem nK {v w:Int} {s t:Nat} (h:v.natAbs<=2^s) (h':w.natAbs<=2^t):(v*w).natAbs<=2^(s+t):=by
 rw[Int.natAbs_mul,Nat.pow_add];exact Nat.mul_le_mul h h'
def cW (n:Nat) (k:Nat->Rat) (s:Nat):Prop:=∃D:Int,D≠0/\D.natAbs<=2^s/\∀i,i<n->bY D s (k i)
def Bd (a:PP) (s:Nat):Prop:=cW a.1 a.2 s
theorem cW.sz {n s:Nat} {k:Nat->Rat} (h:cW n k s) {i:Nat} (hi:i<n):Sz (k i) (2*s+2):=by
 obtain⟨D,h1,h2,h3⟩:=h
 exact((h3 i hi).sz h1 h2).more aa
theorem cW.more {n s t:Nat} {k:Nat->Rat} (h:cW n k s) (ht:s<=t):cW n k t:=by
 obtain⟨D,h1,h2,h3⟩:=h
 exact⟨D,h1,Nat.le_trans h2 (Nat.pow_le_pow_right (by decide) ht),fun i hi=>(h3 i hi).more ht⟩
theorem cW.short {n m s:Nat} {k:Nat->Rat} (h:cW n k s) (hm:m<=n):cW m k s:=by
 obtain⟨D,h1,h2,h3⟩:=h
 exact⟨D,h1,h2,fun i hi=>h3 i aa⟩
theorem cW.congr {n s:Nat} {k l:Nat->Rat} (h:cW n k s) (e:∀i,i<n->k i=l i):cW n l s:=by
 obtain⟨D,h1,h2,h3⟩:=h
 exact⟨D,h1,h2,fun i hi=>by rw[<-e i hi];exact h3 i hi⟩
theorem Bd.z6 {a b:PP} {s:Nat} (h:Bd a s) (e:jm a b):Bd b s:=by
 show cW b.1 b.2 s
 rw[<-e.1];exact cW.congr h e.2
theorem Xw {n e s t:Nat} {d a:Nat->Rat} (ha:cW n a s) (hd:cW (e+1) d t) (h0:d e≠0):
  ∃D w:Int,D≠0/\w≠0/\D.natAbs<=2^s/\w.natAbs<=2^t/\(∀j,j<=n-e->∀i,i<n->bY (D*w^j) (s+j*(t+1)) (cM e d a (n-e) j i))/\∀k,k<n-e->bY (D*w^(n-e)) (s+(n-e)*(t+1)) (fN e d a (n-e) k):=by
 obtain⟨D,d1,d2,d3⟩:=ha
 obtain⟨E,e1,e2,e3⟩:=hd
 obtain⟨w,w1,w2⟩:=e3 e aa
 have hw:w≠0:=fun h=>by
  rw[h]at w1
  have w1:(0:Rat)=d e*(E:Rat):=w1
  exact(Rat.mul_eq_zero.1 w1.symm).elim h0 (nE e1)
 have key:∀j,j<=n-e->∀i,i<n->bY (D*w^j) (s+j*(t+1)) (cM e d a (n-e) j i):=by
  intro j
  induction j with
  |zero=>exact fun _ i hi=>by rw[Int.pow_zero,Int.mul_one,Nat.zero_mul];exact d3 i hi
  |succ j ih=>
   intro hj i hi
   have ih:=ih aa
   show bY _ _ (iC e d (n-e-1-j) (cM e d a (n-e) j) i)
   have hs:s+(j+1)*(t+1)=s+j*(t+1)+t+1:=by rw[Nat.add_mul];omega
   have hD:D*w^(j+1)=D*w^j*w:=by rw[Int.pow_succ,Int.mul_assoc]
   rw[hs,hD]
   unfold iC
   by_cases h:n-e-1-j<=i/\i<n-e-1-j+e+1
   ·rw[if_pos h]
    obtain⟨z,z1,z2⟩:=ih i hi
    obtain⟨y,y1,y2⟩:=ih (n-e-1-j+e) aa
    obtain⟨m,m1,m2⟩:=e3 (i-(n-e-1-j)) aa
    refine⟨z*w-y*m,?_,?_⟩
    ·rw[Rat.intCast_sub,Rat.intCast_mul,Rat.intCast_mul,Rat.intCast_mul,z1,m1]
     generalize ((D*w^j:Int):Rat)=Q at*
     rw[y1,w1,Rat.div_def]
     have:d e*(d e)⁻¹=1:=Rat.mul_inv_cancel _ h0
     generalize (d e)⁻¹=v at*
     generalize d (i-(n-e-1-j))=u
     generalize cM e d a (n-e) j i=x
     generalize cM e d a (n-e) j (n-e-1-j+e)=r
     generalize d e=g at*
     have h3:r*v*u*(Q*(g*(E:Rat)))=r*u*Q*(E:Rat)*(g*v):=by grind
     rw[Rat.sub_eq_add_neg,Rat.sub_eq_add_neg,Rat.add_mul,Rat.neg_mul,h3,this];grind
    ·have b1:=nK z2 w2
     have b2:=nK y2 m2
     have:=Int.natAbs_sub_le (z*w) (y*m)
     rw[Nat.pow_succ];omega
   ·rw[if_neg h]
    exact((ih i hi).up w2).more aa
 refine⟨D,w,d1,hw,d2,w2,key,fun k hk=>?_⟩
 -- the quotient
 obtain⟨z,z1,z2⟩:=key (n-e-1-k) aa (k+e) aa
 have h1:bY (D*w^(n-e-1-k)*w) (s+(n-e-1-k)*(t+1)+t) (fN e d a (n-e) k):=by
  refine⟨z*E,?_,nK z2 e2⟩
  unfold fN
  rw[Rat.intCast_mul,Rat.intCast_mul (D*w^(n-e-1-k)),z1,w1,Rat.div_def]
  have:d e*(d e)⁻¹=1:=Rat.mul_inv_cancel _ h0
  generalize (d e)⁻¹=v at*
  generalize cM e d a (n-e) (n-e-1-k) (k+e)=r
  generalize d e=g at*
  generalize ((D*w^(n-e-1-k):Int):Rat)=Q
  have h3:r*v*(Q*(g*(E:Rat)))=r*Q*(E:Rat)*(g*v):=by grind
  rw[h3,this,Rat.mul_one]
 have h2:=h1.up (zC w2 k)
 rw[show D*w^(n-e-1-k)*w*w^k=D*w^(n-e) by rw[Int.mul_assoc,Int.mul_assoc,<-Int.pow_succ',<-Int.pow_add,show n-e-1-k+(k+1)=n-e by omega]]at h2
 refine h2.more ?_
 have:(n-e)*(t+1)=(n-e-1-k)*(t+1)+(k+1)*(t+1):=by rw[<-Nat.add_mul,show n-e-1-k+(k+1)=n-e by omega]
 rw[this,Nat.add_mul k 1,Nat.mul_add k t 1];omega
theorem Bd.rem {a d:PP} {s t:Nat} (ha:Bd a s) (hd:Bd d t) (h0:0<d.1) (td:Trim d):Bd (fe a d) (s+(a.1-(d.1-1))*(t+1))/\Bd (gJ a d) (s+(a.1-(d.1-1))*(t+1))/\(∀j,j<=a.1-(d.1-1)->∀i,i<a.1->Sz (cM (d.1-1) d.2 a.2 (a.1-(d.1-1)) j i) (2*(s+(a.1-(d.1-1))*(t+1))+2))/\∀k,k<a.1-(d.1-1)->Sz (fN (d.1-1) d.2 a.2 (a.1-(d.1-1)) k) (2*(s+(a.1-(d.1-1))*(t+1))+2):=by
 have hd':cW (d.1-1+1) d.2 t:=by rw[show d.1-1+1=d.1 by omega];exact hd
 obtain⟨D,w,d1,w1,d2,w2,h1,h2⟩:=Xw ha hd' (td.resolve_left aa)
 obtain⟨R,hR⟩:∃R,R=a.1-(d.1-1):=⟨_,rfl⟩
 unfold fe gJ
 rw[<-hR]at h1 h2 ⊢
 have hne:∀j,D*w^j≠0:=fun j=>Int.mul_ne_zero d1 (Int.pow_ne_zero w1)
 have hjR:∀{j},j<=R->j*(t+1)<=R*(t+1):=fun h=>Nat.mul_le_mul_right _ h
 have hab:∀j,j<=R->(D*w^j).natAbs<=2^(s+R*(t+1)):=fun j hj=>Nat.le_trans (nK d2 (zC w2 j)) (Nat.pow_le_pow_right (by decide) (by have:=hjR hj;have:=Nat.mul_le_mul_left j (show t<=t+1 by omega);omega))
 refine⟨⟨D*w^R,hne R,hab R aX,fun i hi=>h1 R aX i (Nat.lt_of_lt_of_le hi fU)⟩,⟨D*w^R,hne R,hab R aX,fun k hk=>h2 k (Nat.lt_of_lt_of_le hk fU)⟩,fun j hj i hi=>?_,fun k hk=>?_⟩
 ·exact((h1 j hj i hi).sz (hne j) (hab j hj)).more (by have:=hjR hj;omega)
 ·exact((h2 k hk).sz (hne R) (hab R aX)).more aa
theorem Bd.cT {a:PP} {s:Nat} (h:Bd a s) (ta:Trim a):Bd (gq a) s:=by
 obtain⟨D,h1,h2,h3⟩:=h
 rcases Nat.eq_zero_or_pos a.1 with h0|h0
 ·exact⟨1,by decide,Nat.one_le_two_pow,fun i hi=>absurd hi (by show¬i<a.1;omega)⟩
 have ht:a.2 (a.1-1)≠0:=ta.resolve_left aa
 obtain⟨w,w1,w2⟩:=h3 (a.1-1) aa
 have hw:w≠0:=fun h=>by
  rw[h]at w1
  have w1:(0:Rat)=a.2 (a.1-1)*(D:Rat):=w1
  exact(Rat.mul_eq_zero.1 w1.symm).elim ht (nE h1)
 refine⟨w,hw,w2,fun i hi=>?_⟩
 obtain⟨z,z1,z2⟩:=h3 i hi
 refine⟨z,?_,z2⟩
 show _=Go.Am.cT a.1 a.2 i*_
 unfold Go.Am.cT
 rw[z1,w1,Rat.div_def]
 have:a.2 (a.1-1)*(a.2 (a.1-1))⁻¹=1:=Rat.mul_inv_cancel _ ht
 generalize (a.2 (a.1-1))⁻¹=v at*
 generalize a.2 (a.1-1)=g at*
 have h4:a.2 i*v*(g*(D:Rat))=a.2 i*(D:Rat)*(g*v):=by grind
 rw[h4,this,Rat.mul_one]
theorem zg {n s:Nat} {k:Nat->Rat} (h:cW n k s) (hn:n<=41):cW (n-1) (dF k) (s+6):=by
 obtain⟨D,h1,h2,h3⟩:=h
 refine⟨D,h1,Nat.le_trans h2 (Nat.pow_le_pow_right (by decide) aa),fun i hi=>?_⟩
 unfold dF
 exact((h3 (i+1) aa).yE (e:=6) aa).more aa
theorem Bd.dF {a:PP} {s:Nat} (h:Bd a s) (ha:a.1<=41):Bd (bh a) (s+6):=(zg h ha).short fU
theorem Bd.neg {a:PP} {s:Nat} (h:Bd a s):Bd (a.1,fun i=>((-1:Int):Rat)*a.2 i) s:=by
 obtain⟨D,h1,h2,h3⟩:=h
 exact⟨D,h1,h2,fun i hi=>((h3 i hi).yE (e:=0) (n:=-1) (by decide)).more aa⟩
theorem DV {n s τ:Nat} {k:Nat->Rat} {D T:Int} {t:Rat} (h:∀i,i<n->bY D s (k i)) (ht:bY T τ t) (hT:T.natAbs<=2^τ):∀m,m<=n->bY (D*T^m) (s+m*(τ+1)) (fT n k t m)
 |0,_=>bY.zero
 |m+1,hm=>by
  have ih:=DV h ht hT m aa
  have e1:=ih.mul ht
  have e2:=(h (n-1-m) aa).up (zC hT (m+1))
  have hD:D*T^m*T=D*T^(m+1):=by rw[Int.pow_succ,Int.mul_assoc]
  rw[hD]at e1
  have hs:s+(m+1)*(τ+1)=s+m*(τ+1)+τ+1:=by rw[Nat.add_mul];omega
  rw[hs]
  refine(e1.more aX).add (e2.more ?_)
  rw[Nat.add_mul,Nat.one_mul]
  have:=Nat.mul_le_mul_left m (show τ<=τ+1 by omega)
  omega
theorem DP:∀δ:Nat,1<=δ->δ+2<=3^δ
 |1,_=>by decide
 |δ+2,_=>by
  have:=DP (δ+1) aa
  rw[Nat.pow_succ];omega
theorem CF (n:Nat):0<3^n:=Nat.pow_pos (by decide)
theorem uc {m n:Nat} (h:m<=n):3^m<=3^n:=Nat.pow_le_pow_right (by decide) h
theorem Bd.more {a:PP} {s t:Nat} (h:Bd a s) (ht:s<=t):Bd a t:=cW.more h ht
theorem IL {B W M l l':Nat} (hB:B+1<=W*3^(M-l)) (hl:l'<l) (hM:l<=M):B+(l-(l'-1))*(B+1)+1<=W*3^(M-l')\/l'=0:=by
 rcases Nat.eq_zero_or_pos l' with h|h
 ·exact .inr h
 left
 have h1:l-(l'-1)=l-l'+1:=aa
 have h2:=DP (l-l') aa
 have h3:M-l'=M-l+(l-l'):=aa
 rw[h1,h3,Nat.pow_add,<-Nat.mul_assoc]
 have h4:(B+1)*(l-l'+2)<=W*3^(M-l)*3^(l-l'):=Nat.mul_le_mul hB h2
 have h5:(B+1)*(l-l'+2)=B+(l-l'+1)*(B+1)+1:=by
  rw[Nat.mul_comm,show l-l'+2=l-l'+1+1 by omega,Nat.add_mul (l-l'+1)];omega
 omega
theorem ZV {u M l l':Nat} (hl:l<=M) (hl':l'<=M) (h0:0<l'):u+(l-(l'-1))*(u+1)+1<=2*(u+1)*3^(M-l'):=by
 have h1:(l-(l'-1))<=l-l'+1:=aa
 have h2:l-l'+2<=2*3^(l-l'):=by
  rcases Nat.eq_zero_or_pos (l-l')with h|h
  ·rw[h];decide
  ·have:=DP (l-l') h
   have:=CF (l-l');omega
 have h3:3^(l-l')<=3^(M-l'):=uc aa
 have h4:(u+1)*(l-l'+2)<=(u+1)*(2*3^(M-l')):=Nat.mul_le_mul_left _ aa
 have h5:(u+1)*(l-l'+2)=u+(l-l'+1)*(u+1)+1:=by
  rw[Nat.mul_comm,show l-l'+2=l-l'+1+1 by omega,Nat.add_mul (l-l'+1)];omega
 have h6:(l-(l'-1))*(u+1)<=(l-l'+1)*(u+1):=Nat.mul_le_mul_right _ h1
 have h7:(u+1)*(2*3^(M-l'))=2*(u+1)*3^(M-l'):=by rw[<-Nat.mul_assoc,Nat.mul_comm (u+1) 2]
 omega
theorem FB {a b:PP} {u M:Nat} (ta:Trim a) (tb:Trim b) (la:a.1<=M) (lb:b.1<=M) (ha:Bd a u) (hb:Bd b u):∀j,∃B,B+1<=2*(u+1)*3^(M-(ct (a,b) j).1.1)/\Bd (ct (a,b) j).1 B/\Bd (ct (a,b) j).2 B/\(ct (a,b) j).1.1<=M/\(ct (a,b) j).2.1<=M/\((ct (a,b) j).2.1<(ct (a,b) j).1.1\/j=0/\B=u\/(ct (a,b) j).2.1=0)
 |0=>by
  have:=CF (M-a.1)
  refine⟨u,?_,ha,hb,la,lb,.inr (.inl ⟨rfl,rfl⟩)⟩
  show u+1<=2*(u+1)*3^(M-a.1)
  have:=Nat.mul_le_mul_left (2*(u+1)) this
  omega
 |j+1=>by
  obtain⟨B,h1,h2,h3,h4,h5,h6⟩:=FB ta tb la lb ha hb j
  have ht:=mH (s:=(a,b)) ta tb j
  show∃B,B+1<=2*(u+1)*3^(M-(gN (ct (a,b) j)).1.1)/\Bd (gN (ct (a,b) j)).1 B/\Bd (gN (ct (a,b) j)).2 B/\(gN (ct (a,b) j)).1.1<=M/\(gN (ct (a,b) j)).2.1<=M/\((gN (ct (a,b) j)).2.1<(gN (ct (a,b) j)).1.1\/j+1=0/\B=u\/(gN (ct (a,b) j)).2.1=0)
  generalize ct (a,b) j=s at*
  unfold gN
  by_cases h0:s.2.1=0
  ·rw[if_pos h0];exact⟨B,h1,h2,h3,h4,h5,.inr (.inr h0)⟩
  ·rw[if_neg h0]
   have hr:=oG (a:=s.1) (d:=s.2) aa ht.2
   have hb:=(Bd.rem h2 h3 aa ht.2).1.cT sW
   refine⟨B+(s.1.1-(s.2.1-1))*(B+1),?_,h3.more (Nat.le_add_right _ _),hb,h5,?_,.inl hr⟩
   ·rcases h6 with h6|⟨_,rfl⟩|h6
    ·exact(IL h1 h6 h4).resolve_right h0
    ·exact ZV h4 h5 aa
    ·exact absurd h6 h0
   ·show(fe s.1 s.2).1<=M;omega
theorem KO {a b:PP} {u M:Nat} (ta:Trim a) (tb:Trim b) (la:a.1<=M) (lb:b.1<=M) (ha:Bd a u) (hb:Bd b u):∃B,B+1<=2*(u+1)*3^(M-(bL a b).1)/\Bd (bL a b) B:=by
 obtain⟨B,h1,h2,_⟩:=FB ta tb la lb ha hb b.1
 exact⟨B,h1,h2.cT (mH (s:=(a,b)) ta tb _).1⟩
theorem zw {a b:PP} {u M:Nat} (ta:Trim a) (tb:Trim b) (la:a.1<=M) (lb:b.1<a.1) (ha:Bd a u) (hb:Bd b u):∀j,j<=fl (a,b)->∃B,B+1<=2*(u+1)*3^(M-(bZ (a,b) j).1.1)/\Bd (bZ (a,b) j).1 B/\Bd (bZ (a,b) j).2 B/\(bZ (a,b) j).1.1<=M/\(bZ (a,b) j).2.1<(bZ (a,b) j).1.1
 |0,_=>by
  have:=CF (M-a.1)
  refine⟨u,?_,ha,hb,la,lb⟩
  show u+1<=2*(u+1)*3^(M-a.1)
  have:=Nat.mul_le_mul_left (2*(u+1)) this
  omega
 |j+1,hj=>by
  obtain⟨B,h1,h2,h3,h4,h5⟩:=zw ta tb la lb ha hb j aa
  have ht:=m9 (s:=(a,b)) ta tb j
  have h0:=(mc (s:=(a,b)) ta tb).2.2 j aa
  show∃B,B+1<=2*(u+1)*3^(M-(mL (bZ (a,b) j)).1.1)/\Bd (mL (bZ (a,b) j)).1 B/\Bd (mL (bZ (a,b) j)).2 B/\(mL (bZ (a,b) j)).1.1<=M/\(mL (bZ (a,b) j)).2.1<(mL (bZ (a,b) j)).1.1
  generalize bZ (a,b) j=s at*
  have hr:=oG (a:=s.1) (d:=s.2) aa ht.2
  refine⟨B+(s.1.1-(s.2.1-1))*(B+1),(IL h1 h5 h4).resolve_right h0,h3.more (Nat.le_add_right _ _),(Bd.rem h2 h3 aa ht.2).1.neg,?_,hr⟩
  show s.2.1<=M;omega
theorem SE {a d:PP} {B M:Nat} (ha:Bd a B) (hd:Bd d B) (h0:0<d.1) (td:Trim d) (hM:a.1-(d.1-1)<=M):
  (∀j,j<=a.1-(d.1-1)->∀i,i<a.1->Sz (cM (d.1-1) d.2 a.2 (a.1-(d.1-1)) j i) (2*((M+1)*(B+1))+2))/\∀k,k<a.1-(d.1-1)->Sz (fN (d.1-1) d.2 a.2 (a.1-(d.1-1)) k) (2*((M+1)*(B+1))+2):=by
 obtain⟨_,_,h1,h2⟩:=ha.rem hd h0 td
 have:B+(a.1-(d.1-1))*(B+1)<=(M+1)*(B+1):=by
  have:=Nat.mul_le_mul_right (B+1) hM
  rw[Nat.add_mul];omega
 exact⟨fun j hj i hi=>(h1 j hj i hi).more aa,fun k hk=>(h2 k hk).more aa⟩
theorem bY.sum {D:Int} {s b:Nat} {f:Nat->Rat} {n:Nat} (hn:n<=2^b) (h:∀i,i<n->bY D s (f i)):bY D (s+b) (sg f n):=by
 have key:∀m,m<=n->∃z:Int,(z:Rat)=sg f m*(D:Rat)/\z.natAbs<=m*2^s:=by
  intro m
  induction m with
  |zero=>exact fun _=>⟨0,by show _=0*_;rw[Rat.zero_mul];rfl,Nat.zero_le _⟩
  |succ m ih=>
   intro hm
   obtain⟨z,z1,z2⟩:=ih aa
   obtain⟨w,w1,w2⟩:=h m aa
   refine⟨z+w,?_,?_⟩
   ·show _=(sg f m+f m)*_
    rw[Rat.intCast_add,z1,w1];grind
   ·have:=Int.natAbs_add_le z w
    rw[Nat.add_mul,Nat.one_mul];omega
 obtain⟨z,z1,z2⟩:=key n aX
 refine⟨z,z1,Nat.le_trans z2 ?_⟩
 rw[Nat.pow_add,Nat.mul_comm]
 exact Nat.mul_le_mul_left _ hn
theorem bY.ite {D:Int} {s:Nat} {x:Rat} {p:Prop} [Decidable p] (h:bY D s x):bY D s (if p then x else 0):=by
 split
 ·exact h
 ·exact .zero
theorem OD {m n s t:Nat} {D E:Int} {U V:Nat->Rat} (hm:m+1<=64) (hn:n+1<=64) (hU:∀i,bY D s (U i)) (hV:∀j,bY E t (V j)) {i j k:Nat} (hi:i<=m+1) (hj:j<=n+1):
  bY (D*E) (s+t+13) (sg (fun i=>sg (fun j=>if i+j=k then U i*V j else 0) (n+1)) i+sg (fun j=>if i+j=k then U i*V j else 0) j):=by
 have h1:∀i,∀j,j<=n+1->bY (D*E) (s+t+6) (sg (fun j=>if i+j=k then U i*V j else 0) j):=fun i j hj=>bY.sum aa fun j _=>((hU i).mul (hV j)).ite
 have h2:bY (D*E) (s+t+6+6) (sg (fun i=>sg (fun j=>if i+j=k then U i*V j else 0) (n+1)) i):=bY.sum aa fun i _=>h1 i _ aX
 exact h2.add ((h1 i j hj).more aa)
theorem HU {m n s t:Nat} {D E:Int} {U V:Nat->Rat} (hm:m+1<=64) (hn:n+1<=64) (hU:∀i,bY D s (U i)) (hV:∀j,bY E t (V j)) (k:Nat):bY (D*E) (s+t+13) (kT m n U V k):=by
 have:=OD hm hn hU hV (k:=k) (Nat.le_refl (m+1)) (Nat.zero_le (n+1))
 unfold kT
 rw[show sg (fun j=>if m+1+j=k then U (m+1)*V j else 0) 0=0 from rfl,Rat.add_zero]at this
 exact this
def jT (N:Nat):Nat->Nat
 |0=>1
 |k+1=>jT N k*(if k<=N then bn N k else 1)
theorem Au {N:Nat}:∀k,0<jT N k
 |0=>Nat.one_pos
 |k+1=>by
  unfold jT
  refine Nat.mul_pos (Au k) ?_
  split
  ·rename_i h;exact BN h
  ·exact Nat.one_pos
theorem wE {N:Nat}:∀k,jT N k<=2^(k*N)
 |0=>by rw[Nat.zero_mul];exact Nat.le_refl _
 |k+1=>by
  unfold jT
  rw[Nat.add_mul,Nat.one_mul,Nat.pow_add]
  refine Nat.mul_le_mul (wE k) ?_
  split
  ·exact tK N k
  ·exact Nat.one_le_two_pow
theorem Pr {N i:Nat} (hi:i<=N):∀k,i<k->∃w,jT N k=bn N i*w/\w<=jT N k
 |0,h=>absurd h (Nat.not_lt_zero _)
 |k+1,h=>by
  rcases Nat.eq_or_lt_of_le (Nat.le_of_lt_succ h)with h1|h1
  ·subst h1
   refine⟨jT N i,?_,?_⟩
   ·show jT N i*(if i<=N then bn N i else 1)=_
    rw[if_pos hi,Nat.mul_comm]
   ·show _<=jT N i*(if i<=N then bn N i else 1)
    rw[if_pos hi]
    exact Nat.le_mul_of_pos_right _ (BN hi)
  ·obtain⟨w,w1,w2⟩:=Pr hi k h1
   refine⟨w*(if k<=N then bn N k else 1),?_,?_⟩
   ·show jT N k*_=_
    rw[w1,Nat.mul_assoc]
   ·show _<=jT N k*_
    exact Nat.mul_le_mul_right _ w2
theorem bY.IJ {D:Int} {s N i:Nat} {x:Rat} (h:bY D s x) (hi:i<=N):bY (D*(jT N (N+1):Nat)) (s+(N+1)*N) (x/bq N i):=by
 obtain⟨z,z1,z2⟩:=h
 obtain⟨w,w1,w2⟩:=Pr hi (N+1) aa
 refine⟨z*(w:Int),?_,?_⟩
 ·have hb:=Mz hi
  rw[w1,Rat.intCast_mul,z1,Rat.intCast_mul,Int.natCast_mul,Rat.intCast_mul,Rat.div_def]
  have:bq N i*(bq N i)⁻¹=1:=Rat.mul_inv_cancel _ hb
  show x*(D:Rat)*((w:Int):Rat)=x*(bq N i)⁻¹*((D:Rat)*(bq N i*((w:Int):Rat)))
  generalize (bq N i)⁻¹=v at*
  generalize bq N i=g at*
  generalize ((w:Int):Rat)=y
  have h4:x*v*((D:Rat)*(g*y))=x*(D:Rat)*y*(g*v):=by grind
  rw[h4,this,Rat.mul_one]
 ·rw[Int.natAbs_mul,Nat.pow_add,Int.natAbs_natCast]
  exact Nat.mul_le_mul z2 (Nat.le_trans w2 (wE _))
theorem A2 {D:Int} {m s:Nat} {p:Nat->Rat} (h:∀i,i<m+1->bY D s (p i)) (i:Nat):bY D (s+m) (bq m i*p i):=by
 by_cases hi:i<m+1
 ·have:=(h i hi).yE (e:=m) (n:=(bn m i:Nat)) (by rw[Int.natAbs_natCast];exact tK m i)
  exact this.more aa
 ·rw[F4 aa,Rat.zero_mul];exact .zero
theorem Jd {m n s t:Nat} {p q:Nat->Rat} (hm:m+n<=40) (hp:cW (m+1) p s) (hq:cW (n+1) q t):cW (m+n+1) (kq m n p q) (s+t+(m+n)+13+(m+n+1)*(m+n)):=by
 obtain⟨D,d1,d2,d3⟩:=hp
 obtain⟨E,e1,e2,e3⟩:=hq
 refine⟨D*E*(jT (m+n) (m+n+1):Nat),?_,?_,fun k hk=>?_⟩
 ·have:=Au (N:=m+n) (m+n+1)
  exact Int.mul_ne_zero (Int.mul_ne_zero d1 e1) aa
 ·have h1:=nK (nK d2 e2) (show((jT (m+n) (m+n+1):Nat):Int).natAbs<=2^((m+n+1)*(m+n)) by rw[Int.natAbs_natCast];exact wE _)
  exact Nat.le_trans h1 (Nat.pow_le_pow_right (by decide) aa)
 ·unfold kq
  exact((HU aa aa (A2 d3) (A2 e3) k).IJ aa).more aa
theorem Zb {m n s t:Nat} {p q:Nat->Rat} (hm:m+n<=40) (hp:cW (m+1) p s) (hq:cW (n+1) q t) {i j k:Nat} (hi:i<=m+1) (hj:j<=n+1):
  Sz (sg (fun i=>sg (fun j=>if i+j=k then bq m i*p i*(bq n j*q j)else 0) (n+1)) i+sg (fun j=>if i+j=k then bq m i*p i*(bq n j*q j)else 0) j) (2*(s+t+(m+n)+13)+2):=by
 obtain⟨D,d1,d2,d3⟩:=hp
 obtain⟨E,e1,e2,e3⟩:=hq
 have:=OD (k:=k) aa aa (A2 d3) (A2 e3) hi hj
 exact(this.sz (Int.mul_ne_zero d1 e1) (Nat.le_trans (nK d2 e2) aX)).more aa
theorem zx {D:Int} {s n:Nat} {p:Nat->Rat} (h:∀i,i<n->bY D s (p i)):∀k i,k+i<n->bY D (s+k) (gl p k i)
 |0,i,hi=>h i aa
 |k+1,i,hi=>by
  obtain⟨z,z1,z2⟩:=zx h k (i+1) aa
  obtain⟨w,w1,w2⟩:=zx h k i aa
  refine⟨z-w,?_,?_⟩
  ·show _=(gl p k (i+1)-gl p k i)*_
   rw[Rat.intCast_sub,z1,w1];grind
  ·have:=Int.natAbs_sub_le z w
   rw[show s+(k+1)=s+k+1 by omega,Nat.pow_succ];omega
theorem Cb {n s:Nat} {p:Nat->Rat} (h:cW n p s):cW n (gI n p) (s+2*n):=by
 obtain⟨D,d1,d2,d3⟩:=h
 refine⟨D,d1,Nat.le_trans d2 (Nat.pow_le_pow_right (by decide) aa),fun k hk=>?_⟩
 unfold gI
 have:=(zx d3 k 0 aa).yE (e:=n-1) (n:=(bn (n-1) k:Nat)) (by rw[Int.natAbs_natCast];exact tK _ k)
 exact this.more aa
theorem Bd.cf {a:PP} {s:Nat} (h:Bd a s):∃D:Int,D≠0/\D.natAbs<=2^s/\∀i,bY D s (eE a i):=by
 obtain⟨D,d1,d2,d3⟩:=h
 refine⟨D,d1,d2,fun i=>?_⟩
 unfold eE
 split
 ·rename_i hi;exact d3 i hi
 ·exact .zero
theorem yc {a b:PP} {s t:Nat} (ha:Bd a s) (hb:Bd b t) (la:a.1<=60) (lb:b.1<=60):Bd (bP a b) (s+t+13):=by
 obtain⟨D,d1,d2,d3⟩:=ha.cf
 obtain⟨E,e1,e2,e3⟩:=hb.cf
 exact⟨D*E,Int.mul_ne_zero d1 e1,Nat.le_trans (nK d2 e2) (Nat.pow_le_pow_right (by decide) aa),fun k _=>HU aa aa d3 e3 k⟩
theorem Fk {a b:PP}:(b9 (bP a b)).1=0\/(b9 (bP a b)).1+1<=(b9 a).1+(b9 b).1:=by
 rcases Nat.eq_zero_or_pos (b9 (bP a b)).1 with h|h
 ·exact .inl h
 ·right
  have:=ri (c:=b9 (bP a b)) (a:=b9 a) (b:=b9 b) (fun t=>by rw[dP,dP,dP,bQ]) h eZ eZ eZ
  omega
theorem mJ {a:PP}:(b9 a).1<=a.1:=fU
theorem kO.of_eq {c d h f:PP} (s:kO c h f) (e:∀t,aq c t=aq d t):kO d h f:=
 ⟨fun t=>by rw[<-e,s.eq],s.dv.of_eq fun t=>by rw[fF,fF,MG e]⟩
def oK (p q:PP):PP:=(p.1-1+(q.1-1)+1,kq (p.1-1) (q.1-1) p.2 q.2)
def ju (p q:PP):Nat->PP
 |0=>p
 |j+1=>oK (ju p q j) q
def lI (q:PP):PP:=(q.1,gI q.1 q.2)
def iZ (p:PP) (t:Rat):Rat:=cs (p.1-1) p.2 t
theorem mq {q:PP} (h:1<=q.1) (t:Rat):aq (lI q) t=iZ q t:=by
 obtain⟨n,k⟩:=q
 obtain⟨m,rfl⟩:∃m,n=m+1:=⟨n-1,by have h:1<=n:=h;omega⟩
 exact U3
theorem tW {p q:PP} (t:Rat):iZ (oK p q) t=iZ p t*iZ q t:=by
 unfold iZ oK
 rw[Nat.add_sub_cancel]
 exact ZZ
structure ua (q:PP):Prop where
 lo:1<=q.1
 hi:q.1<=3
 bd:Bd q 7
theorem ua.pw {q:PP} (h:ua q):Bd (lI q) 13:=by
 have h1:cW q.1 (gI q.1 q.2) (7+2*q.1):=Cb h.bd
 exact h1.more (by have:=h.hi;omega)
theorem He {p q:PP} (hp:1<=p.1) (hq:ua q):∀j,1<=(ju p q j).1/\(ju p q j).1<=p.1+2*j
 |0=>⟨hp,aX⟩
 |j+1=>by
  have:=He hp hq j
  have h2:=hq.hi
  show 1<=(ju p q j).1-1+(q.1-1)+1/\(ju p q j).1-1+(q.1-1)+1<=_
  omega
theorem Nx {p q:PP} {s:Nat} (hp:1<=p.1) (hq:ua q) (hb:Bd p s):∀j,p.1+2*j<=13->Bd (ju p q j) (s+200*j)
 |0,_=>hb
 |j+1,h=>by
  have ih:=Nx hp hq hb j aa
  have hl:=He hp hq j
  have h1:=hq.lo
  have h2:=hq.hi
  have hb2:cW ((ju p q j).1-1+1) (ju p q j).2 (s+200*j):=by rw[show(ju p q j).1-1+1=(ju p q j).1 by omega];exact ih
  have hb3:cW (q.1-1+1) q.2 7:=by rw[show q.1-1+1=q.1 by omega];exact hq.bd
  have:=Jd aa hb2 hb3
  refine cW.more this ?_
  have h5:(ju p q j).1-1+(q.1-1)<=12:=aa
  have h6:((ju p q j).1-1+(q.1-1)+1)*((ju p q j).1-1+(q.1-1))<=13*12:=Nat.mul_le_mul aa h5
  omega
structure kE (c:PP):Prop where
 tr:Trim c
 len:c.1<=13
 bd:Bd c 156
 sq:∃h f:PP,kO c h f/\(b9 f).1<=7
theorem DT {n s:Nat} {c:Nat->Rat} {D:Int} (h:∀i,i<n->bY D s (c i)) {i:Nat} (hi:i<n):∀k,k<=n->bY (D*(jT (n-1) (n-1+1):Nat)) (s+(n-1+1)*(n-1)+n+k) (lC n c i k)
 |0,_=>.zero
 |k+1,hk=>by
  have ih:=DT h hi k aa
  have h1:=((h k aa).IJ (N:=n-1) (i:=k) aa).yE (e:=n) (n:=(bn i k:Nat)) (by rw[Int.natAbs_natCast];exact Nat.le_trans (tK i k) (Nat.pow_le_pow_right (by decide) aa))
  have h2:=ih.add (h1.more (t:=s+(n-1+1)*(n-1)+n+k) aa)
  have e:lC n c i (k+1)=lC n c i k+((bn i k:Nat):Int)*(c k/bq (n-1) k):=by
   show lC n c i k+((bn i k:Int):Rat)/bq (n-1) k*c k=_
   rw[Rat.div_def,Rat.div_def];grind
  rw[e];exact h2
theorem aa8 {n s:Nat} {c:Nat->Rat} (hb:cW n c s) {i k:Nat} (hi:i<n) (hk:k<=n):Sz (lC n c i k) (2*(s+n*n+2*n)+2):=by
 obtain⟨D,d1,d2,d3⟩:=hb
 have h1:=DT d3 hi k hk
 have h2:=Au (N:=n-1) (n-1+1)
 have h3:(n-1+1)*(n-1)<=n*n:=Nat.mul_le_mul aa aa
 have h4:=nK d2 (show((jT (n-1) (n-1+1):Nat):Int).natAbs<=2^((n-1+1)*(n-1)) by rw[Int.natAbs_natCast];exact wE _)
 exact(h1.sz (Int.mul_ne_zero d1 aa) h4).more aa
end Go.Am
namespace Go.Am.B
open Go Go.Am.N AV af au IntKind Proofs.Tryz
theorem ke {n s:Nat} {k:Nat->Rat} (h:cW n k s) (hs:2*s+2<=ag):dy n k:=fun i hi=>(h.sz hi).more hs
theorem wX {a d:PP} {B M:Nat} (ha:Bd a B) (hd:Bd d B) (h0:0<d.1) (td:Trim d) (hM:a.1-(d.1-1)<=M) (hB:2*((M+1)*(B+1))+2<=ag):s7 a d:=by
 obtain⟨h1,h2⟩:=SE ha hd h0 td hM
 exact⟨fun j hj i hi=>(h1 j hj i hi).more hB,fun k hk=>(h2 k hk).more hB⟩
theorem B5 {a d:PP} {B M:Nat} (ha:Bd a B) (hd:Bd d B) (h0:0<d.1) (td:Trim d) (hM:a.1-(d.1-1)<=M):Bd (fe a d) ((M+1)*(B+1))/\Bd (gJ a d) ((M+1)*(B+1)):=by
 obtain⟨h1,h2,_⟩:=ha.rem hd h0 td
 have:B+(a.1-(d.1-1))*(B+1)<=(M+1)*(B+1):=by
  have:=Nat.mul_le_mul_right (B+1) hM
  rw[Nat.add_mul];omega
 exact⟨h1.more this,h2.more this⟩
theorem wB {a b:PP} {u M:Nat} (ta:Trim a) (tb:Trim b) (la:a.1<=M) (lb:b.1<=M) (h1M:1<=M) (ha:Bd a u) (hb:Bd b u) (hX:2*((M+1)*(2*(u+1)*3^(M-1)))+2<=ag):oe (a,b):=by
 have hle:∀{B l:Nat},B+1<=2*(u+1)*3^(M-l)->1<=l->B+1<=2*(u+1)*3^(M-1):=fun h1 h2=>Nat.le_trans h1 (Nat.mul_le_mul_left _ (uc aa))
 have hX2:∀{B:Nat},B+1<=2*(u+1)*3^(M-1)->2*((M+1)*(B+1))+2<=ag:=fun h=>by
  have:=Nat.mul_le_mul_left (M+1) h
  omega
 refine⟨fun j hj=>?_,fun i hi=>?_⟩
 ·obtain⟨B,b1,b2,b3,b4,b5,b6⟩:=FB ta tb la lb ha hb j
  have ht:=mH (s:=(a,b)) ta tb j
  have hB:B+1<=2*(u+1)*3^(M-1):=by
   rcases b6 with h|⟨_,rfl⟩|h
   ·exact hle b1 aa
   ·have h3:=CF (M-1)
    have:=Nat.mul_le_mul_left (2*(B+1)) h3
    omega
   ·exact absurd h hj
  refine⟨wX b2 b3 aa ht.2 aa (hX2 hB),?_⟩
  have hm:=(B5 b2 b3 aa ht.2 (show _<=M by omega)).1.cT sW
  exact ke hm (hX2 hB)
 ·obtain⟨B,b1,b2⟩:=KO ta tb la lb ha hb
  have hi:i<(bL a b).1:=hi
  have hB:=hle b1 aa
  have:=hX2 hB
  have h1:B+1<=(M+1)*(B+1):=Nat.le_mul_of_pos_left _ aa
  exact(cW.sz b2 hi).more aa
theorem A3 {c:PP} (h:kE c):Bd (bh c) 162:=Bd.more (h.bd.dF (by have:=h.len;omega)) aa
theorem E2 {c:PP}:(bh c).1<=c.1-1:=fU
theorem CQ {c:PP} (h:kE c) (h0:0<c.1):Bd (bL c (bh c)) 237653/\c.1-(bL c (bh c)).1<=6/\0<(bL c (bh c)).1/\(bL c (bh c)).1<=c.1:=by
 obtain⟨hh,f,s1,s2⟩:=h.sq
 have hl:=h.len
 obtain⟨l1,l2,l3⟩:=ri (a:=b9 hh) (b:=b9 f) (fun t=>by rw[s1.eq,dP,dP]) h0 h.tr eZ eZ
 have hd:Dv hh c:=⟨f,s1.eq⟩
 have hg:Dv (b9 hh) (bL c (bh c)):=(qM hd s1.dv).imp fun w hw t=>by rw[hw,dP]
 have hl2:=hg.len (mP h0) (j8 h.tr dS) eZ
 have hd2:c.1-(bL c (bh c)).1<=6:=aa
 obtain⟨B,b1,b2⟩:=KO (M:=c.1) h.tr dS aX (Nat.le_trans E2 aa) (h.bd.more (show 156<=162 by omega)) (A3 h)
 have h3:3^(c.1-(bL c (bh c)).1)<=3^6:=uc hd2
 have h4:2*(162+1)*3^(c.1-(bL c (bh c)).1)<=2*(162+1)*3^6:=Nat.mul_le_mul_left _ h3
 exact⟨b2.more aa,hd2,mP h0,yA h.tr⟩
theorem BQ {c:PP} (h:kE c) (h0:0<c.1):Bd (aW c) 1901232/\(aW c).1<=7:=by
 obtain⟨g1,g2,g3,g4⟩:=CQ h h0
 have hq:=(B5 (M:=7) (h.bd.more (show 156<=237653 by omega)) g1 g3 (j8 h.tr dS) aa).2.cT Bk
 unfold aW
 rw[if_neg aa]
 refine⟨Bd.more hq aa,?_⟩
 show cr _ _<=7
 exact Nat.le_trans fU aa
theorem Av {c:PP} (h:kE c) (h0:0<c.1):BK c/\Gu c:=by
 have hW:=dc
 have hl:=h.len
 obtain⟨g1,g2,g3,g4⟩:=CQ h h0
 obtain⟨f1,f2⟩:=BQ h h0
 have hd:=wX (M:=7) (h.bd.more (show 156<=237653 by omega)) g1 g3 (j8 h.tr dS) aa aa
 have hf:dy (aW c).1 (aW c).2:=ke f1 aa
 have hder:dy (c.1-1) (dF c.2):=ke (zg h.bd aa) aa
 have h13:2*((13+1)*(2*(162+1)*3^(13-1)))+2<=ag:=by rw[hW];decide
 have b1:=h.bd.more (show 156<=162 by omega)
 have hdl:(bh c).1<=13:=Nat.le_trans E2 aa
 refine⟨⟨aa,h.tr,hder,fun _=>⟨wB h.tr dS hl hdl aa b1 (A3 h) h13,hd,hf⟩⟩,⟨aa,aa,h.tr,hder,fun _=>⟨⟨ke (b1.cT h.tr) aa,ke ((A3 h).cT dS) aa,wB (oo h.tr) (oo dS) hl hdl aa (b1.cT h.tr) ((A3 h).cT dS) h13⟩,hd,hf⟩⟩⟩
theorem I9 {c:PP} (h:kE c) (h0:0<c.1):∀j,j<=fl (ek c)->∃B,B+1<=2772006462/\Bd (bZ (ek c) j).1 B/\Bd (bZ (ek c) j).2 B/\(bZ (ek c) j).1.1<=7/\(bZ (ek c) j).2.1<(bZ (ek c) j).1.1:=fun j hj=>by
 obtain⟨f1,f2⟩:=BQ h h0
 have hfp:0<(aW c).1:=by
  obtain⟨g1,g2,g3,g4⟩:=CQ h h0
  rcases Nat.eq_zero_or_pos (aW c).1 with h9|h9
  ·exfalso
   unfold aW at h9
   rw[if_neg aa]at h9
   have h9:(gJ c (bL c (bh c))).1=0:=h9
   have h10:=fun t=>qi (a:=c) (d:=bL c (bh c)) g3 t
   have:=zL h.tr (b:=fe c (bL c (bh c))) (rZ fun t=>by rw[h10,iF h9,Rat.zero_mul,Rat.zero_add])
   have:=oG (a:=c) g3 (j8 h.tr dS)
   omega
  ·exact h9
 have hfd:Bd (bh (aW c)) 1901238:=f1.dF aa
 have hdl:(bh (aW c)).1<=(aW c).1-1:=fU
 obtain⟨B,b1,b2,b3,b4,b5⟩:=zw (a:=aW c) (b:=bh (aW c)) iA dS f2 aa (f1.more (show 1901232<=1901238 by omega)) hfd j hj
 have h3:3^(7-(bZ (aW c,bh (aW c)) j).1.1)<=3^6:=uc aa
 have h4:=Nat.mul_le_mul_left (2*(1901238+1)) h3
 exact⟨B,aa,b2,b3,b4,b5⟩
theorem Pg {c:PP} (h:kE c) (h0:0<c.1):x6 (ek c):=fun j hj=>by
 have hW:=dc
 obtain⟨B,b1,b2,b3,b4,b5⟩:=I9 h h0 j aa
 have ht:=m9 (s:=ek c) iA dS j
 have hn:=(mc (s:=ek c) iA dS).2.2 j hj
 refine⟨wX (M:=7) b2 b3 aa ht.2 aa aa,?_⟩
 have hr:=(B5 (M:=7) b2 b3 aa ht.2 aa).1.neg
 exact ke hr aa
theorem zY {c:PP} (h:kE c) (h0:0<c.1):jK c/\vm c:=by
 have hW:=dc
 obtain⟨f1,f2⟩:=BQ h h0
 have hder:dy ((aW c).1-1) (dF (aW c).2):=ke (zg f1 aa) aa
 exact⟨⟨(Av h h0).1,hder,Pg h h0⟩,⟨(Av h h0).2,hder,Pg h h0⟩⟩
theorem B8 {c:PP} (h:kE c) (h0:0<c.1):aV c<=8:=by
 obtain⟨f1,f2⟩:=BQ h h0
 have:=(mc (s:=ek c) iA dS).1
 have h2:(ek c).2.1<=(aW c).1-1:=fU
 show fl (ek c)+1<=8
 omega
theorem abI {c:PP} (h:kE c) (h0:0<c.1) {i:Nat} (hi:i<aV c):Bd (aS c i) 2772006461/\(aS c i).1<=7:=by
 obtain⟨B,b1,b2,b3,b4,b5⟩:=I9 h h0 i (by have hi:i<fl (ek c)+1:=hi;omega)
 exact⟨b2.more aa,b4⟩
theorem KG {a:PP} {s τ:Nat} {T:Int} {t:Rat} (h:Bd a s) (ht:bY T τ t) (hT:T.natAbs<=2^τ) (hT0:T≠0) (hl:a.1<=7) (hs:2*(s+7*(τ+1))+2<=ag):jx a t:=by
 obtain⟨D,d1,d2,d3⟩:=h
 intro m hm
 have h1:=DV d3 ht hT m hm
 have h2:=nK d2 (zC hT m)
 have h3:m*(τ+1)<=7*(τ+1):=Nat.mul_le_mul_right _ aa
 have h4:m*τ<=7*(τ+1):=Nat.mul_le_mul aa aa
 exact((h1.more (show s+m*(τ+1)<=s+7*(τ+1) by omega)).sz (Int.mul_ne_zero d1 (Int.pow_ne_zero hT0)) (Nat.le_trans h2 (Nat.pow_le_pow_right (by decide) (show s+m*τ<=s+7*(τ+1) by omega)))).more aa
theorem vt {c:PP} (h:kE c) (h0:0<c.1) {τ:Nat} {T:Int} {t:Rat} (ht:bY T τ t) (hT:T.natAbs<=2^τ) (hT0:T≠0) (hs:τ<=2^31):cJ (aV c) (aS c) t:=fun i hi=>by
 have hW:=dc
 obtain⟨b1,b2⟩:=abI h h0 hi
 exact⟨aa,KG b1 ht hT hT0 b2 aa⟩
open Go Go.Am.N AV Proofs.Tryz
structure Cu where
 p:Int
 n:Nat
 k:Nat->Rat
 m:Nat
 f:Nat->Pl
open Go Go.Am.N AV af au IntKind Proofs.Tryz
def pH:bG:=zG::(91,F3)::(93,jV kR kR NS qq)::qR
abbrev Bv:Code:=aJ f31
abbrev xI:Code:=part Bv [1,1,1,1,0,1,0,0]
abbrev xH:Code:=part xI [1,0,0]
abbrev tJ:Code:=part Bv [1,1,1,1,1]
abbrev sE:List Nat:=[0,1,6,7,8,9]
abbrev Cw (m n:Nat) (p q:Nat->Rat) (i:Nat):List AV:=[bS p (m+1) ag,bS q (n+1) ag,.int .i64 m,.int .i64 n,.own 0 3 0 (m+n+1),.int .i64 i]
abbrev xj:List Nat:=[0,1,6,7,8,9,10]
abbrev C5 (m n:Nat) (p q:Nat->Rat) (i j:Nat):List AV:=[bS p (m+1) ag,bS q (n+1) ag,.int .i64 m,.int .i64 n,.own 0 3 0 (m+n+1),.int .i64 i,.int .i64 j]
abbrev xY:List Nat:=[6,7,8,12]
abbrev Fc (m n k:Nat):List AV:=[.int .i64 m,.int .i64 n,.own 0 3 0 (m+n+1),.int .i64 k]
abbrev oO (m n:Nat) (x:Nat->Rat):aG:=[(0,dL (m+n+1) x ag)]
theorem L8:bC 31 f31:=bD func31
theorem WI {m n:Nat} {p q:Nat->Rat}:aK T pH [200022] 60 sE (before Bv [1,1,1,1,0,1]) ⟨bf 0 [bS p (m+1) ag,bS q (n+1) ag],[],0⟩=
  let c4:Int:=(↑(m+1):Int)-1;let c3:Int:=(↑(n+1):Int)-1;let c2:Int:=(2:Int)^63;let c1:Int:=c4+c3;let c5:Int:=c1+1;some (aj [-c2<=c4/\c4<c2,-c2<=c3/\c3<c2] (aj [-c2<=c1/\c1<c2] (aj [decide (c1>40)=false] (aj [-c2<=c1/\c1<c2,-c2<=c5/\c5<c2,(0:Int)<=c5/\c5<=c5/\c5<=2^47/\c5*(↑(56:Nat):Int)<=2^47] (leaf normal ([az 3 (m+1) fun i=>rat (p i) ag,az 3 (n+1) fun i=>rat (q i) ag,int i64 c4,int i64 c3,own 73728 3 0 c5.toNat,int i64 0],[(73728,aC.mk true true 3 c5.toNat fun x=>rat 0 1)])))))):=ah
theorem abZ {m n i:Nat} {p q x:Nat->Rat}:aK T pH [30] 60 sE (before xI [1,0]) ⟨aH sE (Cw m n p q i),oO m n x,1⟩=
  let c1:List AV×aG:=([az 3 (m+1) fun i=>rat (p i) ag,az 3 (n+1) fun i=>rat (q i) ag,int i64 (↑m:Int),int i64 (↑n:Int),own 0 3 0 (m+n+1),int i64 (↑i:Int)],[(0,aC.mk true true 3 (m+n+1) fun i=>rat (x i) ag)]);some (fork (decide ((↑i:Int)<=(↑m:Int))) (leaf normal c1) (leaf (exit 0) c1)):=ah
theorem T1 {m n i:Nat} {p q x:Nat->Rat}:aK T pH [] 60 xj (before xH [1]) ⟨aH sE (Cw m n p q i),oO m n x,1⟩=
  some (leaf normal ([az 3 (m+1) fun i=>rat (p i) ag,az 3 (n+1) fun i=>rat (q i) ag,int i64 (↑m:Int),int i64 (↑n:Int),own 0 3 0 (m+n+1),int i64 (↑i:Int),int i64 0],[(0,aC.mk true true 3 (m+n+1) fun i=>rat (x i) ag)])):=ah
theorem UX {m n i j:Nat} {p q x:Nat->Rat}:aK T pH [35] 60 xj [part xH [1,0,0]] ⟨aH xj (C5 m n p q i j),oO m n x,1⟩=
  let c13:Int:=(↑m:Int);let c11:Nat:=64+64;let c10:Int:=(↑n:Int);let c9:Int:=(↑i:Int);let c8:AV:=az 3 (n+1) fun i=>rat (q i) ag;let c7:AV:=az 3 (m+1) fun i=>rat (p i) ag;let c5:Int:=(↑j:Int);let c4:Int:=(2:Int)^63;let c3:Nat:=m+n+1;let c2:Nat:=2^41;let c15:Int:=c5+1;let c12:AV:=own 0 3 0 c3;let c1:Int:=c9+c5;let c14:Prop:=(0:Int)<=c1/\c1.toNat<c3;let c6:Nat:=c1.toNat+0;some (fork (decide (c5<=c10)) (aj [(0:Int)<=c9,c9<=c13,c13<=40,(0:Int)<=c5,c5<=c10,c10<=40,(64:Nat)<c2,(64:Nat)<c2,(0:Nat)<1] (aj [-c4<=c1/\c1<c4,-c4<=c1/\c1<c4,c14,c6<c3,(0:Nat)<1,(0:Int)<=c9/\c9.toNat<m+1,(0:Int)<=c5/\c5.toNat<n+1,ag<c2,ag<c2,c11<c2,ag+ag<c2,ag<c2,c11+(ag+ag)<c2,c14,c6<c3] (aj [-c4<=c15/\c15<c4] (leaf normal ([c7,c8,int i64 c13,int i64 c10,c12,int i64 c9,int i64 c15],[(0,aC.mk true true 3 c3 fun j=>rat (bif j==c6 then x c6+(↑(↑(bn c13.toNat c9.toNat):Int):Rat)*(↑(↑(bn c10.toNat c5.toNat):Int):Rat)*(p c9.toNat*q c5.toNat)else x j) (bif j==c6 then ag+(c11+(ag+ag))+1 else ag))]))))) (leaf (exit 2) ([c7,c8,int i64 c13,int i64 c10,c12,int i64 c9,int i64 c5],[(0,aC.mk true true 3 c3 fun i=>rat (x i) ag)]))):=ah
theorem Rs {m n i j:Nat} {p q x:Nat->Rat}:aK T pH [] 60 sE (behind xH [1]++[part xI [1,1]]) ⟨aH xj (C5 m n p q i j),oO m n x,1⟩=
  let c1:Int:=(↑i:Int)+1;some (aj [-(2:Int)^63<=c1/\c1<2^63] (leaf normal ([az 3 (m+1) fun i=>rat (p i) ag,az 3 (n+1) fun i=>rat (q i) ag,int i64 (↑m:Int),int i64 (↑n:Int),own 0 3 0 (m+n+1),int i64 c1],[(0,aC.mk true true 3 (m+n+1) fun i=>rat (x i) ag)]))):=ah
theorem ae2 {m n i:Nat} {p q x:Nat->Rat}:aK T pH [] 60 xY (before tJ [0,1]) ⟨aH sE (Cw m n p q i),oO m n x,1⟩=
  some (leaf normal ([int i64 (↑m:Int),int i64 (↑n:Int),own 0 3 0 (m+n+1),int i64 0],[(0,aC.mk true true 3 (m+n+1) fun i=>rat (x i) ag)])):=ah
theorem abV {m n k:Nat} {x:Nat->Rat}:aK T pH [72] 60 xY [part tJ [0,1,0,0]] ⟨aH xY (Fc m n k),oO m n x,1⟩=
  let c4:Int:=(2:Int)^63;let c3:Nat:=m+n+1;let c2:Int:=(↑k:Int);let c1:Int:=(↑m:Int)+(↑n:Int);let c8:Int:=c2+1;let c7:Prop:=(0:Int)<=c2/\c2.toNat<c3;let c6:AV:=own 0 3 0 c3;let c5:Nat:=c2.toNat+0;some (aj [-c4<=c1/\c1<c4] (fork (decide (c2<=c1)) (aj [c7,c5<c3,-c4<=c1/\c1<c4,(0:Int)<=c2,c2<=c1,c1<=40,ag<2^41,(64:Nat)<2^41,c7,c5<c3] (aj [-c4<=c8/\c8<c4] (leaf normal ([int i64 (↑m:Int),int i64 (↑n:Int),c6,int i64 c8],[(0,aC.mk true true 3 c3 fun j=>rat (bif j==c5 then x c5/(↑(↑(bn c1.toNat c2.toNat):Int):Rat)else x j) (bif j==c5 then ag+64 else ag))])))) (leaf (exit 4) ([int i64 (↑m:Int),int i64 (↑n:Int),c6,int i64 c2],[(0,aC.mk true true 3 c3 fun i=>rat (x i) ag)])))):=ah
theorem Zn {m n k:Nat} {x:Nat->Rat}:dJ T pH [] 60 f31 [part tJ [1]] ⟨aH xY (Fc m n k),oO m n x,1⟩=
  some (leaf ret [az 3 (m+n+1) fun i=>rat (x (i+0)) ag,int i64 0]):=ah
theorem De:cm P pH:=jD (aM LQ (aM (kS fun _ _ K hn=>I0 hn.1 hn.2 K) tu))
def mo (m n:Nat) (p q:Nat->Rat) (i j k:Nat):Rat:=sg (fun i=>sg (fun j=>if i+j=k then bq m i*p i*(bq n j*q j)else 0) (n+1)) i+sg (fun j=>if i+j=k then bq m i*p i*(bq n j*q j)else 0) j
theorem aa5 {m n i k:Nat} {p q:Nat->Rat}:mo m n p q i (n+1) k=mo m n p q (i+1) 0 k:=(Rat.add_zero _).symm
theorem Qu {m n i j:Nat} {p q:Nat->Rat}:mo m n p q i j (i+j)+bq m i*bq n j*(p i*q j)=mo m n p q i (j+1) (i+j):=by
 unfold mo
 show _=_+(sg _ j+(if i+j=i+j then bq m i*p i*(bq n j*q j)else 0))
 rw[if_pos rfl];grind
theorem abW {m n i j k:Nat} {p q:Nat->Rat} (h:k≠i+j):mo m n p q i j k=mo m n p q i (j+1) k:=by
 unfold mo
 show _=_+(sg _ j+(if i+j=k then bq m i*p i*(bq n j*q j)else 0))
 rw[if_neg (fun e=>h e.symm),Rat.add_zero]
theorem ad5 {m n k:Nat} {p q:Nat->Rat}:mo m n p q (m+1) 0 k/bq (m+n) k=kq m n p q k:=by
 unfold kq
 rw[show mo m n p q (m+1) 0 k=kT m n (fun i=>bq m i*p i) (fun j=>bq n j*q j) k from Rat.add_zero _]
def qj (m n:Nat) (p q:Nat->Rat) (k t:Nat):Rat:=if t<k then kq m n p q t else mo m n p q (m+1) 0 t
theorem Et {m n k t:Nat} {p q:Nat->Rat} (h:t<k):qj m n p q k t=kq m n p q t:=if_pos h
theorem Qw {m n k:Nat} {p q:Nat->Rat}:qj m n p q k k/bq (m+n) k=qj m n p q (k+1) k:=by
 rw[Et (Nat.lt_succ_self _)];unfold qj;rw[if_neg (Nat.lt_irrefl _)];exact ad5
theorem acZ {m n k t:Nat} {p q:Nat->Rat} (h:t≠k):qj m n p q k t=qj m n p q (k+1) t:=by
 unfold qj
 by_cases h3:t<k
 ·rw[if_pos h3,if_pos aa]
 ·rw[if_neg h3,if_neg aa]
def uJ (m n:Nat) (p q:Nat->Rat):Prop:=(∀i j k,i<=m+1->j<=n+1->k<m+n+1->Sz (mo m n p q i j k) ag)/\∀k,k<m+n+1->Sz (kq m n p q k) ag
theorem abF {m n:Nat} {p q:Nat->Rat} (hmn:m+n<=40) (hz:uJ m n p q) (K:Nat):aY P 31 K [bS p (m+1) ag,bS q (n+1) ag] [] (aT (.tuple [bS (kq m n p q) (m+n+1) ag,.int .i64 0]) []):=by
 refine ja (r:=aT (.tuple [bS (kq m n p q) (m+n+1) ag,.int .i64 0]) []) hT L8 rfl br rfl (fun _ cx h0=>?_) K []
 have hk:=oD h0
 have hW:=dc
 refine aA.uS hT De hm (x:=Bv) [1,1,1,1,0,1] (i:=0) (y:=xI) (z:=tJ) ah ah ah L8.dst [1,0] (j:=1) (x1:=xH) (zb:=part xI [1,1]) ah ah ah [1] (i2:=2) (y2:=part xH [1,0,0]) ah ah rfl hk
  (f1:=[200022]) (f2:=[30]) (f3:=[]) (f4:=[35]) (f5:=[]) 60 sE xj 1 1 (fun i:Nat=>Cw m n p q i) (fun i=>oO m n (mo m n p q i 0)) (fun i=>i<=m+1) (fun i=>i=m+1) (fun i=>m+1-i) (fun i=>i<m+1) (fun _=>False) (fun _=>False)
  (fun i (j:Nat)=>C5 m n p q i j) (fun i j=>oO m n (mo m n p q i j)) (fun _ j=>j<=n+1) (fun _ j=>j=n+1) (fun _ j=>n+1-j)
  ⟨_,WI,?_⟩ (fun i hi=>⟨_,abZ,?_⟩) (fun i hi hG=>⟨_,T1,?_⟩) (fun i hi hG j hj=>⟨_,UX,?_⟩) (fun i hi hG j hj=>⟨_,Rs,?_⟩) (fun i hi=>?_) (fun _ _ h=>h.elim) (fun _ _ h=>h.elim)
 ·have e1:((m+1:Nat):Int)-1=(m:Nat):=aa
  have e2:((n+1:Nat):Int)-1=(n:Nat):=aa
  have e3:((m:Int)+(n:Int)+1).toNat=m+n+1:=aa
  simp only[af.all,aF,e1,e2,e3,bO]
  exact⟨aa,aa,aa,aa,0,Nat.zero_le _,[(0,73728)],rfl,rfl,rfl,bX rfl rfl rfl (fun k hk=>.inr ⟨rfl,fh (by show(0:Rat)=0+0;rw[Rat.add_zero]) aa⟩) trivial⟩
 ·simp only[af.all,aF,bI,bO]
  exact⟨fun h=>⟨aa,[(0,0)],rfl,rfl,rfl,bX rfl rfl rfl (fun i hi=>cA rfl rfl) trivial⟩,fun h=>⟨rfl,i,aa,[(0,0)],rfl,rfl,rfl,bX rfl rfl rfl (fun i hi=>cA rfl rfl) trivial⟩⟩
 ·simp only[af.all,aF]
  exact⟨0,Nat.zero_le _,[(0,0)],rfl,rfl,rfl,bX rfl rfl rfl (fun i hi=>cA rfl rfl) trivial⟩
 ·have e1:((i:Int)+(j:Int)).toNat=i+j:=aa
  simp only[af.all,aF,e1,bI,bO,bJ,Nat.add_zero]
  refine⟨fun h=>⟨⟨aa,aa,aa,aa,aa,aa,aa,aa,aa⟩,⟨aa,aa,aa,aa,aa,aa,aa,aa,aa,aa,aa,aa,aa,aa,aa⟩,aa,j+1,aa,by dsimp only;omega,[(0,0)],rfl,by rw[show(j:Int)+1=((j+1:Nat):Int) by omega];rfl,rfl,bX rfl rfl rfl (fun k hk=>qD (fO Qu (hz.1 i (j+1) _ aa aa aa)) fun hne=>fh (abW hne) aX) trivial⟩,
   fun h=>⟨rfl,j,aa,[(0,0)],rfl,rfl,rfl,bX rfl rfl rfl (fun i hi=>cA rfl rfl) trivial⟩⟩
 ·subst hj
  simp only[af.all,aF]
  exact⟨aa,i+1,aa,by dsimp only;omega,[(0,0)],rfl,by rw[show(i:Int)+1=((i+1:Nat):Int) by omega];rfl,rfl,bX rfl rfl rfl (fun k hk=>cA rfl (by rw[aa5])) trivial⟩
 ·subst hi
  refine aA.qp hT De hm (x:=tJ) [0,1] (i:=4) (y:=part tJ [0,1,0,0]) (z:=part tJ [1]) ah ah ah ah hk (f1:=[]) (f2:=[72]) 60 xY 1 (fun k:Nat=>Fc m n k) (fun k=>oO m n (qj m n p q k))
   (fun k=>k<=m+n+1) (fun k=>k=m+n+1) (fun k=>m+n+1-k) (fun _=>False) ⟨_,ae2,?_⟩ (fun k hk=>⟨_,abV,?_⟩) (fun k hk=>?_) (fun _ _ h=>h.elim)
  ·simp only[af.all,aF]
   exact⟨0,Nat.zero_le _,[(0,0)],rfl,rfl,rfl,bX rfl rfl rfl (fun i hi=>cA rfl rfl) trivial⟩
  ·have e1:((m:Int)+(n:Int)).toNat=m+n:=aa
   simp only[af.all,aF,e1,bI,bO,bJ,Nat.add_zero]
   refine⟨aa,fun h=>⟨⟨aa,aa,aa,aa,aa,aa,aa,aa,aa,aa⟩,aa,k+1,aa,by dsimp only;omega,[(0,0)],rfl,by rw[show(k:Int)+1=((k+1:Nat):Int) by omega];rfl,rfl,bX rfl rfl rfl (fun t ht=>qD (y:=qj m n p q (k+1)) (fO Qw (by rw[Et (Nat.lt_succ_self _)];exact hz.2 k aa)) fun hne=>fh (acZ hne) aX) trivial⟩,
    fun h=>⟨rfl,k,aa,[(0,0)],rfl,rfl,rfl,bX rfl rfl rfl (fun i hi=>cA rfl rfl) trivial⟩⟩
  ·subst hk
   refine aA.oQ ((aI.fin hT De hm 60 Zn ah ?_).mono fun _ _ h=>.inl h)
   exact⟨ko fun i hi=>fh (by rw[Nat.add_zero];exact Et hi) aX,.refl _,trivial⟩
def Mk:Spec:=eR (kC (kL ag) (kC (kL ag) kN)) (fun a=>.tuple [bS (kq (a.1.1-1) (a.2.1.1-1) a.1.2 a.2.1.2) (a.1.1-1+(a.2.1.1-1)+1) ag,.int .i64 0]) fun a=>[1<=a.1.1,1<=a.2.1.1,a.1.1+a.2.1.1<=42,uJ (a.1.1-1) (a.2.1.1-1) a.1.2 a.2.1.2]
theorem XO:bF P Mk 31:=fk fun⟨⟨m,p⟩,⟨n,q⟩,_⟩ K hn=>by
 obtain⟨h1,h2,h3,h4⟩:=hn
 have h1:1<=m:=h1
 have h2:1<=n:=h2
 have h3:m+n<=42:=h3
 obtain⟨m,rfl⟩:∃x,m=x+1:=⟨m-1,aa⟩
 obtain⟨n,rfl⟩:∃x,n=x+1:=⟨n-1,aa⟩
 exact abF aa h4 K
def CH:bG:=nG::(96,I3)::qR
abbrev xM:Code:=aJ f55
abbrev yX:List Nat:=[0,3,4]
abbrev D3 (n:Nat) (z:Nat->Int) (i:Nat):List AV:=[.az 1 n fun i=>.int .i64 (z i),.own 0 3 0 i,.int .i64 i]
theorem ZP:bC 55 f55:=bD func55
theorem afy {n:Nat} {z:Nat->Int}:aK T CH [] 60 yX (before xM [1,1,0,1]) ⟨bf 0 [.az 1 n fun i=>.int .i64 (z i)],[],0⟩=
  some (leaf normal ([az 1 n fun i=>int i64 (z i),nil,int i64 0],[])):=ah
theorem RW {n i:Nat} {z:Nat->Int} {k:Nat->Rat}:aK T CH [10] 60 yX [part xM [1,1,0,1,0,0]] ⟨aH yX (D3 n z i),[(0,dL i k 64)],1⟩=
  let c3:AV:=az 1 n fun i=>int i64 (z i);let c2:Int:=(2:Int)^63;let c1:Int:=(↑i:Int);let c5:Int:=z c1.toNat;let c4:Int:=c1+1;some (fork (decide (c1<(↑n:Int))) (aj [(0:Int)<=c1/\c1.toNat<n,-c2<=c5,c5<c2,(1:Nat)*3<=2^24,(i+1)*((56:Nat)+1)*2<=2^47] (aj [-c2<=c4/\c4<c2] (leaf normal ([c3,own 45057 3 0 (i+1),int i64 c4],[(45057,aC.mk true true 3 (i+1) fun i_1=>if i_1<i then rat (k i_1) 64 else nth [rat (↑c5:Rat) (Max.max 1 (bU c5.natAbs))] (rat 0 1) (i_1-i+0))])))) (leaf (exit 0) ([c3,own 0 3 0 i,int i64 c1],[(0,aC.mk true true 3 i fun i=>rat (k i) 64)]))):=ah
theorem T0 {n i:Nat} {z:Nat->Int} {k:Nat->Rat}:dJ T CH [] 60 f55 [part xM [1,1,1]] ⟨aH yX (D3 n z i),[(0,dL i k 64)],1⟩=
  some (aj [cX (fun i=>.rat (k (i+0)) 64) i ag,(1:Nat)<=i,i<=41,mT i fun i=>aN (.rat (k (i+0)) 64)] (leaf ret [bS (jd i fun i=>aN (.rat (k (i+0)) 64)) i ag])):=ah
theorem abT {rl:List (Nat×Nat)} {l i s s' s2:Nat} {x y:Nat->Rat} {t:Rat} {z:AV} (hx:∀i,i<l->x i=y i) (ht:bg (.rat t s') (.rat (y l) s2)) (h1:s<=s2) (hi:i<l+1):qx rl (if i<l then .rat (x i) s else nth [.rat t s'] z (i-l+0)) (.rat (y i) s2):=by
 by_cases h:i<l
 ·rw[if_pos h,hx i h];exact .inr ⟨rfl,fh rfl h1⟩
 ·obtain rfl:i=l:=aa
  rw[if_neg h,Nat.sub_self]
  exact .inr ⟨rfl,ht⟩
theorem Qb:cm P CH:=jh (aM PC tu)
def mR (z:Nat->Int) (i:Nat):Rat:=(z i:Int)
theorem Ms {n:Nat} {z:Nat->Int} (h1:1<=n) (h2:n<=41) (hz:∀i,i<n->-2^62<=z i/\z i<2^62) (hf:mT n (mR z)) (K:Nat):aY P 55 K [.az 1 n fun i=>.int .i64 (z i)] [] (aT (bS (jd n (mR z)) n ag) []):=by
 have hW:=dc
 refine pX (r:=aT (bS (jd n (mR z)) n ag) []) hT Qb hm ZP rfl br rfl [1,1,0,1] (i:=0) (y:=part xM [1,1,0,1,0,0]) (z:=part xM [1,1,1]) ah ah ah (f1:=[]) (f2:=[10]) (f3:=[]) 60 yX 1
  (fun i:Nat=>D3 n z i) (fun i=>[(0,dL i (mR z) 64)]) (fun i=>i<=n) (fun i=>i=n) (fun i=>n-i) (fun _=>⟨⟨_,afy,?_⟩,fun i hi=>⟨_,RW,?_⟩,fun i hi=>⟨_,T0,?_⟩⟩) K []
 ·simp only[af.all,aF]
  exact⟨0,Nat.zero_le _,[],rfl,rfl,rfl,xL rfl aa aa trivial⟩
 ·simp only[af.all,aF,bI,bO,bJ]
  refine⟨fun h=>⟨⟨aa,by have:=hz i aa;omega,by have:=hz i aa;omega,aa,aa⟩,aa,i+1,aa,by dsimp only;omega,[(0,45057)],rfl,by rw[show(i:Int)+1=((i+1:Nat):Int) by omega];rfl,rfl,bX rfl rfl rfl (fun j hj=>abT (fun _ _=>rfl) (fO rfl (Ek (y:=0) (by have:=hz i aa;omega) (by have:=hz i aa;omega))) aX hj) trivial⟩,
   fun h=>⟨rfl,i,aa,[(0,0)],rfl,rfl,rfl,pQ trivial⟩⟩
 ·subst hi
  simp only[af.all,aF]
  exact⟨⟨eG aa,h1,h2,hf⟩,.refl _⟩
def P7 (p q:PP):Prop:=1<=p.1/\1<=q.1/\p.1+q.1<=42/\uJ (p.1-1) (q.1-1) p.2 q.2
theorem OK {n i:Nat} {c d:Nat->Rat}:∀{k:Nat},(∀j,j<k->c j=d j)->lC n c i k=lC n d i k
 |0,_=>rfl
 |k+1,h=>by
  show lC n c i k+_*c k=lC n d i k+_*d k
  rw[OK fun j hj=>h j aa,h k aa]
theorem mT.congr {n:Nat} {c d:Nat->Rat} (hz:mT n c) (h:∀j,j<n->c j=d j):mT n d:=fun i k hi hk=>by rw[<-OK (c:=c) fun j hj=>h j aa];exact hz i k hi hk
theorem OZ {d:Int}:1<=ig d/\ig d<=12/\0<=d%(ig d+1)/\d%(ig d+1)<=ig d:=by
 have h1:0<=i64.wrap (d.tdiv 17)%12:=Int.emod_nonneg _ aa
 have h2:i64.wrap (d.tdiv 17)%12<12:=Int.emod_lt_of_pos _ aa
 have hM:ig d=1+i64.wrap (d.tdiv 17)%12:=rfl
 have h3:0<=d%(ig d+1):=Int.emod_nonneg _ aa
 have h4:d%(ig d+1)<ig d+1:=Int.emod_lt_of_pos _ aa
 omega
theorem afQ {d:Int}:cW 2 (fun i=>if i=0 then-dI d else 1-dI d) 7:=by
 obtain⟨p1,p2,p3,p4⟩:=OZ (d:=d)
 have hne:((ig d:Int):Rat)≠0:=nE aa
 have e:dI d*((ig d:Int):Rat)=((d%(ig d+1):Int):Rat):=by
  unfold dI
  rw[Rat.div_def,Rat.mul_assoc,Rat.mul_comm _ ((ig d:Int):Rat),Rat.mul_inv_cancel _ hne,Rat.mul_one]
 refine⟨ig d,aa,aa,fun i hi=>?_⟩
 rcases(show i=0\/i=1 by omega)with rfl|rfl
 ·refine⟨-(d%(ig d+1)),?_,aa⟩
  show _=-dI d*_
  rw[Rat.intCast_neg,Rat.neg_mul,e]
 ·refine⟨ig d-d%(ig d+1),?_,aa⟩
  show _=(1-dI d)*_
  rw[Rat.intCast_sub,Rat.sub_eq_add_neg,Rat.sub_eq_add_neg,Rat.add_mul,Rat.one_mul,Rat.neg_mul,e]
theorem aa7 {p q:PP} {s:Nat} (hp:1<=p.1) (lp:p.1<=11) (hb:Bd p s) (hs:s<=1400) (hq:ua q):P7 p q:=by
 have hW:=dc
 have h1:=hq.lo
 have h2:=hq.hi
 have hb2:cW (p.1-1+1) p.2 s:=by rw[show p.1-1+1=p.1 by omega];exact hb
 have hb3:cW (q.1-1+1) q.2 7:=by rw[show q.1-1+1=q.1 by omega];exact hq.bd
 have h5:p.1-1+(q.1-1)<=12:=aa
 have h6:(p.1-1+(q.1-1)+1)*(p.1-1+(q.1-1))<=13*12:=Nat.mul_le_mul aa h5
 exact⟨hp,h1,aa,fun i j k hi hj hk=>(Zb aa hb2 hb3 hi hj).more aa,fun k hk=>((Jd aa hb2 hb3).sz hk).more aa⟩
structure qe (p:PP):Prop where
 lo:1<=p.1
 hi:p.1<=13
 bd:Bd p 1200
 gd:kE (ak p)
theorem qe.of {p:PP} (h:qe p):iU p:=by
 have hW:=dc
 have h1:=h.hi
 refine⟨h.lo,aa,fun k i hi=>?_,ke (Cb h.bd) aa⟩
 obtain⟨D,d1,d2,d3⟩:=h.bd
 exact((zx d3 k i hi).sz d1 d2).more aa
theorem qe.pos {p:PP} (_h:qe p) (h0:(ak p).1≠0):0<(ak p).1:=Nat.pos_of_ne_zero h0
theorem qe.cnt {p:PP} (h:qe p) {a b:Rat} {A B:Int} (ha:bY A 63 a) (hA:A.natAbs<=2^63) (hA0:A≠0) (hb:bY B 63 b) (hB:B.natAbs<=2^63) (hB0:B≠0):Cn p a b/\aef p a b:=by
 refine⟨⟨h.of,fun h0=>?_⟩,⟨h.of,fun h0=>?_⟩⟩
 ·have hp:=h.pos h0
  have hl:=B8 h.gd hp
  exact⟨(zY h.gd hp).1,aa,vt h.gd hp ha hA hA0 aa,vt h.gd hp hb hB hB0 aa⟩
 ·have hp:=h.pos h0
  have hl:=B8 h.gd hp
  exact⟨(zY h.gd hp).2,aa,vt h.gd hp ha hA hA0 aa,vt h.gd hp hb hB hB0 aa⟩
def BL:bG:=[sG,(156,EV)]
theorem Sx:cm P BL:=B7 (aM KY cK)
def zA (i:Nat):Int:=if i=1 then 1 else if i=2 then-4 else if i=3 then 4 else 0
def pA:PP:=(4,jd 4 (mR zA))
def w7 (i:Nat):Int:=if i=0 then-2 else if i=2 then 1 else 0
def pB:PP:=(3,jd 3 (mR w7))
def O7:Spec:=cw fun l=>match l with
 |[.mag 0]=>some (aT (.str [48]) [])
 |[.mag 1]=>some (aT (.str [49]) [])
 |_=>none
def Cv:bG:=[sG,(113,O7)]
def Jh (q:Rat):List UInt8:=if q=0 then [48]else [49]
def Pm:Spec:=cw fun l=>match l with
 |[.rat q _]=>some (aT (.str (Jh q)) [q=0\/q=1])
 |_=>none
def NA:Spec:=eR (kC (kL ag) (kC (ic ag) (kC (ic ag) kN))) (fun a=>.tuple [.int .i64 (vP a.1 a.2.1 a.2.2.1),.int .i64 (pS a.1 a.2.1 a.2.2.1)]) fun a=>[Cn a.1 a.2.1 a.2.2.1]
def Iv:Spec:=cw fun l=>match l with
 |[.az 1 4 f]=>some (aT (aO pA) [f 0=.int .i64 0,f 1=.int .i64 1,f 2=.int .i64 (-4),f 3=.int .i64 4])
 |[.az 1 3 f]=>some (aT (aO pB) [f 0=.int .i64 (-2),f 1=.int .i64 0,f 2=.int .i64 1])
 |_=>none
def N3:bG:=nG::(55,Iv)::(18,DN 1)::(16,NA)::(56,Pm)::qR
theorem ZA:bC 12 f12:=bD func12
theorem Tk:cy T BL [] 60 f113 (aJ f113) ⟨bf 0 [.mag 0],[],0⟩=
  some (leaf ret [str [(48:UInt8)]]):=ah
theorem afF:cy T BL [] 60 f113 (aJ f113) ⟨bf 0 [.mag 1],[],0⟩=
  let c1:Int:=(↑(1:Nat):Int);some (aj [nl 1<2^40,(0:Int)<1000000000,(1000000000:Int)<2^32] (aj [(10:Int)≠(0:Int),(0:Nat)<1/\1*((1:Nat)+1)*2<=2^47] (aj [(10:Int)≠(0:Int)] (aj [(0:Int)<=c1/\c1<=c1/\c1<=2^47/\c1*c1<=2^47] (leaf ret [str [UInt8.ofNat (u8.wrap (u32.wrap ((48:Int)+(↑((1:Nat)%Int.toNat (1000000000:Int)):Int).tmod (10:Int)))).toNat]]))))):=ah
theorem P9:cy T Cv [] 60 f56 (aJ f56) ⟨bf 0 [.agg [.bool false,.mag 0,.mag 0]],[],0⟩=
  some (leaf ret [str [(48:UInt8)]]):=ah
theorem Rk:cy T Cv [] 60 f56 (aJ f56) ⟨bf 0 [.agg [.bool false,.mag 1,.mag 0]],[],0⟩=
  some (leaf ret [str [(49:UInt8)]]):=ah
theorem aeM:cy T N3 [100021,100025,100029,100034,100041,100048,100057] 200 f12 (aJ f12) ⟨bf 0 [],[],0⟩=
  let c14:Rat:=fQ 0 1;let c13:Rat:=(↑(2:Int):Rat);let c12:Rat:=gj 0 1;let c11:AV:=int i64 1;let c9:Int:=(-2:Int);let c8:Int:=(2:Int)^63;let c7:Nat:=cr (gI 4 fun i=>aN (rat (jd 4 (mR zA) i) ag)) 4;let c5:Nat×(Nat->Rat):=((3:Nat),fun i=>aN (rat (jd 3 (mR w7) i) ag));let c3:AV:=int i64 0;let c1:Nat×(Nat->Rat):=((4:Nat),fun i=>aN (rat (jd 4 (mR zA) i) ag));let c10:Nat:=(dO 1 c1).length;let c6:List AV:=[int i64 c9,c3,c11];let c2:List AV:=[c3,c11,int i64 (-4:Int),int i64 4];let c4:Prop:=(0:Int)<=1/\Int.toNat (1:Int)<c10;some (aj [(4:Nat)*1<=2^24,nth c2 c3 ((0:Nat)+0)=c3,nth c2 c3 ((1:Nat)+0)=c11,nth c2 c3 ((2:Nat)+0)=int i64 (-4:Int),nth c2 c3 ((3:Nat)+0)=int i64 4,cX (fun i=>rat (jd 4 (mR zA) i) ag) 4 ag,sV 1 c1] (aj [(3:Nat)*1<=2^24,nth c6 c3 ((0:Nat)+0)=int i64 c9,nth c6 c3 ((1:Nat)+0)=c3,nth c6 c3 ((2:Nat)+0)=c11,-c8<=c9,c9<c8,-c8<=2,(2:Int)<c8,cX (fun i=>rat (jd 3 (mR w7) i) ag) 3 ag,Max.max 1 (bU c9.natAbs)<=ag,Max.max 1 (bU (Int.natAbs (2:Int)))<=ag,Cn c5 (↑c9:Rat) c13] (aj [((if c7=0 then(3:Int)else(0:Int))==0)=true,(bif true then pS c5 (↑c9:Rat) c13==0 else false)=true,(bif true then vP c5 (↑c9:Rat) c13==2 else false)=true,(bif true then(↑c10:Int)==2 else false)=true,(0:Int)<=0/\Int.toNat (0:Int)<c10,(bif true then(↑(lJ 1 c1 (Int.toNat (0:Int))):Int)==1 else false)=true,c4,(bif true then(↑(lJ 1 c1 (Int.toNat (1:Int))):Int)==2 else false)=true,c4,c12=0\/c12=1,(bif true then Jh c12==[(48:UInt8)]else false)=true,c4,c14=0\/c14=1] (leaf ret [AV.bool true])))):=ah
theorem aae:bF P O7 113:=by
 refine cY fun K args r hk hs _=>?_
 have fin:∀{N:Nat} {t:af (List AV)} {l:List UInt8},cy T BL [] 60 f113 (aJ f113) ⟨bf 0 [.mag N],[],0⟩=some t->(t.all fun _ us=>iW us (.str l))->aY P 113 K [.mag N] [] (aT (.str l) []):=fun h1 h2=>
  cB (r:=aT _ []) hT Sx hm adO rfl br rfl 60 h1 (fun _=>h2) K []
 split at hs<;>simp only[aB,reduceCtorEq]at hs
 all_goals subst hs
 ·exact fin Tk (.refl _)
 ·exact fin afF (by simp only[af.all,aF];exact⟨by decide,by decide,by decide,by decide,.refl _⟩)
theorem Xe:cm P Cv:=B7 (aM aae cK)
theorem adV:bF P Pm 56:=by
 refine cY fun K args r hk hs _=>?_
 have fin:∀{q:Rat} {n a b:Nat} {t:af (List AV)} {l:List UInt8},kids (.rat q n)=[.bool false,.mag a,.mag b]->cy T Cv [] 60 f56 (aJ f56) ⟨bf 0 [.agg [.bool false,.mag a,.mag b]],[],0⟩=some t->(t.all fun _ us=>iW us (.str l))->aY P 56 K [.rat q n] [] (aT (.str l) []):=fun h0 h1 h2=>
  je (cB (r:=aT _ []) hT Xe hm abC rfl br rfl 60 h1 (fun _=>h2) K []) rfl (show ir [_] [_]from⟨by rw[<-h0];exact Og,trivial⟩) []
 split at hs
 ·rename_i q n
  simp only[aB]at hs
  subst hs
  intro need
  have need:q=0\/q=1:=need
  rcases need with rfl|rfl
  ·exact fin (l:=[48]) ah P9 (.refl _) trivial
  ·exact fin (l:=[49]) ah Rk (.refl _) trivial
 ·simp at hs
theorem ZF:bF P NA 16:=fk fun⟨_,_,_,_⟩ K hn=>Sn hn K
theorem Nw {n s:Nat} {c:Nat->Rat} (h:cW n c s):cW n (jd n c) (s+n*n+2*n):=by
 obtain⟨D,d1,d2,d3⟩:=h
 have h2:=Au (N:=n-1) (n-1+1)
 rcases Nat.eq_zero_or_pos n with h0|h0
 ·exact⟨1,by decide,Nat.one_le_two_pow,fun i hi=>aa⟩
 have h3:(n-1+1)*(n-1)<=n*n:=Nat.mul_le_mul aa aa
 have h4:=nK d2 (show((jT (n-1) (n-1+1):Nat):Int).natAbs<=2^((n-1+1)*(n-1)) by rw[Int.natAbs_natCast];exact wE _)
 exact⟨_,Int.mul_ne_zero d1 aa,Nat.le_trans h4 (Nat.pow_le_pow_right (by decide) aa),fun i hi=>(DT d3 hi (i+1) aa).more aa⟩
theorem MT {c:PP} (t:Trim c) (hl:c.1<=7) (hb:Bd c 156):kE c:=⟨t,aa,hb,fJ,c,⟨fun t=>by rw[gH,Rat.one_mul],⟨bh c,fun t=>by rw[gH,Rat.one_mul]⟩⟩,Nat.le_trans mJ hl⟩
theorem NI {p:PP} (h1:1<=p.1) (h2:p.1<=7) (hb:Bd p 100):qe p:=
 ⟨h1,aa,hb.more aa,MT mU (Nat.le_trans fU h2) (cW.short ((Cb hb).more aa) fU)⟩
theorem MW:cW 4 (mR zA) 3:=⟨1,by decide,by decide,fun i hi=>bY.int (by
 rcases(show i=0\/i=1\/i=2\/i=3 by omega)with rfl|rfl|rfl|rfl<;>decide)⟩
theorem Jt:cW 3 (mR w7) 3:=⟨1,by decide,by decide,fun i hi=>bY.int (by
 rcases(show i=0\/i=1\/i=2 by omega)with rfl|rfl|rfl<;>decide)⟩
theorem Fe:qe pA:=NI (by show 1<=4;omega) (by show 4<=7;omega) (cW.more (n:=4) (Nw MW) (by decide))
theorem abi:qe pB:=NI (by show 1<=3;omega) (by show 3<=7;omega) (cW.more (n:=3) (Nw Jt) (by decide))
theorem NJ {n s:Nat} {c:Nat->Rat} (h:cW n c s) (hs:2*(s+n*n+2*n)+2<=ag):mT n c:=fun i k hi hk=>(aa8 h hi aa).more hs
theorem WO:bF P Iv 55:=by
 have hW:=dc
 refine cY fun K args r hk hs _=>?_
 split at hs
 ·rename_i f
  simp only[aB]at hs
  subst hs
  intro need
  obtain⟨n0,n1,n2,n3⟩:=need
  refine je (Ms (z:=zA) aa aa (fun i hi=>?_) (NJ MW aa) K) hk ⟨zj rfl fun i hi=>?_,trivial⟩ [] trivial
  ·rcases(show i=0\/i=1\/i=2\/i=3 by omega)with rfl|rfl|rfl|rfl<;>decide
  ·rcases(show i=0\/i=1\/i=2\/i=3 by omega)with rfl|rfl|rfl|rfl
   ·exact n0
   ·exact n1
   ·exact n2
   ·exact n3
 ·rename_i f
  simp only[aB]at hs
  subst hs
  intro need
  obtain⟨n0,n1,n2⟩:=need
  refine je (Ms (z:=w7) aa aa (fun i hi=>?_) (NJ Jt aa) K) hk ⟨zj rfl fun i hi=>?_,trivial⟩ [] trivial
  ·rcases(show i=0\/i=1\/i=2 by omega)with rfl|rfl|rfl<;>decide
  ·rcases(show i=0\/i=1\/i=2 by omega)with rfl|rfl|rfl
   ·exact n0
   ·exact n1
   ·exact n2
 ·simp at hs
theorem ace {τ:Nat}:bY 1 τ 0:=.zero
theorem aeo {τ:Nat}:bY 1 τ 1:=⟨1,by decide+kernel,Nat.one_le_two_pow⟩
theorem wG {c:PP} (h:kE c) (h0:0<c.1):cJ (aV c) (aS c) 0:=vt h h0 (τ:=1) ace (by decide) (by decide) aa
theorem FW {c:PP} (h:kE c) (h0:0<c.1):cJ (aV c) (aS c) 1:=vt h h0 (τ:=1) aeo (by decide) (by decide) aa
theorem I6 {c:PP} (h:kE c) (h0:0<c.1):z7 c:=⟨(Av h h0).1.2.2.1,((Av h h0).1.2.2.2 aa).1⟩
theorem aez:sV 1 pA:=by
 refine⟨Fe.of,fun h0=>?_⟩
 have hp:=Fe.pos h0
 have hg:=Fe.gd
 have hl:dO 1 pA=[(0,0),(0,1)]:=by decide+kernel
 have hb:fR (aV (ak pA)) (aS (ak pA)) 0 1=1:=by decide+kernel
 have hs:=B8 hg hp
 refine⟨(zY hg hp).1,aa,wG hg hp,FW hg hp,⟨wG hg hp,FW hg hp,fun _ h1=>absurd hb h1⟩,by rw[hl];decide,I6 hg hp,fun j hj=>?_⟩
 have h1:∀j,(eI (ak pA) (j+1)).1<=1:=by
  intro j
  induction j with
  |zero=>decide+kernel
  |succ j ih=>exact Nat.le_trans (yA (uh mU _)) ih
 cases j with
 |succ j=>exact absurd (h1 j) aa
 |zero=>
  have hgd:kE (eI (ak pA) 0):=MT (uh mU 0) (by decide+kernel) ⟨2,by decide,by decide,fun i hi=>by
   have hi:i<2:=Nat.lt_of_lt_of_le hi (by decide+kernel)
   rcases(show i=0\/i=1 by omega)with rfl|rfl
   ·exact⟨-1,by decide+kernel,by decide⟩
   ·exact⟨2,by decide+kernel,by decide⟩⟩
  have hp2:0<(eI (ak pA) 0).1:=aa
  have hs2:=B8 hgd hp2
  refine⟨I6 hgd hp2,(zY hgd hp2).1,aa,fun i hi=>?_⟩
  rw[hl]at hi ⊢
  have hi:i<2:=hi
  rcases(show i=0\/i=1 by omega)with rfl|rfl
  ·exact⟨wG hgd hp2,wG hgd hp2⟩
  ·exact⟨wG hgd hp2,FW hgd hp2⟩
theorem TY:cm P N3:=jh (aM WO (aM (Jl 1) (aM ZF (aM adV tu))))
theorem Wh (K:Nat):aY P 12 K [] [] (aT (.bool true) []):=by
 have hW:=dc
 refine cB (r:=aT (.bool true) []) hT TY hm ZA rfl br rfl 200 aeM (fun _=>?_) K []
 simp only[af.all,aF]
 refine⟨⟨aa,rfl,rfl,rfl,rfl,eG aX,aez⟩,⟨aa,rfl,rfl,rfl,aa,aa,aa,aa,eG aX,by rw[hW];decide,by rw[hW];decide,?_⟩,⟨by decide+kernel,by decide+kernel,by decide+kernel,by decide+kernel,by decide+kernel,by decide+kernel,by decide+kernel,by decide+kernel,by decide+kernel,by decide+kernel,by decide+kernel,by decide+kernel,by decide+kernel⟩,.refl _⟩
 exact(abi.cnt (A:=1) (B:=1) ⟨-2,by decide+kernel,by decide⟩ (by decide) (by decide) ⟨2,by decide+kernel,by decide⟩ (by decide) (by decide)).1
def Oe:Spec:=cw fun l=>match l with
 |[]=>some (aT (.bool true) [])
 |_=>none
theorem aeN:bF P Oe 12:=by
 refine cY fun K args r hk hs _=>?_
 split at hs
 ·simp only[aB]at hs
  subst hs
  exact Wh K
 ·simp at hs
end Go.Am.B
namespace Go.Am
def Bz (g a b:PP):Prop:=∃u v:PP,∀t,aq g t=aq u t*aq a t+aq v t*aq b t
def sI:PP:=(0,fun _=>0)
theorem AS {t:Rat}:aq sI t=0:=rfl
theorem Bz.left (a b:PP):Bz a a b:=⟨fJ,sI,fun t=>by rw[gH,AS];grind⟩
theorem Bz.right (a b:PP):Bz b a b:=⟨sI,fJ,fun t=>by rw[gH,AS];grind⟩
theorem Bz.rem {x y a b:PP} (hx:Bz x a b) (hy:Bz y a b) (h0:0<y.1):Bz (fe x y) a b:=by
 obtain⟨u,v,h1⟩:=hx
 obtain⟨w,z,h2⟩:=hy
 refine⟨gE u (eM (-1) (bP (gJ x y) w)),gE v (eM (-1) (bP (gJ x y) z)),fun t=>?_⟩
 have h3:=qi (a:=x) (d:=y) h0 t
 rw[iG,iG,dZ,dZ,bQ,bQ]
 rw[h1,h2]at h3
 grind
theorem Bz.qT {x y a b:PP} (hx:Bz x a b) {r:Rat} (e:∀t,aq y t=r*aq x t):Bz y a b:=by
 obtain⟨u,v,h1⟩:=hx
 exact⟨eM r u,eM r v,fun t=>by rw[e,dZ,dZ,h1];grind⟩
theorem OO {a b:PP}:∀j,Bz (ct (a,b) j).1 a b/\Bz (ct (a,b) j).2 a b
 |0=>⟨.left a b,.right a b⟩
 |j+1=>by
  obtain⟨i1,i2⟩:=OO (a:=a) (b:=b) j
  show Bz (gN _).1 a b/\Bz (gN _).2 a b
  unfold gN
  by_cases h0:(ct (a,b) j).2.1=0
  ·rw[if_pos h0];exact⟨i1,i2⟩
  ·rw[if_neg h0];exact⟨i2,(i1.rem i2 (by omega)).qT fun _=>zJ⟩
theorem Mu (a b:PP):Bz (bL a b) a b:=(OO (a:=a) (b:=b) _).1.qT fun _=>zJ
def gm (a b:PP):Prop:=∃u v:PP,∀t,aq u t*aq a t+aq v t*aq b t=1
theorem gm.symm {a b:PP} (h:gm a b):gm b a:=by
 obtain⟨u,v,h⟩:=h
 exact⟨v,u,fun t=>by rw[Rat.add_comm];exact h t⟩
theorem gm.dv {a b c w:PP} (h:gm a b) (hd:∀t,aq b t*aq c t=aq a t*aq w t):Dv a c:=by
 obtain⟨u,v,h⟩:=h
 refine⟨gE (bP c u) (bP v w),fun t=>?_⟩
 have h1:=h t
 have h2:=hd t
 rw[iG,bQ,bQ]
 grind
theorem gm.qL {a b d:PP} (h:gm a b) (hd:Dv d a):gm d b:=by
 obtain⟨u,v,h⟩:=h
 obtain⟨w,hw⟩:=hd
 exact⟨bP u w,v,fun t=>by rw[bQ,<-h t,hw];grind⟩
theorem qY {a:PP} (ha:Trim a) (h:∀t,aq a t=0):a.1=0:=by
 have h1:=zL (b:=sI) ha (rZ fun t=>by rw[h];rfl)
 exact Nat.le_zero.1 h1
theorem LM {g d:PP} (h0:0<g.1) (tg:Trim g) (h:∀t,aq g t*aq d t=0) (t:Rat):aq d t=0:=by
 rw[<-dP]
 rcases Nat.eq_zero_or_pos (b9 d).1 with h1|h1
 ·exact iF h1 t
 ·have h2:=H9 h0 h1 tg eZ
  refine absurd ?_ h2
  rw[rZ (b:=sI) fun t=>by rw[bQ,dP,h];rfl];rfl
theorem vH {g a b:PP} (h0:0<g.1) (tg:Trim g) (h:∀t,aq g t*aq a t=aq g t*aq b t) (t:Rat):aq a t=aq b t:=by
 have h1:=LM (d:=gE a (eM (-1) b)) h0 tg (fun t=>by rw[iG,dZ];have:=h t;grind) t
 rw[iG,dZ]at h1;grind
theorem Cq {a b:PP} (ta:Trim a) (tb:Trim b) (h0:0<a.1):∃a1 b1:PP,(∀t,aq a t=aq (bL a b) t*aq a1 t)/\(∀t,aq b t=aq (bL a b) t*aq b1 t)/\gm a1 b1:=by
 obtain⟨⟨a1,h1⟩,⟨b1,h2⟩⟩:=l9 ta tb
 obtain⟨u,v,h3⟩:=Mu a b
 refine⟨a1,b1,h1,h2,u,v,fun t=>?_⟩
 have:=vH (g:=bL a b) (a:=gE (bP u a1) (bP v b1)) (b:=fJ) (mP h0) (j8 ta tb) (fun t=>by
  rw[iG,bQ,bQ,gH,Rat.mul_one]
  have e1:=h1 t
  have e2:=h2 t
  have e3:=h3 t
  generalize aq (bL a b) t=G at*
  rw[e1,e2]at e3
  grind) t
 rw[iG,bQ,bQ,gH]at this
 exact this
theorem Hg {c:PP} (tc:Trim c) (h0:0<c.1):∃(f e:PP) (l:Rat),l≠0/\(∀t,aq c t=aq (bL c (bh c)) t*aq f t)/\(∀t,cV c t=aq (bL c (bh c)) t*aq e t)/\gm f e/\∀t,aq (aW c) t=l*aq f t:=by
 obtain⟨f,e,h1,h2,h3⟩:=Cq tc dS h0
 have hg:=mP (b:=bh c) h0
 have tg:=j8 tc (dS (a:=c))
 have hr:∀t,aq (fe c (bL c (bh c))) t=0:=fun t=>by
  have h4:=oG (a:=c) hg tg
  have h5:=(l9 tc (dS (a:=c))).1.rem hg (Dv.refl _)
  rcases Nat.eq_zero_or_pos (fe c (bL c (bh c))).1 with h6|h6
  ·exact iF h6 t
  ·have:=h5.len h6 sW tg;omega
 have hq:∀t,aq (gJ c (bL c (bh c))) t=aq f t:=vH hg tg fun t=>by
  have:=qi (a:=c) hg t
  rw[hr,Rat.add_zero]at this
  rw[<-h1,this,Rat.mul_comm]
 have tq:Trim (gJ c (bL c (bh c))):=Bk
 have hq0:0<(gJ c (bL c (bh c))).1:=by
  rcases Nat.eq_zero_or_pos (gJ c (bL c (bh c))).1 with h6|h6
  ·have:=qY tc fun t=>by rw[h1,<-hq,iF h6,Rat.mul_zero]
   omega
  ·exact h6
 refine⟨f,e,_,?_,h1,fun t=>by rw[<-fF];exact h2 t,h3,fun t=>by
  unfold aW
  rw[if_neg (by omega),zJ,hq]⟩
 rcases tq with h|h
 ·omega
 ·intro hi
  have:((gJ c (bL c (bh c))).2 ((gJ c (bL c (bh c))).1-1))⁻¹⁻¹=0:=by rw[hi,Rat.inv_zero]
  rw[Rat.inv_inv]at this
  exact h this
def fz (d:PP):Nat->PP
 |0=>fJ
 |k+1=>bP d (fz d k)
theorem og {d:PP} {t:Rat}:∀k,aq (fz d k) t=aq d t^k
 |0=>by rw[Rat.pow_zero];exact gH
 |k+1=>by rw[fz,bQ,og k,Rat.pow_succ,Rat.mul_comm]
theorem Zg {t:Rat}:cV fJ t=0:=by
 show 0+1*(((0:Nat):Int)*t^(0-1):Rat)=0
 rw[show(((0:Nat):Int):Rat)=0 from rfl];grind
theorem vu {d:PP} {t:Rat}:∀k:Nat,aq d t*cV (fz d k) t=((k:Int):Rat)*(cV d t*aq d t^k)
 |0=>by rw[fz,Zg,show(((0:Nat):Int):Rat)=0 from rfl];grind
 |k+1=>by
  have h1:=vu (d:=d) (t:=t) k
  have h2:=ku (a:=d) (b:=fz d k) (c:=fz d (k+1)) (fun t=>bQ) t
  rw[h2,og,Rat.pow_succ,show(((k+1:Nat):Int):Rat)=((k:Int):Rat)+1 by rw[Int.natCast_add,Rat.intCast_add];rfl]
  generalize cV (fz d k) t=x at*
  generalize aq d t^k=y at*
  generalize ((k:Int):Rat)=K at*
  grind
theorem Ea {d:PP} (h0:0<d.1) (td:Trim d):∀k,(b9 (fz d k)).1=k*(d.1-1)+1
 |0=>by
  show cr (fun _=>(1:Rat)) 1=_
  rw[zN (.inr (by decide))];omega
 |k+1=>by
  have ih:=Ea h0 td k
  have hp:0<(b9 (fz d (k+1))).1:=by
   rcases Nat.eq_zero_or_pos (b9 (fz d (k+1))).1 with h|h
   ·have h1:∀t,aq (b9 (fz d k)) t=0:=LM h0 td fun t=>by
     rw[dP,<-bQ,show aq (bP d (fz d k)) t=aq (b9 (fz d (k+1))) t from(dP t).symm,iF h]
    have:=qY eZ h1
    omega
   ·exact h
  have:=(ri (a:=d) (b:=b9 (fz d k)) (c:=b9 (fz d (k+1))) (fun t=>by rw[dP,dP];exact bQ) hp eZ td eZ).2.2
  rw[Nat.add_mul];omega
theorem Dp {g d:PP} (hg:0<g.1) (tg:Trim g) (td:Trim d) (h1:1<d.1) (h:∀k:Nat,∃m:PP,∀t,aq g t=aq d t^k*aq m t):False:=by
 obtain⟨m,hm⟩:=h g.1
 have hd:Dv (b9 (fz d g.1)) g:=⟨m,fun t=>by rw[hm,dP,og]⟩
 have:=hd.len hg tg eZ
 rw[Ea (by omega) td]at this
 have:=Nat.le_mul_of_pos_right g.1 (show 0<d.1-1 by omega)
 omega
theorem Ah {d a b:PP} (h0:0<d.1) (td:Trim d) (k:Nat) (h:∀t,aq d t^k*aq a t=aq d t^k*aq b t) (t:Rat):aq a t=aq b t:=
 vH (g:=b9 (fz d k)) (by rw[Ea h0 td];omega) eZ (fun t=>by rw[dP,og];exact h t) t
theorem sw {a:PP} (h0:0<a.1) (ta:Trim a):(gq a).2 (a.1-1)=1:=by
 show a.2 (a.1-1)/a.2 (a.1-1)=1
 have:a.2 (a.1-1)≠0:=by rcases ta with h|h;omega;exact h
 rw[Rat.div_def,Rat.mul_inv_cancel _ this]
theorem gcd_one {a b:PP} (ta:Trim a) (tb:Trim b) (h0:0<a.1) (h1:(bL a b).1=1) (t:Rat):aq (bL a b) t=1:=by
 have h2:=sw (a:=(ct (a,b) b.1).1) (tO (s:=(a,b)) h0 _) (mH (s:=(a,b)) ta tb _).1
 have h3:(ct (a,b) b.1).1.1=1:=h1
 rw[h3]at h2
 show ev (bL a b).1 (bL a b).2 t=1
 rw[h1]
 show 0+(bL a b).2 0*t^0=1
 rw[show(bL a b).2 0=1 from h2,Rat.pow_zero];grind
theorem ue {c:PP} (tc:Trim c) (h0:0<c.1):0<(aW c).1:=by
 obtain⟨f,e,l,hl,h1,h2,h3,h4⟩:=Hg tc h0
 rcases Nat.eq_zero_or_pos (aW c).1 with h|h
 ·have:=qY tc fun t=>by
   have h5:=h4 t
   rw[iF h]at h5
   rcases Rat.mul_eq_zero.1 h5.symm with h7|h7
   ·exact absurd h7 hl
   ·rw[h1,h7,Rat.mul_zero]
  omega
 ·exact h
theorem ng {c:PP} (tc:Trim c) (h0:0<c.1):∃G e:PP,0<G.1/\Trim G/\(∀t,aq c t=aq G t*aq (aW c) t)/\(∀t,cV c t=aq G t*aq e t)/\gm (aW c) e/\(∀t,aq G t=0->aq (bL c (bh c)) t=0)/\∀t,aq (bL c (bh c)) t=0->aq G t=0:=by
 obtain⟨f,e,l,hl,h1,h2,⟨u,v,h3⟩,h4⟩:=Hg tc h0
 have hl2:l⁻¹*l=1:=Rat.inv_mul_cancel _ hl
 have hli:l⁻¹≠0:=fun h=>by rw[h,Rat.zero_mul]at hl2;exact absurd hl2 (by decide)
 refine⟨eM l⁻¹ (bL c (bh c)),eM l e,mP h0,uB (j8 tc dS) hli,fun t=>?_,fun t=>?_,⟨eM l⁻¹ u,eM l⁻¹ v,fun t=>?_⟩,fun t h=>?_,fun t h=>?_⟩
 ·rw[dZ,h4,h1];grind
 ·rw[dZ,dZ,h2];grind
 ·have:=h3 t
  rw[dZ,dZ,dZ,h4];grind
 ·rw[dZ]at h
  rcases Rat.mul_eq_zero.1 h with h|h
  ·exact absurd h hli
  ·exact h
 ·rw[dZ,h,Rat.mul_zero]
theorem zB {c:PP} (tc:Trim c) (h0:0<c.1):gm (aW c) (bh (aW c)):=by
 obtain⟨g,e,hg,tg,h1,h2,h3,_⟩:=ng tc h0
 have tF:Trim (aW c):=iA
 have hF:=ue tc h0
 generalize aW c=F at*
 have td:Trim (bL F (bh F)):=j8 tF dS
 have hd0:0<(bL F (bh F)).1:=mP hF
 obtain⟨⟨f1,e1⟩,⟨f2,e2⟩⟩:=l9 tF (dS (a:=F))
 rcases Nat.lt_or_ge 1 (bL F (bh F)).1 with hd1|hd1
 ·have hcop:=h3.qL (d:=bL F (bh F)) ⟨f1,e1⟩
  generalize bL F (bh F)=d at*
  refine(Dp hg tg td hd1 fun k=>?_).elim
  induction k with
  |zero=>exact⟨g,fun t=>by rw[Rat.pow_zero,Rat.one_mul]⟩
  |succ k ih=>
   obtain⟨m,hm⟩:=ih
   have k1:∀t,cV c t=cV g t*aq F t+aq g t*cV F t:=fun t=>ku h1 t
   have k2:∀t,cV g t=cV (fz d k) t*aq m t+aq (fz d k) t*cV m t:=fun t=>ku (fun t=>by rw[hm,og]) t
   have k3:∀t,cV F t=cV d t*aq f1 t+aq d t*cV f1 t:=fun t=>ku e1 t
   have key:=Ah hd0 td k (a:=bP e m) (b:=bP d (gE (eM ((k:Int):Rat) (bP m (gE f2 (eM (-1) (bh f1))))) (gE (bP (bh m) f1) (bP m f2)))) fun t=>by
    rw[bQ,bQ,iG,dZ,bQ,iG,dZ,iG,bQ,bQ,fF,fF]
    have a1:=k1 t
    have a2:=k2 t
    have a3:=k3 t
    have a4:=vu (d:=d) (t:=t) k
    have a5:=h2 t
    have a6:=hm t
    have a8:=e1 t
    have a9:=e2 t
    rw[fF]at a9
    rw[og]at a2
    generalize cV (fz d k) t=P at*
    generalize aq d t^k=D at*
    generalize ((k:Int):Rat)=K at*
    generalize aq d t=dd at*
    generalize cV d t=d' at*
    generalize aq f1 t=x1 at*
    generalize cV f1 t=y1 at*
    generalize aq f2 t=x2 at*
    generalize aq m t=mm at*
    generalize cV m t=m' at*
    generalize aq e t=ee at*
    rw[a5,a6,a2,a9,a8]at a1
    have s2:d'*x1=dd*x2-dd*y1:=by rw[a9]at a3;grind
    calc D*(ee*mm)=D*mm*ee:=by grind
     _=mm*x1*(dd*P)+D*dd*(m'*x1+mm*x2):=by rw[a1];grind
     _=mm*x1*(K*(d'*D))+D*dd*(m'*x1+mm*x2):=by rw[a4]
     _=K*mm*D*(d'*x1)+D*dd*(m'*x1+mm*x2):=by grind
     _=K*mm*D*(dd*x2-dd*y1)+D*dd*(m'*x1+mm*x2):=by rw[s2]
     _=_:=by grind
   obtain⟨w,hw⟩:=hcop.dv (c:=m) (w:=gE (eM ((k:Int):Rat) (bP m (gE f2 (eM (-1) (bh f1))))) (gE (bP (bh m) f1) (bP m f2))) fun t=>by rw[<-bQ,key t,bQ]
   exact⟨w,fun t=>by rw[hm,hw,Rat.pow_succ];grind⟩
 ·obtain⟨u,v,h5⟩:=Mu F (bh F)
  exact⟨u,v,fun t=>by rw[<-h5,gcd_one tF dS hF (by omega)]⟩
def ga (x:Rat):PP:=(2,fun i=>if i=0 then-x else 1)
theorem kz {x t:Rat}:aq (ga x) t=t-x:=by
 show 0+(if(0:Nat)=0 then-x else 1)*t^0+(if(1:Nat)=0 then-x else 1)*t^1=_
 rw[if_pos rfl,if_neg (by decide),Rat.pow_zero,Rat.pow_succ,Rat.pow_zero];grind
theorem Dn {x t:Rat}:cV (ga x) t=1:=by
 show 0+(if(0:Nat)=0 then-x else 1)*(((0:Nat):Int)*t^(0-1):Rat)+(if(1:Nat)=0 then-x else 1)*(((1:Nat):Int)*t^(1-1):Rat)=1
 rw[if_pos rfl,if_neg (by decide),show(((0:Nat):Int):Rat)=0 from rfl,show(((1:Nat):Int):Rat)=1 from rfl,show 1-1=0 from rfl,Rat.pow_zero];grind
theorem AR {x:Rat}:Trim (ga x):=.inr (by show(if(1:Nat)=0 then-x else(1:Rat))≠0;rw[if_neg (by decide)];decide)
theorem wW {m:PP} {x:Rat} (h:aq m x=0):Dv (ga x) m:=by
 rcases Nat.eq_zero_or_pos m.1 with h0|h0
 ·exact⟨sI,fun t=>by rw[iF h0,AS,Rat.mul_zero]⟩
 ·obtain⟨n,hn⟩:∃n,m.1=n+1:=⟨m.1-1,by omega⟩
  refine⟨(n,j7 (n+1) m.2 x),fun t=>?_⟩
  have h1:=uT (k:=m.2) (c:=x) (t:=t) n
  have h2:ev (n+1) m.2 x=0:=by rw[<-hn];exact h
  rw[kz]
  show ev m.1 m.2 t=_
  rw[hn,h1,h2,Rat.add_zero];rfl
theorem qO {c:PP} (tc:Trim c) (h0:0<c.1) {x:Rat} (hx:aq c x=0):aq (aW c) x=0:=by
 obtain⟨g,e,hg,tg,h1,h2,h3,_⟩:=ng tc h0
 generalize aW c=F at*
 refine Decidable.byContradiction fun hF=>?_
 refine Dp hg tg (AR (x:=x)) (show 1<2 by decide) fun k=>?_
 induction k with
 |zero=>exact⟨g,fun t=>by rw[Rat.pow_zero,Rat.one_mul]⟩
 |succ k ih=>
  obtain⟨m,hm⟩:=ih
  have hmx:aq m x=0:=by
   rcases Nat.eq_zero_or_pos k with hk|hk
   ·subst hk
    have:=hm x
    rw[Rat.pow_zero,Rat.one_mul]at this
    rw[h1,this]at hx
    rcases Rat.mul_eq_zero.1 hx with h|h
    ·exact h
    ·exact absurd h hF
   ·have k1:∀t,cV c t=cV g t*aq F t+aq g t*cV F t:=fun t=>ku h1 t
    have k2:∀t,cV g t=cV (fz (ga x) k) t*aq m t+aq (fz (ga x) k) t*cV m t:=fun t=>ku (fun t=>by rw[hm,og]) t
    have key:=Ah (show 0<2 by decide) (AR (x:=x)) k (a:=eM ((k:Int):Rat) (bP m F)) (b:=bP (ga x) (gE (bP e m) (eM (-1) (gE (bP (bh m) F) (bP m (bh F)))))) fun t=>by
     rw[dZ,bQ,bQ,iG,bQ,dZ,iG,bQ,bQ,fF,fF]
     have a1:=k1 t
     have a2:=k2 t
     have a4:=vu (d:=ga x) (t:=t) k
     have a5:=h2 t
     have a6:=hm t
     rw[og]at a2
     rw[Dn]at a4
     generalize cV (fz (ga x) k) t=P at*
     generalize aq (ga x) t^k=D at*
     generalize ((k:Int):Rat)=K at*
     generalize aq (ga x) t=dd at*
     generalize aq F t=ff at*
     generalize cV F t=f' at*
     generalize aq m t=mm at*
     generalize cV m t=m' at*
     generalize aq e t=ee at*
     rw[a5,a6,a2]at a1
     calc D*(K*(mm*ff))=mm*ff*(K*(1*D)):=by grind
      _=mm*ff*(dd*P):=by rw[a4]
      _=dd*(P*mm*ff):=by grind
      _=dd*(D*mm*ee-D*m'*ff-D*mm*f'):=by rw[a1];grind
      _=_:=by grind
    have h5:=key x
    rw[bQ,kz,show x-x=0 by grind,Rat.zero_mul,dZ,bQ]at h5
    rcases Rat.mul_eq_zero.1 h5 with h|h
    ·have:((k:Int):Rat)=((0:Nat):Int):=h
     have:=M0 this
     omega
    ·rcases Rat.mul_eq_zero.1 h with h|h
     ·exact h
     ·exact absurd h hF
  obtain⟨w,hw⟩:=wW hmx
  exact⟨w,fun t=>by rw[hm,hw,Rat.pow_succ];grind⟩
end Go.Am
