/- roots.Isolate. -/
import Derived.Test.YtolopdkjjlfgjaaGreatY38
import Derived.Test.YtolopdkjjlfgjaaGreatY37
import Derived.Test.YtolopdkjjlfgjaaGreatZ2
set_option linter.unusedVariables false
noncomputable section
namespace Go.Am.B
open Go Go.Am.N AV af ak IntKind Proofs.Tryz
def nR (d:Nat):bB:=nG::(57,D9)::(59,D8)::(rF,Ez)::(mM,pR d)::(70,Cb)::(72,AN)::(73,za)::(74,KX)::ia
abbrev Da:Code:=aG f18
abbrev vG:Code:=part Da [1,1,1,1,1,1,1,1,1]
abbrev uk:Code:=part vG [1,1,1,1,1]
abbrev vJ:Code:=part uk [0,1,0,0]
abbrev yw:Code:=part vJ [1,0,0]
abbrev F5:List Nat:=[2,3,4,6,7,8,9,10]
abbrev NV (a:PP):List AV:=[.nil,.int .i64 0,aX a,.ptr 0 0 1 0 [],.ptr 3 0 1 0 [],.ptr 1 0 1 0 [],.ptr 4 0 3 0 [],.ptr 5 0 3 0 []]
abbrev Oc (n:Nat) (c:Nat->PP) (l:List (Rat×Rat)):aD:=[(0,uC 2 l.length),(1,sO n c 0 1),(2,r7 l),(3,⟨false,false,1,1,fun _=>BA n c⟩),(4,tR 0 ah),(5,tR 1 ah)]
abbrev wV:List Nat:=[4,11,50,51,52]
abbrev NF (l:List (Rat×Rat)) (g:Nat->Nat) (m:Nat):ay:=⟨true,true,7,m,fun j=>.agg [de l j,.int .i64 (g j)]⟩
abbrev As (a:PP) (m i:Nat):List AV:=[aX a,.own 1 7 0 i,.own 0 6 0 m,.int .i64 m,.int .i64 i]
abbrev AU (l:List (Rat×Rat)) (g:Nat->Nat) (i:Nat):aD:=[(0,r7 l),(1,NF l g i)]
abbrev qT:List Nat:=[4,11]
abbrev zK (a:PP) (m:Nat):List AV:=[aX a,.own 0 7 0 m]
abbrev rZ (l:List (Rat×Rat)) (g:Nat->Nat) (m:Nat):aD:=[(0,NF l g m)]
abbrev xQ:List Nat:=[4,11,14,75,76,77]
abbrev Df (a:PP) (n:Nat) (c:Nat->PP) (m i:Nat):List AV:=[aX a,.own 0 7 0 m,iE n c,.own 0 7 0 m,.int .i64 m,.int .i64 i]
abbrev vN (v w:AV):ay:=⟨false,true,1,1,fun j=>if(j==0)=true then v else w⟩
abbrev vM (v w:AV):ay:=⟨false,true,3,1,fun j=>if(j==0)=true then v else w⟩
def eE (a:PP):Nat->PP
 |0=>bW a (bL a)
 |j+1=>bW (eE a j) (bL (eE a j))
def l7 (a:PP):Nat->Nat->Nat
 |0,j=>j
 |f+1,j=>if 1<(eE a j).1 then l7 a f (j+1)else j
def hH (a:PP) (l:List (Rat×Rat)):Nat->Nat->Nat
 |0,_=>1
 |j+1,i=>if o9 (bU (eE a j)) (bN (eE a j)) (aU l i).1 (aU l i).2=true then hH a l j i+1 else hH a l j i
def gT (d n:Nat) (c:Nat->PP):List (Rat×Rat):=(if dm (c 0) 0=0 then [(0,0)]else [])++dh n c d 0 1++(if dm (c 0) 1=0 then [(1,1)]else [])
def bf (d:Nat) (p:PP):List (Rat×Rat):=if(aJ p).1=0 then []else gT d (bU (aJ p)) (bN (aJ p))
def fG (d:Nat) (p:PP) (i:Nat):Nat:=hH (aJ p) (bf d p) (l7 (aJ p) (aJ p).1 0) i
abbrev uJ (l:List (Rat×Rat)) (g:Nat->Nat) (j:Nat):AV:=.agg [de l j,.int .i64 (g j)]
abbrev Dp (d:Nat) (p:PP):AV:=.tuple [.aq 7 (bf d p).length (uJ (bf d p) (fG d p)),.int .i64 (if(aJ p).1=0 then 3 else 0)]
def Ap (x:PP):Prop:=dj (x.1-1) (dw x.2)/\oJ (x,bL x)
def u5 (d:Nat) (p:PP):Prop:=mF p/\((aJ p).1≠0->oS (aJ p)/\bU (aJ p)<2^40/\eI (bU (aJ p)) (bN (aJ p)) 0/\eI (bU (aJ p)) (bN (aJ p)) 1/\jy (bU (aJ p)) (bN (aJ p)) d 0 1/\(bf d p).length<2^30/\Ap (aJ p)/\
 ∀j,1<(eE (aJ p) j).1->Ap (eE (aJ p) j)/\oS (eE (aJ p) j)/\bU (eE (aJ p) j)<2^40/\∀i,i<(bf d p).length->eI (bU (eE (aJ p) j)) (bN (eE (aJ p) j)) (aU (bf d p) i).1/\eI (bU (eE (aJ p) j)) (bN (eE (aJ p) j)) (aU (bf d p) i).2)
theorem Jg:bu 18 f18:=bz func18
theorem Rk {d:Nat} {p:PP}:aH T (nR d) [20] 60 F5 (before Da [1,1,1,1,1,1,1,1,1]) ⟨aV 0 [aX p],[],0⟩=
  some (aj [aR p,mF p] (fork (((aJ p).1:Int)==0) (leaf ret ([.nil,.int .i64 3,aX (aJ p),.tuple [],.tuple [],.tuple [],.tuple [],.tuple []],[]))
   (aj [aR (aJ p),oS (aJ p),(0:Nat)<1] (aj [(0:Nat)<1] (aj [(0:Nat)<1] (aj [-2^63<=(0:Int),(0:Int)<2^63,-2^63<=(1:Int),(1:Int)<2^63,(0:Nat)<1,(0:Nat)<1]
    (leaf normal ([.nil,.int .i64 0,aX (aJ p),.ptr 49152 0 1 0 [],.ptr 57344 0 1 0 [],.ptr 65536 0 1 0 [],.ptr 86016 0 3 0 [],.ptr 90112 0 3 0 []],
     [(65536,vN (Lv (bU (aJ p)) (bN (aJ p)) 49152 65536) .void),(49152,⟨false,true,1,1,fun _=>.nil⟩),(90112,vM (.rat ((1:Int):Rat) (max 1 (bP (Int.natAbs 1)))) (.rat 0 1)),(86016,vM (.rat ((0:Int):Rat) (max 1 (bP (Int.natAbs 0)))) (.rat 0 1)),(57344,⟨false,false,1,1,fun j=>if(j==0)=true then BA (bU (aJ p)) (bN (aJ p))else .void⟩)])))))))):=ag
theorem Ts {d n:Nat} {c:Nat->PP} {a:PP} {l:List (Rat×Rat)}:aH T (nR d) [29,41] 60 wV (before vG [1,1,1,1,0,1]) ⟨aE F5 (NV a),Oc n c l,6⟩=
  let c36:AV:=rat 0 1;let c35:Prop:=n<2^40;let c30:Prop:=0<n;let c29:Nat:=l.length;let c28:Nat:=2^47;let c27:Nat:=112+1;let c26:PP:=dH (aX (c 0));let c25:AV:=rat 1 ah;let c24:AV:=own 73734 7 0 0;let c23:Prop:=ah<=ah;let c22:Prop:=jy n (fun i=>dH (aX (c i))) d 0 1;let c21:Int:=(↑(120:Nat):Int);let c20:Prop:=(0:Int)<=0;let c17:List AV:=[int i64 0];let c16:Prop:=aA [∀(i:Nat),i<n->bG (aX (c i)) (aX (dH (aX (c i))))];let c14:Prop:=1*6<=2^24;let c10:Int:=(2:Int)^47;let c8:List (Rat×Rat):=dh n (fun i=>dH (aX (c i))) d 0 1;let c6:AV:=aq 3 a.fst fun i=>rat (a.snd i) ah;let c5:Prop:=bG (iE n c) (iE n fun i=>dH (aX (c i)));let c3:Prop:=0<1;let c15:Nat:=c29+1;let c11:Rat:=dm c26 1;let c9:List Prop:=[c3,c3,c23,∀(i:Nat),i<n->bG (aX (c i)) (aX (dH (aX (c i)))),c30,eI n (fun i=>dH (aX (c i))) 1];let c7:AV:=agg [c36,c36];let c2:List (Rat×Rat):=jk (de l) c29++c8;let c19:Nat:=c2.length;let c4:ay:=ay.mk true true 7 0 fun x=>agg (c7::c17);let c1:List (Rat×Rat):=jk (fun i=>if i<c29 then de l i else nth [agg [rat 0 ah,rat 0 ah]] c7 (i-c29+0)) c15++c8;let c33:Int:=(↑c19:Int);let c18:Nat:=c1.length;let c13:Nat:=c19+1;let c34:Int:=(↑c13:Int);let c31:Int:=(↑c18:Int);let c12:Nat:=c18+1;let c32:Int:=(↑c12:Int);some (aj [c3,c3,c23,∀(i:Nat),i<n->bG (aX (c i)) (aX (dH (aX (c i)))),c30,eI n (fun i=>dH (aX (c i))) 0] (fork (decide (dm c26 0=0)) (aj [c3,c3,c23,c14,c15*c27*2<=c28,c3] (aj [c3,c3,c3,aA [c23],aA [c23],c16,c5,c5,c5,c15=c15,∀(i:Nat),i<c15->(if i<c29 then de l i else nth [agg [rat 0 ah,rat 0 ah]] c7 (i-c29+0)).keys=[]/\bG (if i<c29 then de l i else nth [agg [rat 0 ah,rat 0 ah]] c7 (i-c29+0)) (gM (lR (if i<c29 then de l i else nth [agg [rat 0 ah,rat 0 ah]] c7 (i-c29+0))).fst (lR (if i<c29 then de l i else nth [agg [rat 0 ah,rat 0 ah]] c7 (i-c29+0))).snd ah),c30,c35,c22,c15+c8.length<2^30] (aj c9 (fork (decide (c11=0)) (aj [c3,c3,c23,c14,c12*c27*2<=c28,c3] (aj [c3,c20/\(0:Int)<=c32/\c32<=c10/\c32*c21<=c10] (aj [c3] (leaf normal (c6::own 98310 7 0 0::own 81926 6 0 c12::int i64 c32::c17,[(81926,ay.mk true true 6 c12 fun i=>if i<c18 then de c1 i else nth [agg [c25,c25]] c7 (i-c18+0)),((98310:Nat),c4)]))))) (aj [c3,c20/\(0:Int)<=c31/\c31<=c10/\c31*c21<=c10] (aj [c3] (leaf normal (c6::c24::own 49158 6 0 c18::int i64 c31::c17,[(49158,ay.mk true true 6 c18 fun i=>agg [rat (aU c1 i).fst ah,rat (aU c1 i).snd ah]),((73734:Nat),c4)])))))))) (aj [c3,c3,c3,aA [c23],aA [c23],c16,c5,c5,c5,c29=c29,∀(i:Nat),i<c29->(de l i).keys=[]/\bG (de l i) (gM (aW (rat (aU l i).fst ah)) (aW (rat (aU l i).snd ah)) ah),c30,c35,c22,c29+c8.length<2^30] (aj c9 (fork (decide (c11=0)) (aj [c3,c3,c23,c14,c13*c27*2<=c28,c3] (aj [c3,c20/\(0:Int)<=c34/\c34<=c10/\c34*c21<=c10] (aj [c3] (leaf normal (c6::c24::own 57350 6 0 c13::int i64 c34::c17,[(57350,ay.mk true true 6 c13 fun i=>if i<c19 then de c2 i else nth [agg [c25,c25]] c7 (i-c19+0)),((73734:Nat),c4)]))))) (aj [c3,c20/\(0:Int)<=c33/\c33<=c10/\c33*c21<=c10] (aj [c3] (leaf normal (c6::own 49158 7 0 0::own 24582 6 0 c19::int i64 c33::c17,[(24582,ay.mk true true 6 c19 fun i=>agg [rat (aU c2 i).fst ah,rat (aU c2 i).snd ah]),((49158:Nat),c4)]))))))))):=ag
theorem VU {d m i:Nat} {a:PP} {l:List (Rat×Rat)} {g:Nat->Nat}:aH T (nR d) [53] 60 wV [part vG [1,1,1,1,0,1,0,0]] ⟨aE wV (As a m i),AU l g i,2⟩=
  let c8:AV:=rat 0 1;let c7:Int:=(↑m:Int);let c5:AV:=own 0 6 0 m;let c3:AV:=aq 3 a.fst fun i=>rat (a.snd i) ah;let c2:Int:=(↑i:Int);let c1:Nat×ay:=(0,ay.mk true true 6 l.length fun i=>agg [rat (aU l i).fst ah,rat (aU l i).snd ah]);let c6:Int:=c2+1;let c4:Nat:=c2.toNat+0;some (fork (decide (c2<c7)) (aj [(0:Int)<=c2/\c2.toNat<m,c4<l.length,(0:Nat)<1] (aj [(0:Nat)<1,(1:Nat)*7<=2^24,(i+1)*((120:Nat)+1)*2<=2^47] (aj [-(2:Int)^63<=c6/\c6<2^63] (leaf normal ([c3,own 36866 7 0 (i+1),c5,int i64 c7,int i64 c6],[c1,(36866,ay.mk true true 7 (i+1) fun i_1=>if i_1<i then agg [de l i_1,int i64 (↑(g i_1):Int)]else nth [agg [agg [rat (aU l c4).fst ah,rat (aU l c4).snd ah],int i64 1]] (agg [agg [c8,c8],int i64 0]) (i_1-i+0))]))))) (leaf (exit 0) ([c3,own 1 7 0 i,c5,int i64 c7,int i64 c2],[c1,(1,ay.mk true true 7 i fun j=>agg [agg [rat (aU l j).fst ah,rat (aU l j).snd ah],int i64 (↑(g j):Int)])]))):=ag
theorem Zs {d m i:Nat} {a:PP} {l:List (Rat×Rat)} {g:Nat->Nat}:aH T (nR d) [] 60 qT (before uk [0,1]) ⟨aE wV (As a m i),AU l g i,2⟩=
  let c6:Nat×(Nat->Rat):=(a.fst,fun i=>aW (rat (a.snd i) ah));let c4:Prop:=dU (fun i=>rat (a.snd i) ah) a.fst ah;let c1:Nat:=bY (dw fun i=>aW (rat (a.snd i) ah)) (a.fst-1);let c3:Nat×(Nat->Rat):=(c1,fun i=>aW (rat (dw (fun i=>aW (rat (a.snd i) ah)) i) ah));let c2:PP×PP:=(c6,c3);let c5:PP:=(bZ c2 c1).fst;some (aj [c4,a.fst<2^40,dj (a.fst-1) (dw fun i=>aW (rat (a.snd i) ah)),c4,dU (fun i=>rat (dw (fun i=>aW (rat (a.snd i) ah)) i) ah) c1 ah,a.fst<2^30,c1<2^30,Trim c6,Trim c3,oJ c2] (leaf normal ([aq 3 c5.fst fun i=>rat (cV c5.fst c5.snd i) ah,own 1 7 0 i],[(1,ay.mk true true 7 i fun j=>agg [agg [rat (aU l j).fst ah,rat (aU l j).snd ah],int i64 (↑(g j):Int)])]))):=ag
theorem Wx {d m:Nat} {a:PP} {l:List (Rat×Rat)} {g:Nat->Nat}:aH T (nR d) [68] 60 qT (before vJ [1,0]) ⟨aE qT (zK a m),rZ l g m,1⟩=
  let c1:List AV×aD:=([aq 3 a.fst fun i=>rat (a.snd i) ah,own 0 7 0 m],[(0,ay.mk true true 7 m fun j=>agg [agg [rat (aU l j).fst ah,rat (aU l j).snd ah],int i64 (↑(g j):Int)])]);some (fork (decide ((↑a.fst:Int)>1)) (leaf normal c1) (leaf (exit 2) c1)):=ag
theorem Rm {d m:Nat} {a:PP} {l:List (Rat×Rat)} {g:Nat->Nat}:aH T (nR d) [] 60 xQ (before yw [1,1]) ⟨aE qT (zK a m),rZ l g m,1⟩=
  let c2:AV:=own 0 7 0 m;let c1:Nat×(Nat->Rat):=(a.fst,fun i=>aW (rat (a.snd i) ah));some (aj [dU (fun i=>rat (a.snd i) ah) a.fst ah,oS c1] (leaf normal ([aq 3 a.fst fun i=>rat (a.snd i) ah,c2,aq 1 (bU c1) fun i=>aq 3 (bN c1 i).fst fun i_1=>rat ((bN c1 i).snd i_1) ah,c2,int i64 (↑m:Int),int i64 0],[(0,ay.mk true true 7 m fun j=>agg [agg [rat (aU l j).fst ah,rat (aU l j).snd ah],int i64 (↑(g j):Int)])]))):=ag
theorem abT {d m n i:Nat} {a:PP} {c:Nat->PP} {l:List (Rat×Rat)} {g:Nat->Nat}:aH T (nR d) [78,86] 60 xQ [part yw [1,1,0,0]] ⟨aE xQ (Df a n c m i),rZ l g m,1⟩=
  let c14:Int:=(↑m:Int);let c8:AV:=aq 3 a.fst fun i=>rat (a.snd i) ah;let c7:AV:=aq 1 n fun i=>aq 3 (c i).fst fun i_1=>rat ((c i).snd i_1) ah;let c6:Int:=(2:Int)^63;let c5:AV:=own 0 7 0 m;let c4:Int:=(↑i:Int);let c3:Nat×ay:=(0,ay.mk true true 7 m fun j=>agg [agg [rat (aU l j).fst ah,rat (aU l j).snd ah],int i64 (↑(g j):Int)]);let c13:Int:=c4+1;let c11:Prop:=(0:Int)<=c4/\c4.toNat<m;let c1:Nat:=c4.toNat+0;let c12:Int:=(↑(g c1):Int)+1;let c10:AV:=rat (aU l c1).fst ah;let c9:AV:=rat (aU l c1).snd ah;let c2:List AV:=[c8,c5,c7,c5,int i64 c14,int i64 c13];some (fork (decide (c4<c14)) (aj [c11,c1<m,∀(i:Nat),i<n->bG (aX (c i)) (aX (dH (aX (c i)))),bG c10 (rat (aW c10) ah),bG c9 (rat (aW c9) ah),(0:Nat)<n,n<2^40,eI n (fun i=>dH (aX (c i))) (aW c10),eI n (fun i=>dH (aX (c i))) (aW c9)] (fork (o9 n (fun i=>dH (aX (c i))) (aW c10) (aW c9)) (aj [c11,c1<m,-c6<=c12/\c12<c6,c11,c1<m] (aj [-c6<=c13/\c13<c6] (leaf normal (c2,[(0,ay.mk true true 7 m fun j=>agg [agg [rat (bif j==c1 then(aU l c1).fst else(aU l j).fst) (bif j==c1 then ah else ah),rat (bif j==c1 then(aU l c1).snd else(aU l j).snd) (bif j==c1 then ah else ah)],nT (j==c1) (int i64 c12) (int i64 (↑(g j):Int))])])))) (aj [-c6<=c13/\c13<c6] (leaf normal (c2,[c3]))))) (leaf (exit 4) ([c8,c5,c7,c5,int i64 c14,int i64 c4],[c3]))):=ag
theorem Tu {d m n i:Nat} {a:PP} {c:Nat->PP} {l:List (Rat×Rat)} {g:Nat->Nat}:aH T (nR d) [] 60 qT (behind yw [1,1]++[part vJ [1,1]]) ⟨aE xQ (Df a n c m i),rZ l g m,1⟩=
  let c6:Nat×(Nat->Rat):=(a.fst,fun i=>aW (rat (a.snd i) ah));let c4:Prop:=dU (fun i=>rat (a.snd i) ah) a.fst ah;let c1:Nat:=bY (dw fun i=>aW (rat (a.snd i) ah)) (a.fst-1);let c3:Nat×(Nat->Rat):=(c1,fun i=>aW (rat (dw (fun i=>aW (rat (a.snd i) ah)) i) ah));let c2:PP×PP:=(c6,c3);let c5:PP:=(bZ c2 c1).fst;some (aj [c4,a.fst<2^40,dj (a.fst-1) (dw fun i=>aW (rat (a.snd i) ah)),c4,dU (fun i=>rat (dw (fun i=>aW (rat (a.snd i) ah)) i) ah) c1 ah,a.fst<2^30,c1<2^30,Trim c6,Trim c3,oJ c2] (leaf normal ([aq 3 c5.fst fun i=>rat (cV c5.fst c5.snd i) ah,own 0 7 0 m],[(0,ay.mk true true 7 m fun j=>agg [agg [rat (aU l j).fst ah,rat (aU l j).snd ah],int i64 (↑(g j):Int)])]))):=ag
theorem S8 {d m:Nat} {a:PP} {l:List (Rat×Rat)} {g:Nat->Nat}:dA T (nR d) [] 60 f18 [part uk [1]] ⟨aE qT (zK a m),rZ l g m,1⟩=
  some (leaf ret [aq 7 m fun i=>agg [agg [rat (aU l (i+0)).fst ah,rat (aU l (i+0)).snd ah],int i64 (↑(g (i+0)):Int)],int i64 0]):=ag
theorem zU {d:Nat}:bT P (nR d):=jM (aN Mq (aN IN (aN HV (aN (LW d) (aN Hf (aN Dh (aN BZ (aN acv ir))))))))
theorem ad6 {a:PP} (ta:Trim a) (h:1<a.1):(bW a (bL a)).1<a.1:=by
 have h1:(bL a).1=a.1-1:=vT (.inr (by
  unfold dw
  rw[show a.1-1-1+1=a.1-1 by omega]
  intro h0
  rcases Rat.mul_eq_zero.1 h0 with h0|h0
  ·have h0:((a.1-1:Nat):Int)=0:=Rat.intCast_inj.1 h0
   omega
  ·rcases ta with h2|h2
   ·omega
   ·exact h2 h0))
 have h2:=(vj ta (dR (a:=a))).2.len aa dR (jS ta dR)
 omega
theorem uY {a:PP} (ta:Trim a):∀j,Trim (eE a j)
 |0=>jS ta dR
 |j+1=>jS (uY ta j) dR
theorem AE {a:PP} (ta:Trim a):(bW a (bL a)).1<=a.1:=Af (s:=(a,bL a)) aS (Nat.le_trans fP (Nat.sub_le _ _)) ta dR _
theorem F4 {a:PP} (ta:Trim a):∀j,(eE a j).1<=a.1
 |0=>AE ta
 |j+1=>Nat.le_trans (AE (uY ta j)) (F4 ta j)
theorem L5 {a:PP} (ta:Trim a):∀f j,(eE a j).1<=f->(eE a (l7 a f j)).1<=1/\(∀i,j<=i->i<l7 a f j->1<(eE a i).1)/\j<=l7 a f j
 |0,j,h=>⟨by show(eE a j).1<=1;omega,fun i h1 h2=>by have:i<j:=h2;omega,aS⟩
 |f+1,j,h=>by
  unfold l7
  split
  ·rename_i h1
   have:=ad6 (uY ta j) h1
   obtain⟨g1,g2,g3⟩:=L5 ta f (j+1) (by show(bW _ _).1<=f;omega)
   refine⟨g1,fun i h2 h3=>?_,aa⟩
   rcases Nat.eq_or_lt_of_le h2 with h4|h4
   ·rw[<-h4];exact h1
   ·exact g2 i h4 h3
  ·exact⟨aa,fun i h1 h2=>aa,aS⟩
theorem Ga {a:PP}:∀f j,l7 a f j<=j+f
 |0,j=>aS
 |f+1,j=>by
  unfold l7
  split
  ·have:=Ga (a:=a) f (j+1);omega
  ·omega
theorem HX {a:PP} {l:List (Rat×Rat)} {i:Nat}:∀j,hH a l j i<=j+1
 |0=>aS
 |j+1=>by
  have:=HX (a:=a) (l:=l) (i:=i) j
  unfold hH;split<;>omega
theorem Tn {k es:Nat} (h:0<es):bG .nil (.own k es 0 0):=by
 refine⟨rfl,fun M w cs hc=>?_⟩
 cases hc with
 |vnil h1=>cases h1;exact .own0 h .nil
def iy (a:PP) (l:List (Rat×Rat)) (k i x:Nat):Nat:=if x<i then hH a l (k+1) x else hH a l k x
abbrev tZ (a:PP) (l:List (Rat×Rat)) (k i:Nat):Bool:=o9 (bU (eE a k)) (bN (eE a k)) (aU l i).1 (aU l i).2
theorem Ke {a:PP} {l:List (Rat×Rat)} {k i:Nat}:hH a l (k+1) i=if tZ a l k i=true then hH a l k i+1 else hH a l k i:=rfl
theorem Fe {a:PP} {l:List (Rat×Rat)} {k i:Nat}:iy a l k i i=hH a l k i:=if_neg aa
theorem Mg {a:PP} {l:List (Rat×Rat)} {k i x:Nat} (h:x≠i):iy a l k (i+1) x=iy a l k i x:=by
 unfold iy
 by_cases h1:x<i
 ·rw[if_pos h1,if_pos aa]
 ·rw[if_neg h1,if_neg aa]
theorem Sf {a:PP} {l:List (Rat×Rat)} {k i:Nat} (h:tZ a l k i=true):iy a l k (i+1) i=iy a l k i i+1:=by
 rw[Fe];unfold iy
 rw[if_pos aa,Ke,if_pos h]
theorem adf {a:PP} {l:List (Rat×Rat)} {k i:Nat} (h:tZ a l k i=false):iy a l k (i+1)=iy a l k i:=by
 funext x
 by_cases hx:x=i
 ·subst hx
  rw[Fe];unfold iy
  rw[if_pos aa,Ke,if_neg (by rw[h];decide)]
 ·exact Mg hx
theorem Jk {a:PP} {l:List (Rat×Rat)} {k i c j:Nat} (hc:c=i) (h:tZ a l k i=true):
  AV.agg [.agg [.rat (bif j==c then(aU l c).1 else(aU l j).1) (bif j==c then ah else ah),.rat (bif j==c then(aU l c).2 else(aU l j).2) (bif j==c then ah else ah)],nT (j==c) (.int .i64 ((iy a l k i c:Nat)+1)) (.int .i64 (iy a l k i j:Nat))]=uJ l (iy a l k (i+1)) j:=by
 subst hc
 by_cases hj:j=c
 ·subst hj
  rw[beq_self_eq_true]
  show AV.agg [de l j,.int .i64 ((iy a l k j j:Nat)+1)]=AV.agg [de l j,.int .i64 (iy a l k (j+1) j:Nat)]
  rw[Sf h];rfl
 ·rw[show(j==c)=false by simp[hj]]
  show AV.agg [de l j,.int .i64 (iy a l k c j:Nat)]=AV.agg [de l j,.int .i64 (iy a l k (c+1) j:Nat)]
  rw[Mg hj]
theorem TL {l:List (Rat×Rat)} {p:Rat×Rat} {z:AV} {i:Nat} (hi:i<l.length+1):keys (if i<l.length then de l i else nth [gM p.1 p.2 ah] z (i-l.length+0))=[]/\
  bG (if i<l.length then de l i else nth [gM p.1 p.2 ah] z (i-l.length+0)) (gM (lR (if i<l.length then de l i else nth [gM p.1 p.2 ah] z (i-l.length+0))).1 (lR (if i<l.length then de l i else nth [gM p.1 p.2 ah] z (i-l.length+0))).2 ah):=by
 rw[uR hi];exact⟨rfl,.refl _⟩
theorem zx {a:PP} {l:List (Rat×Rat)} {g:Nat->Nat} {k0 k1 M:Nat} {row:ay} {z:Nat->AV} (hM:l.length=M) (hrow:row=⟨true,true,6,M,row.f⟩) (hf:∀i,i<l.length->row.f i=de l i) (hne:k0≠k1):
  fU [] ([aX a,.own k1 7 0 0,.own k0 6 0 M,.int .i64 M,.int .i64 0],[(k0,row),(k1,⟨true,true,7,0,z⟩)]) (As a l.length 0) (AU l g 0) 2:=by
 subst hM
 have e1:look k1 [(k0,row),(k1,(⟨true,true,7,0,z⟩:ay))]=some ⟨true,true,7,0,z⟩:=by simp[look,hne]
 have e0:look k0 [(k0,row),(k1,(⟨true,true,7,0,z⟩:ay))]=some ⟨true,true,6,l.length,row.f⟩:=by rw[<-hrow];simp[look]
 exact⟨[(0,k0),(1,k1)],by simp[iQ,hne,Ne.symm hne],rfl,rfl,bH rfl e0 rfl (fun i hi=>bX (by rw[hf i hi];rfl) (hf i hi)) (bH rfl e1 rfl (fun i hi=>absurd hi (Nat.not_lt_zero _)) trivial)⟩
theorem U4 {d:Nat} {p:PP} (hz:u5 d p) (K:Nat):aQ P 18 K [aX p] [] (aM (Dp d p) []):=by
 have hW:=dI
 obtain⟨z1,z2⟩:=hz
 refine iI (r:=aM (Dp d p) []) hT Jg rfl bp rfl (fun _ cx h0=>?_) K []
 have hk:=nV h0
 refine au.HK hT zU hm (x:=Da) [1,1,1,1,1,1,1,1,1] ag ag Jg.dst hk (f1:=[20]) 60 F5 6 (fun _:Unit=>NV (aJ p)) (fun _=>Oc (bU (aJ p)) (bN (aJ p)) []) (fun _=>(aJ p).1≠0) ⟨_,Rk (d:=d),?_⟩ (fun _ hne=>?_)
 ·simp only[af.all,aA,beq_iff_eq,beq_eq_false_iff_ne,ne_eq]
  refine⟨⟨eG aS,z1⟩,fun h s' hv=>?_,fun h=>?_⟩
  ·have h:(aJ p).1=0:=aa
   have e1:bf d p=[]:=if_pos h
   refine uB.fin ⟨[.nil,.int .i64 3],rfl,?_⟩ hv
   show gI [.nil,.int .i64 3] [.aq 7 (bf d p).length (uJ (bf d p) (fG d p)),.int .i64 (if(aJ p).1=0 then 3 else 0)]
   rw[e1,if_pos h]
   exact⟨lS aa,.refl _,trivial⟩
  ·have h:(aJ p).1≠0:=aa
   obtain⟨y1,y2,y3,y4,y5,y6,y7,y8⟩:=z2 h
   refine⟨⟨eG aS,y1,aa⟩,aa,aa,⟨aa,aa,aa,aa,aa,aa⟩,(),h,[(0,49152),(1,65536),(3,57344),(4,86016),(5,90112)],rfl,rfl,rfl,?_⟩
   refine mu rfl rfl (.inr ⟨rfl,Tn aa⟩) (mu rfl rfl (.inl (.inr (F3 ⟨⟨rfl,jb rfl (.refl _)⟩,⟨rfl,g7 rfl⟩,⟨rfl,g7 rfl⟩,⟨rfl,jb rfl (.refl _)⟩,trivial⟩ rfl))) (uw rfl aa aa (dY (mu rfl rfl (.inr ⟨rfl,dD rfl (by rw[hW];decide)⟩) (mu rfl rfl (.inr ⟨rfl,dD rfl (by rw[hW];decide)⟩) trivial)))))
 ·obtain⟨y1,y2,y3,y4,y5,y6,y7,y8⟩:=z2 hne
  have hsm:0<bU (aJ p):=Nat.succ_pos _
  have hl:bf d p=gT d (bU (aJ p)) (bN (aJ p)):=if_neg hne
  obtain⟨l,hll⟩:∃l,l=bf d p:=⟨_,rfl⟩
  rw[<-hll]at y6 y8
  have hl2:l=(if dm (bN (aJ p) 0) 0=0 then [(0,0)]else [])++dh (bU (aJ p)) (bN (aJ p)) d 0 1++(if dm (bN (aJ p) 0) 1=0 then [(1,1)]else []):=by rw[hll,hl];rfl
  refine au.r8 hT zU hm (x:=vG) [1,1,1,1,0,1] (i:=0) (y:=part vG [1,1,1,1,0,1,0,0]) (z:=uk) ag ag ag ag hk (f1:=[29,41]) (f2:=[53]) 60 wV 2 (fun i:Nat=>As (aJ p) l.length i) (fun i=>AU l (fun _=>1) i) (fun i=>i<=l.length) (fun i=>i=l.length) (fun i=>l.length-i) (fun _=>False)
   ⟨_,Ts (d:=d),?_⟩ (fun i hi=>⟨_,VU (d:=d),?_⟩) (fun i hi=>?_) fun _ _ h=>h.elim
  ·have hC:(fun i=>dH (aX (bN (aJ p) i)))=bN (aJ p):=rfl
   have hC0:dH (aX (bN (aJ p) 0))=bN (aJ p) 0:=rfl
   have h00:([]:List (Rat×Rat)).length=0:=rfl
   have e0:jk (fun i=>if i<([]:List (Rat×Rat)).length then de [] i else nth [.agg [.rat 0 ah,.rat 0 ah]] (.agg [.rat 0 1,.rat 0 1]) (i-([]:List (Rat×Rat)).length+0)) (([]:List (Rat×Rat)).length+1)=[(0,0)]:=HL (l:=[]) (p:=(0,0))
   simp only[af.all,aA,hC,hC0,GL,e0,bK,bO]
   have hm:(dh (bU (aJ p)) (bN (aJ p)) d 0 1).length<=l.length:=by rw[hl2];simp only[List.length_append];omega
   refine⟨⟨aa,aa,aS,fun i _=>.refl _,hsm,y3⟩,fun r0=>⟨⟨aa,aa,aS,aa,aa,aa⟩,⟨aa,aa,aa,aS,aS,fun i _=>.refl _,.refl _,.refl _,.refl _,trivial,?_,hsm,y2,y5,?_⟩,⟨aa,aa,aS,fun i _=>.refl _,hsm,y4⟩,?_⟩,fun r0=>⟨⟨aa,aa,aa,aS,aS,fun i _=>.refl _,.refl _,.refl _,.refl _,trivial,fun i hi=>absurd hi (Nat.not_lt_zero _),hsm,y2,y5,?_⟩,⟨aa,aa,aS,fun i _=>.refl _,hsm,y4⟩,?_⟩⟩
   ·exact fun i hi=>TL (l:=[]) (p:=(0,0)) hi
   ·show 0+1+(dh (bU (aJ p)) (bN (aJ p)) d 0 1).length<2^30
    rw[hl2,if_pos r0]at y6;simp only[List.length_append,List.length_cons,List.length_nil]at y6;omega
   ·refine⟨fun r1=>?_,fun r1=>?_⟩
    ·rw[if_pos r0,if_pos r1]at hl2
     have hle:l.length=([(0,0)]++dh (bU (aJ p)) (bN (aJ p)) d 0 1).length+1:=by rw[hl2,List.length_append];rfl
     refine⟨⟨aa,aa,aS,aa,aa,aa⟩,⟨aa,aa,aa,aa,aa⟩,aa,0,Nat.zero_le _,zx hle rfl (fun i hi=>?_) (by decide)⟩
     rw[hle]at hi;rw[hl2];exact uR (p:=(1,1)) hi
    ·rw[if_pos r0,if_neg r1,List.append_nil]at hl2
     have hl3:([(0,0)]++dh (bU (aJ p)) (bN (aJ p)) d 0 1).length=l.length:=by rw[<-hl2]
     refine⟨⟨aa,aa,aa,aa,aa⟩,aa,0,Nat.zero_le _,zx hl3.symm rfl (fun i hi=>by rw[hl2]) (by decide)⟩
   ·show 0+(dh (bU (aJ p)) (bN (aJ p)) d 0 1).length<2^30
    omega
   ·refine⟨fun r1=>?_,fun r1=>?_⟩
    ·rw[if_neg r0,if_pos r1]at hl2
     have hle:l.length=([]++dh (bU (aJ p)) (bN (aJ p)) d 0 1).length+1:=by rw[hl2,List.length_append];rfl
     refine⟨⟨aa,aa,aS,aa,aa,aa⟩,⟨aa,aa,aa,aa,aa⟩,aa,0,Nat.zero_le _,zx hle rfl (fun i hi=>?_) (by decide)⟩
     rw[hle]at hi;rw[hl2];exact uR (p:=(1,1)) hi
    ·rw[if_neg r0,if_neg r1,List.append_nil]at hl2
     have hl3:([]++dh (bU (aJ p)) (bN (aJ p)) d 0 1).length=l.length:=by rw[<-hl2]
     refine⟨⟨aa,aa,aa,aa,aa⟩,aa,0,Nat.zero_le _,zx hl3.symm rfl (fun i hi=>by rw[hl2]) (by decide)⟩
  ·have hiA:((i:Int)).toNat+0=i:=aa
   simp only[af.all,aA,bK,bO]
   refine⟨fun h=>⟨⟨aa,aa,aa⟩,⟨aa,aa,aa⟩,aa,i+1,aa,by dsimp only;omega,[(0,0),(1,36866)],rfl,by rw[show(i:Int)+1=((i+1:Nat):Int) by omega];rfl,rfl,oe (bH rfl rfl rfl (fun x hx=>?_) trivial)⟩,
    fun h=>⟨rfl,i,aa,[(0,0),(1,1)],rfl,rfl,rfl,oe (bH rfl rfl rfl (fun x hx=>bX rfl rfl) trivial)⟩⟩
   rw[hiA]
   by_cases hx2:x<i
   ·rw[if_pos hx2];exact bX rfl rfl
   ·rw[if_neg hx2,Ld aa,show x=i by omega];exact bX rfl rfl
  ·subst hi
   have ta:Trim (aJ p):=k8
   obtain⟨J,hJ⟩:∃J,J=l7 (aJ p) (aJ p).1 0:=⟨_,rfl⟩
   have hl0:(eE (aJ p) 0).1<=(aJ p).1:=F4 ta 0
   obtain⟨j1,j2,_⟩:=L5 ta (aJ p).1 0 hl0
   rw[<-hJ]at j1 j2
   have hp41:(aJ p).1<=41:=Nat.le_trans fP z1.2.1
   have hd:∀{x:PP},x.1<=41->(bL x).1<2^30:=fun h=>Nat.lt_of_le_of_lt fP aa
   refine au.qV hT zU hm (x:=uk) [0,1] (i:=2) (y:=vJ) (z:=part uk [1]) ag ag ag ag [1,0] (j:=3) (x1:=yw) (zb:=part vJ [1,1]) ag ag ag [1,1] (i2:=4) (y2:=part yw [1,1,0,0]) ag ag rfl hk
    (f1:=[]) (f2:=[68]) (f3:=[]) (f4:=[78,86]) (f5:=[]) 60 qT xQ 1 1 (fun k:Nat=>zK (eE (aJ p) k) l.length) (fun k=>rZ l (hH (aJ p) l k) l.length) (fun k=>k<=J) (fun k=>k=J) (fun k=>J-k) (fun k=>k<J) (fun _=>False) (fun _=>False)
    (fun k (i:Nat)=>Df (eE (aJ p) k) (bU (eE (aJ p) k)) (bN (eE (aJ p) k)) l.length i) (fun k i=>rZ l (iy (aJ p) l k i) l.length) (fun _ i=>i<=l.length) (fun _ i=>i=l.length) (fun _ i=>l.length-i)
    ⟨_,Zs (d:=d),?_⟩ (fun k hk=>⟨_,Wx (d:=d),?_⟩) (fun k hk hG=>⟨_,Rm (d:=d),?_⟩) (fun k hk hG i hi=>⟨_,abT (d:=d),?_⟩) (fun k hk hG i hi=>⟨_,Tu (d:=d),?_⟩) (fun k hk=>?_) (fun _ _ h=>h.elim) (fun _ _ h=>h.elim)
   ·simp only[af.all,aA]
    refine⟨⟨eG aS,by show(aJ p).1<_;omega,y7.1,eG aS,eG aS,by show(aJ p).1<_;omega,hd hp41,ta,dR,y7.2⟩,0,Nat.zero_le _,[(0,1)],rfl,rfl,rfl,oe trivial⟩
   ·simp only[af.all,aA,bK,bO]
    refine⟨fun h=>⟨?_,[(0,0)],rfl,rfl,rfl,oe trivial⟩,fun h=>⟨rfl,k,?_,[(0,0)],rfl,rfl,rfl,oe trivial⟩⟩
    ·rcases Nat.lt_or_ge k J with h2|h2
     ·exact h2
     ·have:k=J:=aa
      subst this;omega
    ·rcases Nat.lt_or_ge k J with h2|h2
     ·have:=j2 k (Nat.zero_le _) h2
      omega
     ·omega
   ·obtain⟨x1,x2,x3,x4⟩:=y8 k (j2 k (Nat.zero_le _) hG)
    simp only[af.all,aA]
    exact⟨⟨eG aS,x2⟩,0,Nat.zero_le _,[(0,0)],rfl,rfl,rfl,oe trivial⟩
   ·obtain⟨x1,x2,x3,x4⟩:=y8 k (j2 k (Nat.zero_le _) hG)
    have hJ2:J<=(aJ p).1:=by rw[hJ];have:=Ga (a:=aJ p) (aJ p).1 0;omega
    have hsk:0<bU (eE (aJ p) k):=Nat.succ_pos _
    have hb:iy (aJ p) l k i i<=42:=by rw[Fe];have:=HX (a:=aJ p) (l:=l) (i:=i) k;omega
    simp only[af.all,aA,bK,bO,bE,Nat.add_zero]
    refine⟨fun h=>⟨⟨aa,aa,fun i _=>.refl _,.refl _,.refl _,hsk,x3,(x4 i aa).1,(x4 i aa).2⟩,fun h2=>⟨⟨aa,aa,aa,aa,aa⟩,aa,i+1,aa,by dsimp only;omega,[(0,0)],rfl,by rw[show(i:Int)+1=((i+1:Nat):Int) by omega];rfl,rfl,bH rfl rfl rfl (fun x hx=>?_) trivial⟩,
      fun h2=>⟨aa,i+1,aa,by dsimp only;omega,[(0,0)],rfl,by rw[show(i:Int)+1=((i+1:Nat):Int) by omega];rfl,rfl,bH rfl rfl rfl (fun x hx=>?_) trivial⟩⟩,
     fun h=>⟨rfl,i,aa,[(0,0)],rfl,rfl,rfl,oe trivial⟩⟩
    ·have h2:tZ (aJ p) l k i=true:=h2
     exact bX (by rw[Jk rfl h2];rfl) (Jk rfl h2)
    ·have h2:tZ (aJ p) l k i=false:=h2
     exact bX rfl (by show uJ l (iy (aJ p) l k i) x=_;rw[adf h2])
   ·obtain⟨x1,x2,x3,x4⟩:=y8 k (j2 k (Nat.zero_le _) hG)
    have hg41:(eE (aJ p) k).1<=41:=Nat.le_trans (F4 ta k) hp41
    simp only[af.all,aA]
    refine⟨⟨eG aS,by show(eE (aJ p) k).1<_;omega,x1.1,eG aS,eG aS,by show(eE (aJ p) k).1<_;omega,hd hg41,uY ta k,dR,x1.2⟩,k+1,hG,by dsimp only;omega,[(0,0)],rfl,rfl,rfl,bH rfl rfl rfl (fun x hx=>bX rfl ?_) trivial⟩
    show AV.agg [de l x,.int .i64 (iy (aJ p) l k i x:Nat)]=.agg [de l x,.int .i64 (hH (aJ p) l (k+1) x:Nat)]
    unfold iy
    rw[if_pos (show x<i by omega)]
   ·subst hk
    refine au.m7 ((aF.fin hT zU hm 60 (S8 (d:=d)) ag ?_).mono fun _ _ h=>.inl h)
    show gI [.aq 7 l.length _,.int .i64 0] [.aq 7 (bf d p).length (uJ (bf d p) (fG d p)),.int .i64 (if(aJ p).1=0 then 3 else 0)]
    refine⟨tA (by rw[hll]) fun i hi=>?_,bV (if_neg hne).symm,trivial⟩
    have ht:fG d p i=hH (aJ p) l k i:=by unfold fG;rw[<-hll,<-hJ]
    show _=AV.agg [de (bf d p) i,.int .i64 (fG d p i:Nat)]
    rw[ht,<-hll];rfl
def CL (d:Nat):Spec:=fu (kC (kL ah) kN) (fun a=>Dp d a.1) fun a=>[u5 d a.1]
theorem Hw (d:Nat):bA P (CL d) 18:=fF fun⟨a,_⟩ K hn=>U4 hn K
def e9 (k:Nat->Rat) (j:Nat):Nat->Int
 |0=>-1
 |l+1=>if k (j+l)=k (j+l+1)then e9 k j l else(j+l:Nat)
theorem Kf {k:Nat->Rat} {j:Nat}:∀{l:Nat},k j≠k (j+l)->∃P:Nat,e9 k j l=(P:Int)/\j<=P/\P<j+l/\k P≠k (P+1)
 |0,h=>absurd rfl h
 |l+1,h=>by
  unfold e9
  by_cases he:k (j+l)=k (j+l+1)
  ·rw[if_pos he]
   obtain⟨P,h1,h2,h3,h4⟩:=Kf (k:=k) (j:=j) (l:=l) (by rw[he];exact h)
   exact⟨P,h1,h2,by omega,h4⟩
  ·rw[if_neg he]
   exact⟨j+l,rfl,by omega,by omega,he⟩
theorem Kn.piece {n p:Nat} {k:Nat->Rat} (h:Kn n p k) {j:Nat} (hj:j+p+1<n):∃P:Nat,e9 k j (p+1)=(P:Int)/\j<=P/\P<=j+p/\k P<k (P+1)/\p<=P/\P+p+1<n:=by
 have hp:=h.p1
 have hne:k j≠k (j+(p+1)):=by
  have hlt:k j<k (j+(p+1)):=by
   by_cases h0:j=0
   ·subst h0
    have hl:=h.len
    have a1:=h.mult 1 (by omega) (by omega)
    rw[h.first 1 (by omega),show 1+p=0+(p+1) by omega]at a1
    exact a1
   ·have a1:=h.mult j (by omega) (by omega)
    have a2:=h.mono (show j+p<=j+(p+1) by omega) (by omega)
    grind
  grind
 obtain⟨P,h1,h2,h3,h4⟩:=Kf hne
 have hs:=h.sorted P (by omega)
 refine⟨P,h1,h2,by omega,by grind,?_,?_⟩
 ·rcases Nat.lt_or_ge P p with hh|hh
  ·exact absurd (by rw[h.first P (by omega),h.first (P+1) (by omega)]) h4
  ·exact hh
 ·rcases Nat.lt_or_ge (P+p+1) n with hh|hh
  ·exact hh
  ·exact absurd (by rw[h.last P (by omega) (by omega),h.last (P+1) (by omega) (by omega)]) h4
open Go
theorem JD {x:Int} {n:Nat} (h:x.natAbs<2^n) (hn:1<=n):Sz (x:Rat) n:=
 ⟨by rw[Rat.num_intCast];exact h,by rw[Rat.den_intCast];exact Nat.lt_of_lt_of_le (show 1<2^1 by decide) (Nat.pow_le_pow_right (by decide) hn)⟩
end Go.Am.B
namespace Go.Am
open Go
def bS (D:Int) (s:Nat) (x:Rat):Prop:=∃z:Int,(z:Rat)=x*(D:Rat)/\z.natAbs<=2^s
theorem pE {D:Int} (h:D≠0):(D:Rat)≠0:=fun h0=>by
 have h0:(D:Rat)=((0:Int):Rat):=h0
 exact h (Rat.intCast_inj.1 h0)
theorem bS.more {D:Int} {s t:Nat} {x:Rat} (h:bS D s x) (ht:s<=t):bS D t x:=h.imp fun z hz=>⟨hz.1,Nat.le_trans hz.2 (Nat.pow_le_pow_right (by decide) ht)⟩
theorem bS.sz {D:Int} {s e:Nat} {x:Rat} (hD:D≠0) (hd:D.natAbs<=2^e) (h:bS D s x):Sz x (s+e+2):=by
 obtain⟨z,hz,b⟩:=h
 have hx:x=(z:Rat)/(D:Rat):=by rw[hz,Rat.div_def,Rat.mul_assoc,Rat.mul_inv_cancel _ (pE hD),Rat.mul_one]
 rw[hx]
 have s1:Sz (z:Rat) (s+1):=B.JD (Nat.lt_of_le_of_lt b (Nat.pow_lt_pow_right (by decide) aa)) aa
 have s2:Sz (D:Rat) (e+1):=B.JD (Nat.lt_of_le_of_lt hd (Nat.pow_lt_pow_right (by decide) aa)) aa
 exact(s1.div s2).more aa
theorem bS.zero {D:Int} {s:Nat}:bS D s 0:=⟨0,by rw[Rat.zero_mul];rfl,Nat.zero_le _⟩
theorem bS.int {z:Int} {s:Nat} (h:z.natAbs<=2^s):bS 1 s (z:Rat):=⟨z,by rw[show((1:Int):Rat)=1 from rfl,Rat.mul_one],h⟩
theorem bS.mul {D E:Int} {s t:Nat} {x y:Rat} (h:bS D s x) (h':bS E t y):bS (D*E) (s+t) (x*y):=by
 obtain⟨z,hz,b⟩:=h
 obtain⟨w,hw,c⟩:=h'
 refine⟨z*w,by rw[Rat.intCast_mul,hz,hw,Rat.intCast_mul];grind,?_⟩
 rw[Int.natAbs_mul,Nat.pow_add];exact Nat.mul_le_mul b c
theorem bS.add {D:Int} {s:Nat} {x y:Rat} (h:bS D s x) (h':bS D s y):bS D (s+1) (x+y):=by
 obtain⟨z,hz,b⟩:=h
 obtain⟨w,hw,c⟩:=h'
 refine⟨z+w,by rw[Rat.intCast_add,hz,hw];grind,?_⟩
 have:=Int.natAbs_add_le z w
 rw[Nat.pow_succ];omega
theorem bS.up {D E:Int} {s e:Nat} {x:Rat} (h:bS D s x) (hE:E.natAbs<=2^e):bS (D*E) (s+e) x:=by
 obtain⟨z,hz,b⟩:=h
 refine⟨z*E,by rw[Rat.intCast_mul,hz,Rat.intCast_mul];grind,?_⟩
 rw[Int.natAbs_mul,Nat.pow_add];exact Nat.mul_le_mul b hE
theorem bS.vg {D:Int} {s e:Nat} {x:Rat} (h:bS D s x) {n:Int} (hn:n.natAbs<=2^e):bS D (e+s) ((n:Rat)*x):=by
 obtain⟨z,hz,b⟩:=h
 refine⟨n*z,by rw[Rat.intCast_mul,hz];grind,?_⟩
 rw[Int.natAbs_mul,Nat.pow_add];exact Nat.mul_le_mul hn b
theorem uA {w:Int} {t:Nat} (h:w.natAbs<=2^t) (j:Nat):(w^j).natAbs<=2^(j*t):=by
 rw[Int.natAbs_pow,Nat.mul_comm,Nat.pow_mul];exact Nat.pow_le_pow_left h j
theorem lz {v w:Int} {s t:Nat} (h:v.natAbs<=2^s) (h':w.natAbs<=2^t):(v*w).natAbs<=2^(s+t):=by
 rw[Int.natAbs_mul,Nat.pow_add];exact Nat.mul_le_mul h h'
def cR (n:Nat) (k:Nat->Rat) (s:Nat):Prop:=∃D:Int,D≠0/\D.natAbs<=2^s/\∀i,i<n->bS D s (k i)
def Bd (a:PP) (s:Nat):Prop:=cR a.1 a.2 s
theorem cR.sz {n s:Nat} {k:Nat->Rat} (h:cR n k s) {i:Nat} (hi:i<n):Sz (k i) (2*s+2):=by
 obtain⟨D,h1,h2,h3⟩:=h
 exact((h3 i hi).sz h1 h2).more aa
theorem cR.more {n s t:Nat} {k:Nat->Rat} (h:cR n k s) (ht:s<=t):cR n k t:=by
 obtain⟨D,h1,h2,h3⟩:=h
 exact⟨D,h1,Nat.le_trans h2 (Nat.pow_le_pow_right (by decide) ht),fun i hi=>(h3 i hi).more ht⟩
theorem cR.short {n m s:Nat} {k:Nat->Rat} (h:cR n k s) (hm:m<=n):cR m k s:=by
 obtain⟨D,h1,h2,h3⟩:=h
 exact⟨D,h1,h2,fun i hi=>h3 i aa⟩
theorem cR.congr {n s:Nat} {k l:Nat->Rat} (h:cR n k s) (e:∀i,i<n->k i=l i):cR n l s:=by
 obtain⟨D,h1,h2,h3⟩:=h
 exact⟨D,h1,h2,fun i hi=>by rw[<-e i hi];exact h3 i hi⟩
theorem Bd.yY {a b:PP} {s:Nat} (h:Bd a s) (e:iT a b):Bd b s:=by
 show cR b.1 b.2 s
 rw[<-e.1];exact cR.congr h e.2
theorem PB {n e s t:Nat} {d a:Nat->Rat} (ha:cR n a s) (hd:cR (e+1) d t) (h0:d e≠0):
  ∃D w:Int,D≠0/\w≠0/\D.natAbs<=2^s/\w.natAbs<=2^t/\(∀j,j<=n-e->∀i,i<n->bS (D*w^j) (s+j*(t+1)) (cD e d a (n-e) j i))/\∀k,k<n-e->bS (D*w^(n-e)) (s+(n-e)*(t+1)) (fA e d a (n-e) k):=by
 obtain⟨D,d1,d2,d3⟩:=ha
 obtain⟨E,e1,e2,e3⟩:=hd
 obtain⟨w,w1,w2⟩:=e3 e aa
 have hw:w≠0:=fun h=>by
  rw[h]at w1
  have w1:(0:Rat)=d e*(E:Rat):=w1
  exact(Rat.mul_eq_zero.1 w1.symm).elim h0 (pE e1)
 have key:∀j,j<=n-e->∀i,i<n->bS (D*w^j) (s+j*(t+1)) (cD e d a (n-e) j i):=by
  intro j
  induction j with
  |zero=>exact fun _ i hi=>by rw[Int.pow_zero,Int.mul_one,Nat.zero_mul];exact d3 i hi
  |succ j ih=>
   intro hj i hi
   have ih:=ih aa
   show bS _ _ (gR e d (n-e-1-j) (cD e d a (n-e) j) i)
   have hs:s+(j+1)*(t+1)=s+j*(t+1)+t+1:=by rw[Nat.add_mul];omega
   have hD:D*w^(j+1)=D*w^j*w:=by rw[Int.pow_succ,Int.mul_assoc]
   rw[hs,hD]
   unfold gR
   by_cases h:n-e-1-j<=i/\i<n-e-1-j+e+1
   ·rw[if_pos h]
    obtain⟨z,z1,z2⟩:=ih i hi
    obtain⟨y,y1,y2⟩:=ih (n-e-1-j+e) aa
    obtain⟨m,m1,m2⟩:=e3 (i-(n-e-1-j)) aa
    refine⟨z*w-y*m,?_,?_⟩
    ·rw[Rat.intCast_sub,Rat.intCast_mul,Rat.intCast_mul,Rat.intCast_mul,z1,m1]
     generalize ((D*w^j:Int):Rat)=Q at*
     rw[y1,w1,Rat.div_def]
     have:d e*(d e)⁻¹=1:=Rat.mul_inv_cancel _ h0
     generalize (d e)⁻¹=v at*
     generalize d (i-(n-e-1-j))=u
     generalize cD e d a (n-e) j i=x
     generalize cD e d a (n-e) j (n-e-1-j+e)=r
     generalize d e=g at*
     have h3:r*v*u*(Q*(g*(E:Rat)))=r*u*Q*(E:Rat)*(g*v):=by grind
     rw[Rat.sub_eq_add_neg,Rat.sub_eq_add_neg,Rat.add_mul,Rat.neg_mul,h3,this];grind
    ·have b1:=lz z2 w2
     have b2:=lz y2 m2
     have:=Int.natAbs_sub_le (z*w) (y*m)
     rw[Nat.pow_succ];omega
   ·rw[if_neg h]
    exact((ih i hi).up w2).more aa
 refine⟨D,w,d1,hw,d2,w2,key,fun k hk=>?_⟩
 -- the quotient
 obtain⟨z,z1,z2⟩:=key (n-e-1-k) aa (k+e) aa
 have h1:bS (D*w^(n-e-1-k)*w) (s+(n-e-1-k)*(t+1)+t) (fA e d a (n-e) k):=by
  refine⟨z*E,?_,lz z2 e2⟩
  unfold fA
  rw[Rat.intCast_mul,Rat.intCast_mul (D*w^(n-e-1-k)),z1,w1,Rat.div_def]
  have:d e*(d e)⁻¹=1:=Rat.mul_inv_cancel _ h0
  generalize (d e)⁻¹=v at*
  generalize cD e d a (n-e) (n-e-1-k) (k+e)=r
  generalize d e=g at*
  generalize ((D*w^(n-e-1-k):Int):Rat)=Q
  have h3:r*v*(Q*(g*(E:Rat)))=r*Q*(E:Rat)*(g*v):=by grind
  rw[h3,this,Rat.mul_one]
 have h2:=h1.up (uA w2 k)
 rw[show D*w^(n-e-1-k)*w*w^k=D*w^(n-e) by rw[Int.mul_assoc,Int.mul_assoc,<-Int.pow_succ',<-Int.pow_add,show n-e-1-k+(k+1)=n-e by omega]]at h2
 refine h2.more ?_
 have:(n-e)*(t+1)=(n-e-1-k)*(t+1)+(k+1)*(t+1):=by rw[<-Nat.add_mul,show n-e-1-k+(k+1)=n-e by omega]
 rw[this,Nat.add_mul k 1,Nat.mul_add k t 1];omega
theorem Bd.rem {a d:PP} {s t:Nat} (ha:Bd a s) (hd:Bd d t) (h0:0<d.1) (td:Trim d):Bd (fl a d) (s+(a.1-(d.1-1))*(t+1))/\Bd (gk a d) (s+(a.1-(d.1-1))*(t+1))/\(∀j,j<=a.1-(d.1-1)->∀i,i<a.1->Sz (cD (d.1-1) d.2 a.2 (a.1-(d.1-1)) j i) (2*(s+(a.1-(d.1-1))*(t+1))+2))/\∀k,k<a.1-(d.1-1)->Sz (fA (d.1-1) d.2 a.2 (a.1-(d.1-1)) k) (2*(s+(a.1-(d.1-1))*(t+1))+2):=by
 have hd':cR (d.1-1+1) d.2 t:=by rw[show d.1-1+1=d.1 by omega];exact hd
 obtain⟨D,w,d1,w1,d2,w2,h1,h2⟩:=PB ha hd' (td.resolve_left aa)
 obtain⟨R,hR⟩:∃R,R=a.1-(d.1-1):=⟨_,rfl⟩
 unfold fl gk
 rw[<-hR]at h1 h2 ⊢
 have hne:∀j,D*w^j≠0:=fun j=>Int.mul_ne_zero d1 (Int.pow_ne_zero w1)
 have hjR:∀{j},j<=R->j*(t+1)<=R*(t+1):=fun h=>Nat.mul_le_mul_right _ h
 have hab:∀j,j<=R->(D*w^j).natAbs<=2^(s+R*(t+1)):=fun j hj=>Nat.le_trans (lz d2 (uA w2 j)) (Nat.pow_le_pow_right (by decide) (by have:=hjR hj;have:=Nat.mul_le_mul_left j (show t<=t+1 by omega);omega))
 refine⟨⟨D*w^R,hne R,hab R aS,fun i hi=>h1 R aS i (Nat.lt_of_lt_of_le hi fP)⟩,⟨D*w^R,hne R,hab R aS,fun k hk=>h2 k (Nat.lt_of_lt_of_le hk fP)⟩,fun j hj i hi=>?_,fun k hk=>?_⟩
 ·exact((h1 j hj i hi).sz (hne j) (hab j hj)).more (by have:=hjR hj;omega)
 ·exact((h2 k hk).sz (hne R) (hab R aS)).more aa
theorem Bd.cV {a:PP} {s:Nat} (h:Bd a s) (ta:Trim a):Bd (ga a) s:=by
 obtain⟨D,h1,h2,h3⟩:=h
 rcases Nat.eq_zero_or_pos a.1 with h0|h0
 ·exact⟨1,by decide,Nat.one_le_two_pow,fun i hi=>absurd hi (by show¬i<a.1;omega)⟩
 have ht:a.2 (a.1-1)≠0:=ta.resolve_left aa
 obtain⟨w,w1,w2⟩:=h3 (a.1-1) aa
 have hw:w≠0:=fun h=>by
  rw[h]at w1
  have w1:(0:Rat)=a.2 (a.1-1)*(D:Rat):=w1
  exact(Rat.mul_eq_zero.1 w1.symm).elim ht (pE h1)
 refine⟨w,hw,w2,fun i hi=>?_⟩
 obtain⟨z,z1,z2⟩:=h3 i hi
 refine⟨z,?_,z2⟩
 show _=Go.Am.cV a.1 a.2 i*_
 unfold Go.Am.cV
 rw[z1,w1,Rat.div_def]
 have:a.2 (a.1-1)*(a.2 (a.1-1))⁻¹=1:=Rat.mul_inv_cancel _ ht
 generalize (a.2 (a.1-1))⁻¹=v at*
 generalize a.2 (a.1-1)=g at*
 have h4:a.2 i*v*(g*(D:Rat))=a.2 i*(D:Rat)*(g*v):=by grind
 rw[h4,this,Rat.mul_one]
theorem xV {n s:Nat} {k:Nat->Rat} (h:cR n k s) (hn:n<=41):cR (n-1) (dw k) (s+6):=by
 obtain⟨D,h1,h2,h3⟩:=h
 refine⟨D,h1,Nat.le_trans h2 (Nat.pow_le_pow_right (by decide) aa),fun i hi=>?_⟩
 unfold dw
 exact((h3 (i+1) aa).vg (e:=6) aa).more aa
theorem Bd.dw {a:PP} {s:Nat} (h:Bd a s) (ha:a.1<=41):Bd (bL a) (s+6):=(xV h ha).short fP
theorem Bd.neg {a:PP} {s:Nat} (h:Bd a s):Bd (a.1,fun i=>((-1:Int):Rat)*a.2 i) s:=by
 obtain⟨D,h1,h2,h3⟩:=h
 exact⟨D,h1,h2,fun i hi=>((h3 i hi).vg (e:=0) (n:=-1) (by decide)).more aa⟩
theorem EK {n s τ:Nat} {k:Nat->Rat} {D T:Int} {t:Rat} (h:∀i,i<n->bS D s (k i)) (ht:bS T τ t) (hT:T.natAbs<=2^τ):∀m,m<=n->bS (D*T^m) (s+m*(τ+1)) (fC n k t m)
 |0,_=>bS.zero
 |m+1,hm=>by
  have ih:=EK h ht hT m aa
  have e1:=ih.mul ht
  have e2:=(h (n-1-m) aa).up (uA hT (m+1))
  have hD:D*T^m*T=D*T^(m+1):=by rw[Int.pow_succ,Int.mul_assoc]
  rw[hD]at e1
  have hs:s+(m+1)*(τ+1)=s+m*(τ+1)+τ+1:=by rw[Nat.add_mul];omega
  rw[hs]
  refine(e1.more aS).add (e2.more ?_)
  rw[Nat.add_mul,Nat.one_mul]
  have:=Nat.mul_le_mul_left m (show τ<=τ+1 by omega)
  omega
theorem EA:∀δ:Nat,1<=δ->δ+2<=3^δ
 |1,_=>by decide
 |δ+2,_=>by
  have:=EA (δ+1) aa
  rw[Nat.pow_succ];omega
theorem Be (n:Nat):0<3^n:=Nat.pow_pos (by decide)
theorem xp {m n:Nat} (h:m<=n):3^m<=3^n:=Nat.pow_le_pow_right (by decide) h
theorem Bd.more {a:PP} {s t:Nat} (h:Bd a s) (ht:s<=t):Bd a t:=cR.more h ht
theorem Mb {B W M l l':Nat} (hB:B+1<=W*3^(M-l)) (hl:l'<l) (hM:l<=M):B+(l-(l'-1))*(B+1)+1<=W*3^(M-l')\/l'=0:=by
 rcases Nat.eq_zero_or_pos l' with h|h
 ·exact .inr h
 left
 have h1:l-(l'-1)=l-l'+1:=aa
 have h2:=EA (l-l') aa
 have h3:M-l'=M-l+(l-l'):=aa
 rw[h1,h3,Nat.pow_add,<-Nat.mul_assoc]
 have h4:(B+1)*(l-l'+2)<=W*3^(M-l)*3^(l-l'):=Nat.mul_le_mul hB h2
 have h5:(B+1)*(l-l'+2)=B+(l-l'+1)*(B+1)+1:=by
  rw[Nat.mul_comm,show l-l'+2=l-l'+1+1 by omega,Nat.add_mul (l-l'+1)];omega
 omega
theorem ZL {u M l l':Nat} (hl:l<=M) (hl':l'<=M) (h0:0<l'):u+(l-(l'-1))*(u+1)+1<=2*(u+1)*3^(M-l'):=by
 have h1:(l-(l'-1))<=l-l'+1:=aa
 have h2:l-l'+2<=2*3^(l-l'):=by
  rcases Nat.eq_zero_or_pos (l-l')with h|h
  ·rw[h];decide
  ·have:=EA (l-l') h
   have:=Be (l-l');omega
 have h3:3^(l-l')<=3^(M-l'):=xp aa
 have h4:(u+1)*(l-l'+2)<=(u+1)*(2*3^(M-l')):=Nat.mul_le_mul_left _ aa
 have h5:(u+1)*(l-l'+2)=u+(l-l'+1)*(u+1)+1:=by
  rw[Nat.mul_comm,show l-l'+2=l-l'+1+1 by omega,Nat.add_mul (l-l'+1)];omega
 have h6:(l-(l'-1))*(u+1)<=(l-l'+1)*(u+1):=Nat.mul_le_mul_right _ h1
 have h7:(u+1)*(2*3^(M-l'))=2*(u+1)*3^(M-l'):=by rw[<-Nat.mul_assoc,Nat.mul_comm (u+1) 2]
 omega
theorem FA {a b:PP} {u M:Nat} (ta:Trim a) (tb:Trim b) (la:a.1<=M) (lb:b.1<=M) (ha:Bd a u) (hb:Bd b u):∀j,∃B,B+1<=2*(u+1)*3^(M-(bZ (a,b) j).1.1)/\Bd (bZ (a,b) j).1 B/\Bd (bZ (a,b) j).2 B/\(bZ (a,b) j).1.1<=M/\(bZ (a,b) j).2.1<=M/\((bZ (a,b) j).2.1<(bZ (a,b) j).1.1\/j=0/\B=u\/(bZ (a,b) j).2.1=0)
 |0=>by
  have:=Be (M-a.1)
  refine⟨u,?_,ha,hb,la,lb,.inr (.inl ⟨rfl,rfl⟩)⟩
  show u+1<=2*(u+1)*3^(M-a.1)
  have:=Nat.mul_le_mul_left (2*(u+1)) this
  omega
 |j+1=>by
  obtain⟨B,h1,h2,h3,h4,h5,h6⟩:=FA ta tb la lb ha hb j
  have ht:=mY (s:=(a,b)) ta tb j
  show∃B,B+1<=2*(u+1)*3^(M-(gb (bZ (a,b) j)).1.1)/\Bd (gb (bZ (a,b) j)).1 B/\Bd (gb (bZ (a,b) j)).2 B/\(gb (bZ (a,b) j)).1.1<=M/\(gb (bZ (a,b) j)).2.1<=M/\((gb (bZ (a,b) j)).2.1<(gb (bZ (a,b) j)).1.1\/j+1=0/\B=u\/(gb (bZ (a,b) j)).2.1=0)
  generalize bZ (a,b) j=s at*
  unfold gb
  by_cases h0:s.2.1=0
  ·rw[if_pos h0];exact⟨B,h1,h2,h3,h4,h5,.inr (.inr h0)⟩
  ·rw[if_neg h0]
   have hr:=nH (a:=s.1) (d:=s.2) aa ht.2
   have hb:=(Bd.rem h2 h3 aa ht.2).1.cV qZ
   refine⟨B+(s.1.1-(s.2.1-1))*(B+1),?_,h3.more (Nat.le_add_right _ _),hb,h5,?_,.inl hr⟩
   ·rcases h6 with h6|⟨_,rfl⟩|h6
    ·exact(Mb h1 h6 h4).resolve_right h0
    ·exact ZL h4 h5 aa
    ·exact absurd h6 h0
   ·show(fl s.1 s.2).1<=M;omega
theorem Hu {a b:PP} {u M:Nat} (ta:Trim a) (tb:Trim b) (la:a.1<=M) (lb:b.1<=M) (ha:Bd a u) (hb:Bd b u):∃B,B+1<=2*(u+1)*3^(M-(bW a b).1)/\Bd (bW a b) B:=by
 obtain⟨B,h1,h2,_⟩:=FA ta tb la lb ha hb b.1
 exact⟨B,h1,h2.cV (mY (s:=(a,b)) ta tb _).1⟩
theorem E9 {a b:PP} {u M:Nat} (ta:Trim a) (tb:Trim b) (la:a.1<=M) (lb:b.1<a.1) (ha:Bd a u) (hb:Bd b u):∀j,j<=gD (a,b)->∃B,B+1<=2*(u+1)*3^(M-(cm (a,b) j).1.1)/\Bd (cm (a,b) j).1 B/\Bd (cm (a,b) j).2 B/\(cm (a,b) j).1.1<=M/\(cm (a,b) j).2.1<(cm (a,b) j).1.1
 |0,_=>by
  have:=Be (M-a.1)
  refine⟨u,?_,ha,hb,la,lb⟩
  show u+1<=2*(u+1)*3^(M-a.1)
  have:=Nat.mul_le_mul_left (2*(u+1)) this
  omega
 |j+1,hj=>by
  obtain⟨B,h1,h2,h3,h4,h5⟩:=E9 ta tb la lb ha hb j aa
  have ht:=oW (s:=(a,b)) ta tb j
  have h0:=(nE (s:=(a,b)) ta tb).2.2 j aa
  show∃B,B+1<=2*(u+1)*3^(M-(rz (cm (a,b) j)).1.1)/\Bd (rz (cm (a,b) j)).1 B/\Bd (rz (cm (a,b) j)).2 B/\(rz (cm (a,b) j)).1.1<=M/\(rz (cm (a,b) j)).2.1<(rz (cm (a,b) j)).1.1
  generalize cm (a,b) j=s at*
  have hr:=nH (a:=s.1) (d:=s.2) aa ht.2
  refine⟨B+(s.1.1-(s.2.1-1))*(B+1),(Mb h1 h5 h4).resolve_right h0,h3.more (Nat.le_add_right _ _),(Bd.rem h2 h3 aa ht.2).1.neg,?_,hr⟩
  show s.2.1<=M;omega
theorem adD {a d:PP} {B M:Nat} (ha:Bd a B) (hd:Bd d B) (h0:0<d.1) (td:Trim d) (hM:a.1-(d.1-1)<=M):
  (∀j,j<=a.1-(d.1-1)->∀i,i<a.1->Sz (cD (d.1-1) d.2 a.2 (a.1-(d.1-1)) j i) (2*((M+1)*(B+1))+2))/\∀k,k<a.1-(d.1-1)->Sz (fA (d.1-1) d.2 a.2 (a.1-(d.1-1)) k) (2*((M+1)*(B+1))+2):=by
 obtain⟨_,_,h1,h2⟩:=ha.rem hd h0 td
 have:B+(a.1-(d.1-1))*(B+1)<=(M+1)*(B+1):=by
  have:=Nat.mul_le_mul_right (B+1) hM
  rw[Nat.add_mul];omega
 exact⟨fun j hj i hi=>(h1 j hj i hi).more aa,fun k hk=>(h2 k hk).more aa⟩
theorem bS.sum {D:Int} {s b:Nat} {f:Nat->Rat} {n:Nat} (hn:n<=2^b) (h:∀i,i<n->bS D s (f i)):bS D (s+b) (sg f n):=by
 have key:∀m,m<=n->∃z:Int,(z:Rat)=sg f m*(D:Rat)/\z.natAbs<=m*2^s:=by
  intro m
  induction m with
  |zero=>exact fun _=>⟨0,by show _=0*_;rw[Rat.zero_mul];rfl,Nat.zero_le _⟩
  |succ m ih=>
   intro hm
   obtain⟨z,z1,z2⟩:=ih aa
   obtain⟨w,w1,w2⟩:=h m aa
   refine⟨z+w,?_,?_⟩
   ·show _=(sg f m+f m)*_
    rw[Rat.intCast_add,z1,w1];grind
   ·have:=Int.natAbs_add_le z w
    rw[Nat.add_mul,Nat.one_mul];omega
 obtain⟨z,z1,z2⟩:=key n aS
 refine⟨z,z1,Nat.le_trans z2 ?_⟩
 rw[Nat.pow_add,Nat.mul_comm]
 exact Nat.mul_le_mul_left _ hn
theorem bS.ite {D:Int} {s:Nat} {x:Rat} {p:Prop} [Decidable p] (h:bS D s x):bS D s (if p then x else 0):=by
 split
 ·exact h
 ·exact .zero
theorem ND {m n s t:Nat} {D E:Int} {U V:Nat->Rat} (hm:m+1<=64) (hn:n+1<=64) (hU:∀i,bS D s (U i)) (hV:∀j,bS E t (V j)) {i j k:Nat} (hi:i<=m+1) (hj:j<=n+1):
  bS (D*E) (s+t+13) (sg (fun i=>sg (fun j=>if i+j=k then U i*V j else 0) (n+1)) i+sg (fun j=>if i+j=k then U i*V j else 0) j):=by
 have h1:∀i,∀j,j<=n+1->bS (D*E) (s+t+6) (sg (fun j=>if i+j=k then U i*V j else 0) j):=fun i j hj=>bS.sum aa fun j _=>((hU i).mul (hV j)).ite
 have h2:bS (D*E) (s+t+6+6) (sg (fun i=>sg (fun j=>if i+j=k then U i*V j else 0) (n+1)) i):=bS.sum aa fun i _=>h1 i _ aS
 exact h2.add ((h1 i j hj).more aa)
theorem GB {m n s t:Nat} {D E:Int} {U V:Nat->Rat} (hm:m+1<=64) (hn:n+1<=64) (hU:∀i,bS D s (U i)) (hV:∀j,bS E t (V j)) (k:Nat):bS (D*E) (s+t+13) (jQ m n U V k):=by
 have:=ND hm hn hU hV (k:=k) (Nat.le_refl (m+1)) (Nat.zero_le (n+1))
 unfold jQ
 rw[show sg (fun j=>if m+1+j=k then U (m+1)*V j else 0) 0=0 from rfl,Rat.add_zero]at this
 exact this
def jn (N:Nat):Nat->Nat
 |0=>1
 |k+1=>jn N k*(if k<=N then bn N k else 1)
theorem AO {N:Nat}:∀k,0<jn N k
 |0=>Nat.one_pos
 |k+1=>by
  unfold jn
  refine Nat.mul_pos (AO k) ?_
  split
  ·rename_i h;exact zn h
  ·exact Nat.one_pos
theorem xF {N:Nat}:∀k,jn N k<=2^(k*N)
 |0=>by rw[Nat.zero_mul];exact Nat.le_refl _
 |k+1=>by
  unfold jn
  rw[Nat.add_mul,Nat.one_mul,Nat.pow_add]
  refine Nat.mul_le_mul (xF k) ?_
  split
  ·exact qO N k
  ·exact Nat.one_le_two_pow
theorem Ig {N i:Nat} (hi:i<=N):∀k,i<k->∃w,jn N k=bn N i*w/\w<=jn N k
 |0,h=>absurd h (Nat.not_lt_zero _)
 |k+1,h=>by
  rcases Nat.eq_or_lt_of_le (Nat.le_of_lt_succ h)with h1|h1
  ·subst h1
   refine⟨jn N i,?_,?_⟩
   ·show jn N i*(if i<=N then bn N i else 1)=_
    rw[if_pos hi,Nat.mul_comm]
   ·show _<=jn N i*(if i<=N then bn N i else 1)
    rw[if_pos hi]
    exact Nat.le_mul_of_pos_right _ (zn hi)
  ·obtain⟨w,w1,w2⟩:=Ig hi k h1
   refine⟨w*(if k<=N then bn N k else 1),?_,?_⟩
   ·show jn N k*_=_
    rw[w1,Nat.mul_assoc]
   ·show _<=jn N k*_
    exact Nat.mul_le_mul_right _ w2
theorem bS.KK {D:Int} {s N i:Nat} {x:Rat} (h:bS D s x) (hi:i<=N):bS (D*(jn N (N+1):Nat)) (s+(N+1)*N) (x/bq N i):=by
 obtain⟨z,z1,z2⟩:=h
 obtain⟨w,w1,w2⟩:=Ig hi (N+1) aa
 refine⟨z*(w:Int),?_,?_⟩
 ·have hb:=z8 hi
  rw[w1,Rat.intCast_mul,z1,Rat.intCast_mul,Int.natCast_mul,Rat.intCast_mul,Rat.div_def]
  have:bq N i*(bq N i)⁻¹=1:=Rat.mul_inv_cancel _ hb
  show x*(D:Rat)*((w:Int):Rat)=x*(bq N i)⁻¹*((D:Rat)*(bq N i*((w:Int):Rat)))
  generalize (bq N i)⁻¹=v at*
  generalize bq N i=g at*
  generalize ((w:Int):Rat)=y
  have h4:x*v*((D:Rat)*(g*y))=x*(D:Rat)*y*(g*v):=by grind
  rw[h4,this,Rat.mul_one]
 ·rw[Int.natAbs_mul,Nat.pow_add,Int.natAbs_natCast]
  exact Nat.mul_le_mul z2 (Nat.le_trans w2 (xF _))
theorem yU {D:Int} {m s:Nat} {p:Nat->Rat} (h:∀i,i<m+1->bS D s (p i)) (i:Nat):bS D (s+m) (bq m i*p i):=by
 by_cases hi:i<m+1
 ·have:=(h i hi).vg (e:=m) (n:=(bn m i:Nat)) (by rw[Int.natAbs_natCast];exact qO m i)
  exact this.more aa
 ·rw[xj aa,Rat.zero_mul];exact .zero
theorem KS {m n s t:Nat} {p q:Nat->Rat} (hm:m+n<=40) (hp:cR (m+1) p s) (hq:cR (n+1) q t):cR (m+n+1) (j4 m n p q) (s+t+(m+n)+13+(m+n+1)*(m+n)):=by
 obtain⟨D,d1,d2,d3⟩:=hp
 obtain⟨E,e1,e2,e3⟩:=hq
 refine⟨D*E*(jn (m+n) (m+n+1):Nat),?_,?_,fun k hk=>?_⟩
 ·have:=AO (N:=m+n) (m+n+1)
  exact Int.mul_ne_zero (Int.mul_ne_zero d1 e1) aa
 ·have h1:=lz (lz d2 e2) (show((jn (m+n) (m+n+1):Nat):Int).natAbs<=2^((m+n+1)*(m+n)) by rw[Int.natAbs_natCast];exact xF _)
  exact Nat.le_trans h1 (Nat.pow_le_pow_right (by decide) aa)
 ·unfold j4
  exact((GB aa aa (yU d3) (yU e3) k).KK aa).more aa
theorem Zb {m n s t:Nat} {p q:Nat->Rat} (hm:m+n<=40) (hp:cR (m+1) p s) (hq:cR (n+1) q t) {i j k:Nat} (hi:i<=m+1) (hj:j<=n+1):
  Sz (sg (fun i=>sg (fun j=>if i+j=k then bq m i*p i*(bq n j*q j)else 0) (n+1)) i+sg (fun j=>if i+j=k then bq m i*p i*(bq n j*q j)else 0) j) (2*(s+t+(m+n)+13)+2):=by
 obtain⟨D,d1,d2,d3⟩:=hp
 obtain⟨E,e1,e2,e3⟩:=hq
 have:=ND (k:=k) aa aa (yU d3) (yU e3) hi hj
 exact(this.sz (Int.mul_ne_zero d1 e1) (Nat.le_trans (lz d2 e2) aS)).more aa
theorem Ax {D:Int} {s n:Nat} {p:Nat->Rat} (h:∀i,i<n->bS D s (p i)):∀k i,k+i<n->bS D (s+k) (ek p k i)
 |0,i,hi=>h i aa
 |k+1,i,hi=>by
  obtain⟨z,z1,z2⟩:=Ax h k (i+1) aa
  obtain⟨w,w1,w2⟩:=Ax h k i aa
  refine⟨z-w,?_,?_⟩
  ·show _=(ek p k (i+1)-ek p k i)*_
   rw[Rat.intCast_sub,z1,w1];grind
  ·have:=Int.natAbs_sub_le z w
   rw[show s+(k+1)=s+k+1 by omega,Nat.pow_succ];omega
theorem DL {n s:Nat} {p:Nat->Rat} (h:cR n p s):cR n (gA n p) (s+2*n):=by
 obtain⟨D,d1,d2,d3⟩:=h
 refine⟨D,d1,Nat.le_trans d2 (Nat.pow_le_pow_right (by decide) aa),fun k hk=>?_⟩
 unfold gA
 have:=(Ax d3 k 0 aa).vg (e:=n-1) (n:=(bn (n-1) k:Nat)) (by rw[Int.natAbs_natCast];exact qO _ k)
 exact this.more aa
theorem Bd.cf {a:PP} {s:Nat} (h:Bd a s):∃D:Int,D≠0/\D.natAbs<=2^s/\∀i,bS D s (ef a i):=by
 obtain⟨D,d1,d2,d3⟩:=h
 refine⟨D,d1,d2,fun i=>?_⟩
 unfold ef
 split
 ·rename_i hi;exact d3 i hi
 ·exact .zero
theorem tQ {a b:PP} {s t:Nat} (ha:Bd a s) (hb:Bd b t) (la:a.1<=60) (lb:b.1<=60):Bd (cj a b) (s+t+13):=by
 obtain⟨D,d1,d2,d3⟩:=ha.cf
 obtain⟨E,e1,e2,e3⟩:=hb.cf
 exact⟨D*E,Int.mul_ne_zero d1 e1,Nat.le_trans (lz d2 e2) (Nat.pow_le_pow_right (by decide) aa),fun k _=>GB aa aa d3 e3 k⟩
theorem zS {a b:PP}:(b9 (cj a b)).1=0\/(b9 (cj a b)).1+1<=(b9 a).1+(b9 b).1:=by
 rcases Nat.eq_zero_or_pos (b9 (cj a b)).1 with h|h
 ·exact .inl h
 ·right
  have:=oI (c:=b9 (cj a b)) (a:=b9 a) (b:=b9 b) (fun t=>by rw[eL,eL,eL,cF]) h fN fN fN
  omega
theorem kT {a:PP}:(b9 a).1<=a.1:=fP
theorem jo.of_eq {c d h f:PP} (s:jo c h f) (e:∀t,aC c t=aC d t):jo d h f:=
 ⟨fun t=>by rw[<-e,s.eq],s.dv.of_eq fun t=>by rw[jx,jx,GX e]⟩
def pT (p q:PP):PP:=(p.1-1+(q.1-1)+1,j4 (p.1-1) (q.1-1) p.2 q.2)
def gL (p q:PP):Nat->PP
 |0=>p
 |j+1=>pT (gL p q j) q
def gB (q:PP):PP:=(q.1,gA q.1 q.2)
def er (p:PP) (t:Rat):Rat:=cs (p.1-1) p.2 t
theorem kV {q:PP} (h:1<=q.1) (t:Rat):aC (gB q) t=er q t:=by
 obtain⟨n,k⟩:=q
 obtain⟨m,rfl⟩:∃m,n=m+1:=⟨n-1,by have h:1<=n:=h;omega⟩
 exact Ea
theorem s8 {p q:PP} (t:Rat):er (pT p q) t=er p t*er q t:=by
 unfold er pT
 rw[Nat.add_sub_cancel]
 exact aaS
structure qf (q:PP):Prop where
 lo:1<=q.1
 hi:q.1<=3
 bd:Bd q 7
theorem qf.pw {q:PP} (h:qf q):Bd (gB q) 13:=by
 have h1:cR q.1 (gA q.1 q.2) (7+2*q.1):=DL h.bd
 exact h1.more (by have:=h.hi;omega)
structure oV (i:Nat) (p:PP):Prop where
 lo:1<=p.1
 hi:p.1<=4*i+1
 bd:Bd p (400*i)
 pw:∃c h f:PP,(∀t,aC c t=er p t)/\Bd c (52*i)/\c.1<=8*i+1/\jo c h f/\(b9 f).1<=2*i+1
theorem oV.one:oV 0 (1,fun _=>1) where
 lo:=aS
 hi:=aS
 bd:=⟨1,by decide,aS,fun i _=>⟨1,(Rat.one_mul _).symm,aS⟩⟩
 pw:=⟨gJ,gJ,gJ,fun t=>by rw[jf];rfl,⟨1,by decide,aS,fun i _=>⟨1,(Rat.one_mul _).symm,aS⟩⟩,aS,jo.one,kT⟩
theorem xZ {p q:PP} (hp:1<=p.1) (hq:qf q):∀j,1<=(gL p q j).1/\(gL p q j).1<=p.1+2*j
 |0=>⟨hp,aS⟩
 |j+1=>by
  have:=xZ hp hq j
  have h2:=hq.hi
  show 1<=(gL p q j).1-1+(q.1-1)+1/\(gL p q j).1-1+(q.1-1)+1<=_
  omega
theorem Dq {p q:PP} {s:Nat} (hp:1<=p.1) (hq:qf q) (hb:Bd p s):∀j,p.1+2*j<=13->Bd (gL p q j) (s+200*j)
 |0,_=>hb
 |j+1,h=>by
  have ih:=Dq hp hq hb j aa
  have hl:=xZ hp hq j
  have h1:=hq.lo
  have h2:=hq.hi
  have hb2:cR ((gL p q j).1-1+1) (gL p q j).2 (s+200*j):=by rw[show(gL p q j).1-1+1=(gL p q j).1 by omega];exact ih
  have hb3:cR (q.1-1+1) q.2 7:=by rw[show q.1-1+1=q.1 by omega];exact hq.bd
  have:=KS aa hb2 hb3
  refine cR.more this ?_
  have h5:(gL p q j).1-1+(q.1-1)<=12:=aa
  have h6:((gL p q j).1-1+(q.1-1)+1)*((gL p q j).1-1+(q.1-1))<=13*12:=Nat.mul_le_mul aa h5
  omega
theorem oV.step {i r:Nat} {p q:PP} (h:oV i p) (hq:qf q) (hi:i<=2) (hr:1<=r/\r<=2):oV (i+1) (gL p q r):=by
 have hl:=xZ h.lo hq r
 have h1:=h.hi
 obtain⟨c,hh,f,c1,c2,c3,c4,c5⟩:=h.pw
 have hq1:=hq.lo
 have hq2:=hq.hi
 have hcq:(gB q).1=q.1:=rfl
 have hcu:(b9 (gB q)).1<=3:=Nat.le_trans kT hq2
 have hf:(b9 (cj f (gB q))).1<=2*(i+1)+1:=by
  rcases zS (a:=f) (b:=gB q)with h0|h0<;>omega
 have e1:∀t,aC (cj c (gB q)) t=aC c t*aC (gB q) t:=fun t=>cF
 have l1:(cj c (gB q)).1=c.1+q.1+1:=rfl
 have b1:=tQ c2 hq.pw aa aa
 refine⟨hl.1,aa,(Dq h.lo hq h.bd r aa).more aa,?_⟩
 rcases(show r=1\/r=2 by omega)with rfl|rfl
 ·refine⟨cj c (gB q),hh,cj f (gB q),fun t=>?_,b1.more aa,aa,c4.Fl e1,hf⟩
  show _=er (pT p q) t
  rw[s8,e1,c1,kV hq1]
 ·have b2:=tQ b1 hq.pw aa aa
  have l2:(cj (cj c (gB q)) (gB q)).1=(cj c (gB q)).1+q.1+1:=rfl
  refine⟨cj (cj c (gB q)) (gB q),cj hh (gB q),cj f (gB q),fun t=>?_,b2.more aa,aa,c4.NU fun t=>by rw[cF,e1],hf⟩
  show _=er (pT (pT p q) q) t
  rw[s8,s8,cF,e1,c1,kV hq1]
structure jJ (c:PP):Prop where
 tr:Trim c
 len:c.1<=13
 bd:Bd c 156
 sq:∃h f:PP,jo c h f/\(b9 f).1<=7
theorem oV.gd {i:Nat} {p:PP} (h:oV i p) (hi:i<=3):jJ (bY (gA p.1 p.2) p.1,gA p.1 p.2):=by
 obtain⟨c,hh,f,c1,c2,c3,c4,c5⟩:=h.pw
 have h1:=h.hi
 have e:∀t,aC (b9 c) t=aC (bY (gA p.1 p.2) p.1,gA p.1 p.2) t:=fun t=>by
  rw[eL,c1,<-kV h.lo]
  exact qY.symm
 have hb:Bd (b9 c) (52*i):=cR.short c2 kT
 refine⟨k8,?_,(hb.yY (Az fN k8 e)).more aa,hh,f,c4.of_eq fun t=>by rw[<-e,eL],aa⟩
 have:bY (gA p.1 p.2) p.1<=p.1:=fP
 show bY _ _<=13
 omega
theorem EP {n s:Nat} {c:Nat->Rat} {D:Int} (h:∀i,i<n->bS D s (c i)) {i:Nat} (hi:i<n):∀k,k<=n->bS (D*(jn (n-1) (n-1+1):Nat)) (s+(n-1+1)*(n-1)+n+k) (jK n c i k)
 |0,_=>.zero
 |k+1,hk=>by
  have ih:=EP h hi k aa
  have h1:=((h k aa).KK (N:=n-1) (i:=k) aa).vg (e:=n) (n:=(bn i k:Nat)) (by rw[Int.natAbs_natCast];exact Nat.le_trans (qO i k) (Nat.pow_le_pow_right (by decide) aa))
  have h2:=ih.add (h1.more (t:=s+(n-1+1)*(n-1)+n+k) aa)
  have e:jK n c i (k+1)=jK n c i k+((bn i k:Nat):Int)*(c k/bq (n-1) k):=by
   show jK n c i k+((bn i k:Int):Rat)/bq (n-1) k*c k=_
   rw[Rat.div_def,Rat.div_def];grind
  rw[e];exact h2
theorem Co {n s:Nat} {c:Nat->Rat} (hb:cR n c s) {i k:Nat} (hi:i<n) (hk:k<=n):Sz (jK n c i k) (2*(s+n*n+2*n)+2):=by
 obtain⟨D,d1,d2,d3⟩:=hb
 have h1:=EP d3 hi k hk
 have h2:=AO (N:=n-1) (n-1+1)
 have h3:(n-1+1)*(n-1)<=n*n:=Nat.mul_le_mul aa aa
 have h4:=lz d2 (show((jn (n-1) (n-1+1):Nat):Int).natAbs<=2^((n-1+1)*(n-1)) by rw[Int.natAbs_natCast];exact xF _)
 exact(h1.sz (Int.mul_ne_zero d1 aa) h4).more aa
end Go.Am
namespace Go.Am.B
open Go Go.Am.N AV af ak IntKind Proofs.Tryz
theorem kP {n s:Nat} {k:Nat->Rat} (h:cR n k s) (hs:2*s+2<=ah):dj n k:=fun i hi=>(h.sz hi).more hs
theorem wR {a d:PP} {B M:Nat} (ha:Bd a B) (hd:Bd d B) (h0:0<d.1) (td:Trim d) (hM:a.1-(d.1-1)<=M) (hB:2*((M+1)*(B+1))+2<=ah):rj a d:=by
 obtain⟨h1,h2⟩:=adD ha hd h0 td hM
 exact⟨fun j hj i hi=>(h1 j hj i hi).more hB,fun k hk=>(h2 k hk).more hB⟩
theorem BO {a d:PP} {B M:Nat} (ha:Bd a B) (hd:Bd d B) (h0:0<d.1) (td:Trim d) (hM:a.1-(d.1-1)<=M):Bd (fl a d) ((M+1)*(B+1))/\Bd (gk a d) ((M+1)*(B+1)):=by
 obtain⟨h1,h2,_⟩:=ha.rem hd h0 td
 have:B+(a.1-(d.1-1))*(B+1)<=(M+1)*(B+1):=by
  have:=Nat.mul_le_mul_right (B+1) hM
  rw[Nat.add_mul];omega
 exact⟨h1.more this,h2.more this⟩
theorem Bc {a b:PP} {u M:Nat} (ta:Trim a) (tb:Trim b) (la:a.1<=M) (lb:b.1<=M) (h1M:1<=M) (ha:Bd a u) (hb:Bd b u) (hX:2*((M+1)*(2*(u+1)*3^(M-1)))+2<=ah):oJ (a,b):=by
 have hle:∀{B l:Nat},B+1<=2*(u+1)*3^(M-l)->1<=l->B+1<=2*(u+1)*3^(M-1):=fun h1 h2=>Nat.le_trans h1 (Nat.mul_le_mul_left _ (xp aa))
 have hX2:∀{B:Nat},B+1<=2*(u+1)*3^(M-1)->2*((M+1)*(B+1))+2<=ah:=fun h=>by
  have:=Nat.mul_le_mul_left (M+1) h
  omega
 refine⟨fun j hj=>?_,fun i hi=>?_⟩
 ·obtain⟨B,b1,b2,b3,b4,b5,b6⟩:=FA ta tb la lb ha hb j
  have ht:=mY (s:=(a,b)) ta tb j
  have hB:B+1<=2*(u+1)*3^(M-1):=by
   rcases b6 with h|⟨_,rfl⟩|h
   ·exact hle b1 aa
   ·have h3:=Be (M-1)
    have:=Nat.mul_le_mul_left (2*(B+1)) h3
    omega
   ·exact absurd h hj
  refine⟨wR b2 b3 aa ht.2 aa (hX2 hB),?_⟩
  have hm:=(BO b2 b3 aa ht.2 (show _<=M by omega)).1.cV qZ
  exact kP hm (hX2 hB)
 ·obtain⟨B,b1,b2⟩:=Hu ta tb la lb ha hb
  have hi:i<(bW a b).1:=hi
  have hB:=hle b1 aa
  have:=hX2 hB
  have h1:B+1<=(M+1)*(B+1):=Nat.le_mul_of_pos_left _ aa
  exact(cR.sz b2 hi).more aa
theorem zW {c:PP} (h:jJ c):Bd (bL c) 162:=Bd.more (h.bd.dw (by have:=h.len;omega)) aa
theorem DG {c:PP}:(bL c).1<=c.1-1:=fP
theorem CY {c:PP} (h:jJ c) (h0:0<c.1):Bd (bW c (bL c)) 237653/\c.1-(bW c (bL c)).1<=6/\0<(bW c (bL c)).1/\(bW c (bL c)).1<=c.1:=by
 obtain⟨hh,f,s1,s2⟩:=h.sq
 have hl:=h.len
 obtain⟨l1,l2,l3⟩:=oI (a:=b9 hh) (b:=b9 f) (fun t=>by rw[s1.eq,eL,eL]) h0 h.tr fN fN
 have hd:Dv hh c:=⟨f,s1.eq⟩
 have hg:Dv (b9 hh) (bW c (bL c)):=(DN hd s1.dv).imp fun w hw t=>by rw[hw,eL]
 have hl2:=hg.len (m8 h0) (jS h.tr dR) fN
 have hd2:c.1-(bW c (bL c)).1<=6:=aa
 obtain⟨B,b1,b2⟩:=Hu (M:=c.1) h.tr dR aS (Nat.le_trans DG aa) (h.bd.more (show 156<=162 by omega)) (zW h)
 have h3:3^(c.1-(bW c (bL c)).1)<=3^6:=xp hd2
 have h4:2*(162+1)*3^(c.1-(bW c (bL c)).1)<=2*(162+1)*3^6:=Nat.mul_le_mul_left _ h3
 exact⟨b2.more aa,hd2,m8 h0,AE h.tr⟩
theorem wF {c:PP} (h:jJ c) (h0:0<c.1):Bd (aZ c) 1901232/\(aZ c).1<=7:=by
 obtain⟨g1,g2,g3,g4⟩:=CY h h0
 have hq:=(BO (M:=7) (h.bd.more (show 156<=237653 by omega)) g1 g3 (jS h.tr dR) aa).2.cV vP
 unfold aZ
 rw[if_neg aa]
 refine⟨Bd.more hq aa,?_⟩
 show bY _ _<=7
 exact Nat.le_trans fP aa
theorem tL {c:PP} (h:jJ c) (h0:0<c.1):tP c/\BC c:=by
 have hW:=dI
 have hl:=h.len
 obtain⟨g1,g2,g3,g4⟩:=CY h h0
 obtain⟨f1,f2⟩:=wF h h0
 have hd:=wR (M:=7) (h.bd.more (show 156<=237653 by omega)) g1 g3 (jS h.tr dR) aa aa
 have hf:dj (aZ c).1 (aZ c).2:=kP f1 aa
 have hder:dj (c.1-1) (dw c.2):=kP (xV h.bd aa) aa
 have h13:2*((13+1)*(2*(162+1)*3^(13-1)))+2<=ah:=by rw[hW];decide
 have b1:=h.bd.more (show 156<=162 by omega)
 have hdl:(bL c).1<=13:=Nat.le_trans DG aa
 refine⟨⟨aa,h.tr,hder,fun _=>⟨Bc h.tr dR hl hdl aa b1 (zW h) h13,hd,hf⟩⟩,⟨aa,aa,h.tr,hder,fun _=>⟨⟨kP (b1.cV h.tr) aa,kP ((zW h).cV dR) aa,Bc (p9 h.tr) (p9 dR) hl hdl aa (b1.cV h.tr) ((zW h).cV dR) h13⟩,hd,hf⟩⟩⟩
theorem JX {c:PP} (h:jJ c) (h0:0<c.1):∀j,j<=gD (dO c)->∃B,B+1<=2772006462/\Bd (cm (dO c) j).1 B/\Bd (cm (dO c) j).2 B/\(cm (dO c) j).1.1<=7/\(cm (dO c) j).2.1<(cm (dO c) j).1.1:=fun j hj=>by
 obtain⟨f1,f2⟩:=wF h h0
 have hfp:0<(aZ c).1:=by
  obtain⟨g1,g2,g3,g4⟩:=CY h h0
  rcases Nat.eq_zero_or_pos (aZ c).1 with h9|h9
  ·exfalso
   unfold aZ at h9
   rw[if_neg aa]at h9
   have h9:(gk c (bW c (bL c))).1=0:=h9
   have h10:=fun t=>rm (a:=c) (d:=bW c (bL c)) g3 t
   have:=tK h.tr (b:=fl c (bW c (bL c))) (p6 fun t=>by rw[h10,iO h9,Rat.zero_mul,Rat.zero_add])
   have:=nH (a:=c) g3 (jS h.tr dR)
   omega
  ·exact h9
 have hfd:Bd (bL (aZ c)) 1901238:=f1.dw aa
 have hdl:(bL (aZ c)).1<=(aZ c).1-1:=fP
 obtain⟨B,b1,b2,b3,b4,b5⟩:=E9 (a:=aZ c) (b:=bL (aZ c)) l9 dR f2 aa (f1.more (show 1901232<=1901238 by omega)) hfd j hj
 have h3:3^(7-(cm (aZ c,bL (aZ c)) j).1.1)<=3^6:=xp aa
 have h4:=Nat.mul_le_mul_left (2*(1901238+1)) h3
 exact⟨B,aa,b2,b3,b4,b5⟩
theorem HN {c:PP} (h:jJ c) (h0:0<c.1):wI (dO c):=fun j hj=>by
 have hW:=dI
 obtain⟨B,b1,b2,b3,b4,b5⟩:=JX h h0 j aa
 have ht:=oW (s:=dO c) l9 dR j
 have hn:=(nE (s:=dO c) l9 dR).2.2 j hj
 refine⟨wR (M:=7) b2 b3 aa ht.2 aa aa,?_⟩
 have hr:=(BO (M:=7) b2 b3 aa ht.2 aa).1.neg
 exact kP hr aa
theorem Bm {c:PP} (h:jJ c) (h0:0<c.1):oS c/\FE c:=by
 have hW:=dI
 obtain⟨f1,f2⟩:=wF h h0
 have hder:dj ((aZ c).1-1) (dw (aZ c).2):=kP (xV f1 aa) aa
 exact⟨⟨(tL h h0).1,hder,HN h h0⟩,⟨(tL h h0).2,hder,HN h h0⟩⟩
theorem AB {c:PP} (h:jJ c) (h0:0<c.1):bU c<=8:=by
 obtain⟨f1,f2⟩:=wF h h0
 have:=(nE (s:=dO c) l9 dR).1
 have h2:(dO c).2.1<=(aZ c).1-1:=fP
 show gD (dO c)+1<=8
 omega
theorem UF {c:PP} (h:jJ c) (h0:0<c.1) {i:Nat} (hi:i<bU c):Bd (bN c i) 2772006461/\(bN c i).1<=7:=by
 obtain⟨B,b1,b2,b3,b4,b5⟩:=JX h h0 i (by have hi:i<gD (dO c)+1:=hi;omega)
 exact⟨b2.more aa,b4⟩
theorem WK {a:PP} {s:Nat} (h:Bd a s) (hl:a.1<=41) (hs:2*(s+a.1*a.1+2*a.1)+2<=ah):tO a:=⟨hl,fun i k hi hk=>(Co h hi aa).more hs⟩
theorem LV {a:PP} {s τ:Nat} {T:Int} {t:Rat} (h:Bd a s) (ht:bS T τ t) (hT:T.natAbs<=2^τ) (hT0:T≠0) (hl:a.1<=7) (hs:2*(s+7*(τ+1))+2<=ah):mh a t:=by
 obtain⟨D,d1,d2,d3⟩:=h
 intro m hm
 have h1:=EK d3 ht hT m hm
 have h2:=lz d2 (uA hT m)
 have h3:m*(τ+1)<=7*(τ+1):=Nat.mul_le_mul_right _ aa
 have h4:m*τ<=7*(τ+1):=Nat.mul_le_mul aa aa
 exact((h1.more (show s+m*(τ+1)<=s+7*(τ+1) by omega)).sz (Int.mul_ne_zero d1 (Int.pow_ne_zero hT0)) (Nat.le_trans h2 (Nat.pow_le_pow_right (by decide) (show s+m*τ<=s+7*(τ+1) by omega)))).more aa
theorem s9 {c:PP} (h:jJ c) (h0:0<c.1) {τ:Nat} {T:Int} {t:Rat} (ht:bS T τ t) (hT:T.natAbs<=2^τ) (hT0:T≠0) (hs:τ<=2^31):eI (bU c) (bN c) t:=fun i hi=>by
 have hW:=dI
 obtain⟨b1,b2⟩:=UF h h0 hi
 exact⟨aa,LV b1 ht hT hT0 b2 aa⟩
abbrev pg (n:Nat) (z:Nat->Int) (a:Int):ay:=j6 n (fun i=>.int .i64 (z i)) a
structure u6 where
 k:Nat->Rat
 t:Rat
 a:Int
def Cr (n:Nat) (f:Nat->AV) (t:Rat) (a:Int):Rat:=t+((1+cJ n f a 3:Int):Rat)/((1+cJ n f (bF n a) 2:Int):Rat)
def IC (n:Nat) (f:Nat->AV) (p j:Nat) (s:u6):u6:=
 if j=0\/0<cJ n f s.a 3\/s.t=s.k (j+1)then
  ⟨xe s.k (p+1+j) (Cr n f s.t (if j=0 then s.a else bF n s.a)),Cr n f s.t (if j=0 then s.a else bF n s.a),bF n (bF n (if j=0 then s.a else bF n s.a))⟩
 else⟨xe s.k (p+1+j) s.t,s.t,if j=0 then s.a else bF n s.a⟩
def q9 (n:Nat) (f:Nat->AV) (p:Nat) (s0:u6):Nat->u6
 |0=>s0
 |j+1=>IC n f p j (q9 n f p s0 j)
def xz (n:Nat) (f:Nat->AV) (a:Int):u6:=⟨fun _=>((cJ n f a 4-2:Int):Rat),((cJ n f a 4-2:Int):Rat),bF n (bF n a)⟩
def knJ (n:Nat) (f:Nat->AV) (a:Int) (m:Nat):Nat:=(cJ n f (bF n a) (m+1)).toNat
def SK (n:Nat) (f:Nat->AV) (a:Int) (p m:Nat):u6:=q9 n f p (xz n f a) (knJ n f a m)
def X6 (n:Nat) (f:Nat->AV) (a:Int) (p m:Nat):Int:=(SK n f a p m).a
theorem F9 {n:Nat} {f:Nat->AV} {a:Int} {p:Nat} (hd:dB n f a) (hp:1<=p):∀j,KG p j (q9 n f p (xz n f a) j).k (q9 n f p (xz n f a) j).t/\dB n f (q9 n f p (xz n f a) j).a
 |0=>by
  have h1:=jE (n:=n) (f:=f) (a:=a) (m:=4) aa
  have h2:=jF (n:=n) (f:=f) (a:=a) (m:=4) aa
  exact⟨KG.start hp aa aa,hd.next.next⟩
 |j+1=>by
  obtain⟨h1,h2⟩:=F9 hd hp j
  unfold q9 IC Cr
  generalize q9 n f p (xz n f a) j=s at*
  obtain⟨k,t,b⟩:=s
  simp only at h1 h2 ⊢
  have hb:dB n f (if j=0 then b else bF n b):=by split;exact h2;exact h2.next
  generalize (if j=0 then b else bF n b)=a1 at*
  split
  ·have x1:=jE (n:=n) (f:=f) (a:=a1) (m:=3) aa
   have x2:=jF (n:=n) (f:=f) (a:=a1) (m:=3) aa
   have y1:=jE (n:=n) (f:=f) (a:=bF n a1) (m:=2) aa
   have y2:=jF (n:=n) (f:=f) (a:=bF n a1) (m:=2) aa
   refine⟨h1.next (.inl ?_),hb.next.next⟩
   generalize cJ n f a1 3=x at*
   generalize cJ n f (bF n a1) 2=y at*
   have key:∃z:Int,((1+x:Int):Rat)/((1+y:Int):Rat)=(z:Rat)/2/\1<=z/\z<=6:=by
    rcases(show y=0\/y=1 by omega)with h|h
    ·subst h
     refine⟨2*(1+x),?_,aa,aa⟩
     have:((2*(1+x):Int):Rat)=2*((1+x:Int):Rat):=by simp
     rw[this]
     generalize ((1+x:Int):Rat)=w
     simp;grind
    ·subst h
     exact⟨1+x,by simp,aa,aa⟩
   obtain⟨z,e,z1,z2⟩:=key
   rw[e]
   refine⟨?_,z,rfl,z2⟩
   have:(1:Rat)<=(z:Rat):=by exact_mod_cast z1
   grind
  ·rename_i hc
   have hc1:¬j=0:=fun h=>hc (.inl h)
   have hc2:¬t=k (j+1):=fun h=>hc (.inr (.inr h))
   exact⟨h1.next (.inr ⟨rfl,aa,hc2⟩),hb⟩
theorem aao {z:Int} (h1:-2^63<=z) (h2:z<2^63):Sz ((z:Rat)/2) 64:=by
 have:=L9 h1 h2 (y:=2) aa aa aa
 simpa using this
theorem KG.sz {p j:Nat} {k:Nat->Rat} {t:Rat} (h:KG p j k t) (hj:j<2^50):Sz t 64:=by
 obtain⟨z,e,h1,h2⟩:=h.half (p+j) aS
 rw[h.top]at e
 rw[e]
 exact aao aa aa
def XO (n:Nat) (f:Nat->AV) (a:Int):Int:=bF n (Jx n f a)
def Jv (n:Nat) (f:Nat->AV) (a:Int):Nat->Int
 |0=>a
 |j+1=>XO n f (Jv n f a j)
theorem dB.Lg {n:Nat} {f:Nat->AV} {a:Int} (h:dB n f a):∀j,dB n f (Jv n f a j)
 |0=>h
 |j+1=>(h.Lg j).ZH.next
theorem dB.pI {n:Nat} {f:Nat->AV} {a:Int} {p m:Nat} (h:dB n f a) (hp:1<=p):dB n f (X6 n f a p m):=(F9 h hp _).2
def oo:bB:=zG::(91,FZ)::(93,jA kR kR NC qx)::nr
abbrev yZ:Code:=aG f31
abbrev wK:Code:=part yZ [1,1,1,1,0,1,0,0]
abbrev v8:Code:=part wK [1,0,0]
abbrev sE:Code:=part yZ [1,1,1,1,1]
abbrev sW:List Nat:=[0,1,6,7,8,9]
abbrev A2 (m n:Nat) (p q:Nat->Rat) (i:Nat):List AV:=[bD p (m+1) ah,bD q (n+1) ah,.int .i64 m,.int .i64 n,.own 0 3 0 (m+n+1),.int .i64 i]
abbrev wm:List Nat:=[0,1,6,7,8,9,10]
abbrev Ef (m n:Nat) (p q:Nat->Rat) (i j:Nat):List AV:=[bD p (m+1) ah,bD q (n+1) ah,.int .i64 m,.int .i64 n,.own 0 3 0 (m+n+1),.int .i64 i,.int .i64 j]
abbrev vY:List Nat:=[6,7,8,12]
abbrev Cs (m n k:Nat):List AV:=[.int .i64 m,.int .i64 n,.own 0 3 0 (m+n+1),.int .i64 k]
abbrev nQ (m n:Nat) (x:Nat->Rat):aD:=[(0,cZ (m+n+1) x ah)]
theorem NN:bu 31 f31:=bz func31
theorem aa5 {m n:Nat} {p q:Nat->Rat}:aH T oo [200022] 60 sW (before yZ [1,1,1,1,0,1]) ⟨aV 0 [bD p (m+1) ah,bD q (n+1) ah],[],0⟩=
  let c4:Int:=(↑(m+1):Int)-1;let c3:Int:=(↑(n+1):Int)-1;let c2:Int:=(2:Int)^63;let c1:Int:=c4+c3;let c5:Int:=c1+1;some (aj [-c2<=c4/\c4<c2,-c2<=c3/\c3<c2] (aj [-c2<=c1/\c1<c2] (aj [decide (c1>40)=false] (aj [-c2<=c1/\c1<c2,-c2<=c5/\c5<c2,(0:Int)<=c5/\c5<=c5/\c5<=2^47/\c5*(↑(56:Nat):Int)<=2^47] (leaf normal ([aq 3 (m+1) fun i=>rat (p i) ah,aq 3 (n+1) fun i=>rat (q i) ah,int i64 c4,int i64 c3,own 73728 3 0 c5.toNat,int i64 0],[(73728,ay.mk true true 3 c5.toNat fun x=>rat 0 1)])))))):=ag
theorem Yc {m n i:Nat} {p q x:Nat->Rat}:aH T oo [30] 60 sW (before wK [1,0]) ⟨aE sW (A2 m n p q i),nQ m n x,1⟩=
  let c1:List AV×aD:=([aq 3 (m+1) fun i=>rat (p i) ah,aq 3 (n+1) fun i=>rat (q i) ah,int i64 (↑m:Int),int i64 (↑n:Int),own 0 3 0 (m+n+1),int i64 (↑i:Int)],[(0,ay.mk true true 3 (m+n+1) fun i=>rat (x i) ah)]);some (fork (decide ((↑i:Int)<=(↑m:Int))) (leaf normal c1) (leaf (exit 0) c1)):=ag
theorem acL {m n i:Nat} {p q x:Nat->Rat}:aH T oo [] 60 wm (before v8 [1]) ⟨aE sW (A2 m n p q i),nQ m n x,1⟩=
  some (leaf normal ([aq 3 (m+1) fun i=>rat (p i) ah,aq 3 (n+1) fun i=>rat (q i) ah,int i64 (↑m:Int),int i64 (↑n:Int),own 0 3 0 (m+n+1),int i64 (↑i:Int),int i64 0],[(0,ay.mk true true 3 (m+n+1) fun i=>rat (x i) ah)])):=ag
theorem QY {m n i j:Nat} {p q x:Nat->Rat}:aH T oo [35] 60 wm [part v8 [1,0,0]] ⟨aE wm (Ef m n p q i j),nQ m n x,1⟩=
  let c13:Int:=(↑m:Int);let c11:Nat:=64+64;let c10:Int:=(↑n:Int);let c9:Int:=(↑i:Int);let c8:AV:=aq 3 (n+1) fun i=>rat (q i) ah;let c7:AV:=aq 3 (m+1) fun i=>rat (p i) ah;let c5:Int:=(↑j:Int);let c4:Int:=(2:Int)^63;let c3:Nat:=m+n+1;let c2:Nat:=2^41;let c15:Int:=c5+1;let c12:AV:=own 0 3 0 c3;let c1:Int:=c9+c5;let c14:Prop:=(0:Int)<=c1/\c1.toNat<c3;let c6:Nat:=c1.toNat+0;some (fork (decide (c5<=c10)) (aj [(0:Int)<=c9,c9<=c13,c13<=40,(0:Int)<=c5,c5<=c10,c10<=40,(64:Nat)<c2,(64:Nat)<c2,(0:Nat)<1] (aj [-c4<=c1/\c1<c4,-c4<=c1/\c1<c4,c14,c6<c3,(0:Nat)<1,(0:Int)<=c9/\c9.toNat<m+1,(0:Int)<=c5/\c5.toNat<n+1,ah<c2,ah<c2,c11<c2,ah+ah<c2,ah<c2,c11+(ah+ah)<c2,c14,c6<c3] (aj [-c4<=c15/\c15<c4] (leaf normal ([c7,c8,int i64 c13,int i64 c10,c12,int i64 c9,int i64 c15],[(0,ay.mk true true 3 c3 fun j=>rat (bif j==c6 then x c6+(↑(↑(bn c13.toNat c9.toNat):Int):Rat)*(↑(↑(bn c10.toNat c5.toNat):Int):Rat)*(p c9.toNat*q c5.toNat)else x j) (bif j==c6 then ah+(c11+(ah+ah))+1 else ah))]))))) (leaf (exit 2) ([c7,c8,int i64 c13,int i64 c10,c12,int i64 c9,int i64 c5],[(0,ay.mk true true 3 c3 fun i=>rat (x i) ah)]))):=ag
theorem Qz {m n i j:Nat} {p q x:Nat->Rat}:aH T oo [] 60 sW (behind v8 [1]++[part wK [1,1]]) ⟨aE wm (Ef m n p q i j),nQ m n x,1⟩=
  let c1:Int:=(↑i:Int)+1;some (aj [-(2:Int)^63<=c1/\c1<2^63] (leaf normal ([aq 3 (m+1) fun i=>rat (p i) ah,aq 3 (n+1) fun i=>rat (q i) ah,int i64 (↑m:Int),int i64 (↑n:Int),own 0 3 0 (m+n+1),int i64 c1],[(0,ay.mk true true 3 (m+n+1) fun i=>rat (x i) ah)]))):=ag
theorem Xh {m n i:Nat} {p q x:Nat->Rat}:aH T oo [] 60 vY (before sE [0,1]) ⟨aE sW (A2 m n p q i),nQ m n x,1⟩=
  some (leaf normal ([int i64 (↑m:Int),int i64 (↑n:Int),own 0 3 0 (m+n+1),int i64 0],[(0,ay.mk true true 3 (m+n+1) fun i=>rat (x i) ah)])):=ag
theorem abD {m n k:Nat} {x:Nat->Rat}:aH T oo [72] 60 vY [part sE [0,1,0,0]] ⟨aE vY (Cs m n k),nQ m n x,1⟩=
  let c4:Int:=(2:Int)^63;let c3:Nat:=m+n+1;let c2:Int:=(↑k:Int);let c1:Int:=(↑m:Int)+(↑n:Int);let c8:Int:=c2+1;let c7:Prop:=(0:Int)<=c2/\c2.toNat<c3;let c6:AV:=own 0 3 0 c3;let c5:Nat:=c2.toNat+0;some (aj [-c4<=c1/\c1<c4] (fork (decide (c2<=c1)) (aj [c7,c5<c3,-c4<=c1/\c1<c4,(0:Int)<=c2,c2<=c1,c1<=40,ah<2^41,(64:Nat)<2^41,c7,c5<c3] (aj [-c4<=c8/\c8<c4] (leaf normal ([int i64 (↑m:Int),int i64 (↑n:Int),c6,int i64 c8],[(0,ay.mk true true 3 c3 fun j=>rat (bif j==c5 then x c5/(↑(↑(bn c1.toNat c2.toNat):Int):Rat)else x j) (bif j==c5 then ah+64 else ah))])))) (leaf (exit 4) ([int i64 (↑m:Int),int i64 (↑n:Int),c6,int i64 c2],[(0,ay.mk true true 3 c3 fun i=>rat (x i) ah)])))):=ag
theorem adH {m n k:Nat} {x:Nat->Rat}:dA T oo [] 60 f31 [part sE [1]] ⟨aE vY (Cs m n k),nQ m n x,1⟩=
  some (leaf ret [aq 3 (m+n+1) fun i=>rat (x (i+0)) ah,int i64 0]):=ag
theorem Ee:bT P oo:=ja (aN II (aN (jZ fun _ _ K hn=>Hq hn.1 hn.2 K) o4))
def kz (m n:Nat) (p q:Nat->Rat) (i j k:Nat):Rat:=sg (fun i=>sg (fun j=>if i+j=k then bq m i*p i*(bq n j*q j)else 0) (n+1)) i+sg (fun j=>if i+j=k then bq m i*p i*(bq n j*q j)else 0) j
theorem OV {m n i k:Nat} {p q:Nat->Rat}:kz m n p q i (n+1) k=kz m n p q (i+1) 0 k:=(Rat.add_zero _).symm
theorem abz {m n i j:Nat} {p q:Nat->Rat}:kz m n p q i j (i+j)+bq m i*bq n j*(p i*q j)=kz m n p q i (j+1) (i+j):=by
 unfold kz
 show _=_+(sg _ j+(if i+j=i+j then bq m i*p i*(bq n j*q j)else 0))
 rw[if_pos rfl];grind
theorem aaz {m n i j k:Nat} {p q:Nat->Rat} (h:k≠i+j):kz m n p q i j k=kz m n p q i (j+1) k:=by
 unfold kz
 show _=_+(sg _ j+(if i+j=k then bq m i*p i*(bq n j*q j)else 0))
 rw[if_neg (fun e=>h e.symm),Rat.add_zero]
theorem aaD {m n k:Nat} {p q:Nat->Rat}:kz m n p q (m+1) 0 k/bq (m+n) k=j4 m n p q k:=by
 unfold j4
 rw[show kz m n p q (m+1) 0 k=jQ m n (fun i=>bq m i*p i) (fun j=>bq n j*q j) k from Rat.add_zero _]
def oA (m n:Nat) (p q:Nat->Rat) (k t:Nat):Rat:=if t<k then j4 m n p q t else kz m n p q (m+1) 0 t
theorem FF {m n k t:Nat} {p q:Nat->Rat} (h:t<k):oA m n p q k t=j4 m n p q t:=if_pos h
theorem YW {m n k:Nat} {p q:Nat->Rat}:oA m n p q k k/bq (m+n) k=oA m n p q (k+1) k:=by
 rw[FF (Nat.lt_succ_self _)];unfold oA;rw[if_neg (Nat.lt_irrefl _)];exact aaD
theorem Rz {m n k t:Nat} {p q:Nat->Rat} (h:t≠k):oA m n p q k t=oA m n p q (k+1) t:=by
 unfold oA
 by_cases h3:t<k
 ·rw[if_pos h3,if_pos aa]
 ·rw[if_neg h3,if_neg aa]
def zC (m n:Nat) (p q:Nat->Rat):Prop:=(∀i j k,i<=m+1->j<=n+1->k<m+n+1->Sz (kz m n p q i j k) ah)/\∀k,k<m+n+1->Sz (j4 m n p q k) ah
theorem Qb {m n:Nat} {p q:Nat->Rat} (hmn:m+n<=40) (hz:zC m n p q) (K:Nat):aQ P 31 K [bD p (m+1) ah,bD q (n+1) ah] [] (aM (.tuple [bD (j4 m n p q) (m+n+1) ah,.int .i64 0]) []):=by
 refine iI (r:=aM (.tuple [bD (j4 m n p q) (m+n+1) ah,.int .i64 0]) []) hT NN rfl bp rfl (fun _ cx h0=>?_) K []
 have hk:=nV h0
 have hW:=dI
 refine au.qV hT Ee hm (x:=yZ) [1,1,1,1,0,1] (i:=0) (y:=wK) (z:=sE) ag ag ag NN.dst [1,0] (j:=1) (x1:=v8) (zb:=part wK [1,1]) ag ag ag [1] (i2:=2) (y2:=part v8 [1,0,0]) ag ag rfl hk
  (f1:=[200022]) (f2:=[30]) (f3:=[]) (f4:=[35]) (f5:=[]) 60 sW wm 1 1 (fun i:Nat=>A2 m n p q i) (fun i=>nQ m n (kz m n p q i 0)) (fun i=>i<=m+1) (fun i=>i=m+1) (fun i=>m+1-i) (fun i=>i<m+1) (fun _=>False) (fun _=>False)
  (fun i (j:Nat)=>Ef m n p q i j) (fun i j=>nQ m n (kz m n p q i j)) (fun _ j=>j<=n+1) (fun _ j=>j=n+1) (fun _ j=>n+1-j)
  ⟨_,aa5,?_⟩ (fun i hi=>⟨_,Yc,?_⟩) (fun i hi hG=>⟨_,acL,?_⟩) (fun i hi hG j hj=>⟨_,QY,?_⟩) (fun i hi hG j hj=>⟨_,Qz,?_⟩) (fun i hi=>?_) (fun _ _ h=>h.elim) (fun _ _ h=>h.elim)
 ·have e1:((m+1:Nat):Int)-1=(m:Nat):=aa
  have e2:((n+1:Nat):Int)-1=(n:Nat):=aa
  have e3:((m:Int)+(n:Int)+1).toNat=m+n+1:=aa
  simp only[af.all,aA,e1,e2,e3,bO]
  exact⟨aa,aa,aa,aa,0,Nat.zero_le _,[(0,73728)],rfl,rfl,rfl,bH rfl rfl rfl (fun k hk=>.inr ⟨rfl,dD (by show(0:Rat)=0+0;rw[Rat.add_zero]) aa⟩) trivial⟩
 ·simp only[af.all,aA,bK,bO]
  exact⟨fun h=>⟨aa,[(0,0)],rfl,rfl,rfl,bH rfl rfl rfl (fun i hi=>bX rfl rfl) trivial⟩,fun h=>⟨rfl,i,aa,[(0,0)],rfl,rfl,rfl,bH rfl rfl rfl (fun i hi=>bX rfl rfl) trivial⟩⟩
 ·simp only[af.all,aA]
  exact⟨0,Nat.zero_le _,[(0,0)],rfl,rfl,rfl,bH rfl rfl rfl (fun i hi=>bX rfl rfl) trivial⟩
 ·have e1:((i:Int)+(j:Int)).toNat=i+j:=aa
  simp only[af.all,aA,e1,bK,bO,bE,Nat.add_zero]
  refine⟨fun h=>⟨⟨aa,aa,aa,aa,aa,aa,aa,aa,aa⟩,⟨aa,aa,aa,aa,aa,aa,aa,aa,aa,aa,aa,aa,aa,aa,aa⟩,aa,j+1,aa,by dsimp only;omega,[(0,0)],rfl,by rw[show(j:Int)+1=((j+1:Nat):Int) by omega];rfl,rfl,bH rfl rfl rfl (fun k hk=>mN (fj abz (hz.1 i (j+1) _ aa aa aa)) fun hne=>dD (aaz hne) aS) trivial⟩,
   fun h=>⟨rfl,j,aa,[(0,0)],rfl,rfl,rfl,bH rfl rfl rfl (fun i hi=>bX rfl rfl) trivial⟩⟩
 ·subst hj
  simp only[af.all,aA]
  exact⟨aa,i+1,aa,by dsimp only;omega,[(0,0)],rfl,by rw[show(i:Int)+1=((i+1:Nat):Int) by omega];rfl,rfl,bH rfl rfl rfl (fun k hk=>bX rfl (by rw[OV])) trivial⟩
 ·subst hi
  refine au.r8 hT Ee hm (x:=sE) [0,1] (i:=4) (y:=part sE [0,1,0,0]) (z:=part sE [1]) ag ag ag ag hk (f1:=[]) (f2:=[72]) 60 vY 1 (fun k:Nat=>Cs m n k) (fun k=>nQ m n (oA m n p q k))
   (fun k=>k<=m+n+1) (fun k=>k=m+n+1) (fun k=>m+n+1-k) (fun _=>False) ⟨_,Xh,?_⟩ (fun k hk=>⟨_,abD,?_⟩) (fun k hk=>?_) (fun _ _ h=>h.elim)
  ·simp only[af.all,aA]
   exact⟨0,Nat.zero_le _,[(0,0)],rfl,rfl,rfl,bH rfl rfl rfl (fun i hi=>bX rfl rfl) trivial⟩
  ·have e1:((m:Int)+(n:Int)).toNat=m+n:=aa
   simp only[af.all,aA,e1,bK,bO,bE,Nat.add_zero]
   refine⟨aa,fun h=>⟨⟨aa,aa,aa,aa,aa,aa,aa,aa,aa,aa⟩,aa,k+1,aa,by dsimp only;omega,[(0,0)],rfl,by rw[show(k:Int)+1=((k+1:Nat):Int) by omega];rfl,rfl,bH rfl rfl rfl (fun t ht=>mN (y:=oA m n p q (k+1)) (fj YW (by rw[FF (Nat.lt_succ_self _)];exact hz.2 k aa)) fun hne=>dD (Rz hne) aS) trivial⟩,
    fun h=>⟨rfl,k,aa,[(0,0)],rfl,rfl,rfl,bH rfl rfl rfl (fun i hi=>bX rfl rfl) trivial⟩⟩
  ·subst hk
   refine au.m7 ((aF.fin hT Ee hm 60 adH ag ?_).mono fun _ _ h=>.inl h)
   exact⟨iz fun i hi=>dD (by rw[Nat.add_zero];exact FF hi) aS,.refl _,trivial⟩
def I4:Spec:=fu (kC (kL ah) (kC (kL ah) kN)) (fun a=>.tuple [bD (j4 (a.1.1-1) (a.2.1.1-1) a.1.2 a.2.1.2) (a.1.1-1+(a.2.1.1-1)+1) ah,.int .i64 0]) fun a=>[1<=a.1.1,1<=a.2.1.1,a.1.1+a.2.1.1<=42,zC (a.1.1-1) (a.2.1.1-1) a.1.2 a.2.1.2]
theorem aak:bA P I4 31:=fF fun⟨⟨m,p⟩,⟨n,q⟩,_⟩ K hn=>by
 obtain⟨h1,h2,h3,h4⟩:=hn
 have h1:1<=m:=h1
 have h2:1<=n:=h2
 have h3:m+n<=42:=h3
 obtain⟨m,rfl⟩:∃x,m=x+1:=⟨m-1,aa⟩
 obtain⟨n,rfl⟩:∃x,n=x+1:=⟨n-1,aa⟩
 exact Qb aa h4 K
def zH:bB:=nG::(44,mw xl)::(87,mw CK)::[]
abbrev wN:Code:=aG f28
abbrev yL:List Nat:=[0,5,6]
abbrev Bp (j:Nat) (t:Int):List AV:=[.ptr 0 0 2 0 [],.own 1 3 0 j,.int .i64 t]
abbrev B2 (n:Nat) (z:Nat->Int) (a:Int) (k:Nat->Rat) (j:Nat):aD:=[(1,cZ j k 64),(0,pg n z a)]
def AW:bB:=nG::(96,LH)::nr
abbrev wo:Code:=aG f55
abbrev vR:List Nat:=[0,3,4]
abbrev El (n:Nat) (z:Nat->Int) (i:Nat):List AV:=[.aq 1 n fun i=>.int .i64 (z i),.own 0 3 0 i,.int .i64 i]
theorem L4:bu 28 f28:=bz func28
theorem Vj:bu 55 f55:=bz func55
theorem Sj {n:Nat} {z:Nat->Int} {a d:Int}:aH T zH [] 60 yL (before wN [1,1,0,1]) ⟨aV 0 [.ptr 0 0 2 0 [],.int .i64 d],[(0,pg n z a)],1⟩=
  let c1:Int:=d+1;some (aj [-(2:Int)^63<=c1/\c1<2^63,dB n (fun i=>int i64 (z i)) a,(0:Int)<c1,c1<2^62] (leaf normal ([ptr 0 0 2 0 [],nil,int i64 (cJ n (fun i=>int i64 (z i)) a c1)],[(0,ay.mk false true 2 1 fun x=>agg [aq 1 n fun i=>int i64 (z i),int i64 (bF n a)])]))):=ag
theorem Qs {n j:Nat} {z:Nat->Int} {a t:Int} {k:Nat->Rat}:aH T zH [12] 60 yL [part wN [1,1,0,1,0,0]] ⟨aE yL (Bp j t),B2 n z a k j,2⟩=
  let c2:AV:=aq 1 n fun i=>int i64 (z i);let c1:AV:=ptr 0 0 2 0 [];some (fork (decide (t>=0)) (aj [dB n (fun i=>int i64 (z i)) a,(1:Nat)*3<=2^24,(j+1)*((56:Nat)+1)*2<=2^47] (aj [-(2:Int)^63<=t-1/\t-1<(2:Int)^63] (leaf normal ([c1,own 24578 3 0 (j+1),int i64 (t-1)],[(24578,ay.mk true true 3 (j+1) fun i=>if i<j then rat (k i) 64 else nth [rat (qR n (fun i=>int i64 (z i)) a) 64] (rat 0 1) (i-j+0)),(0,ay.mk false true 2 1 fun x=>agg [c2,int i64 (nP n (fun i=>int i64 (z i)) a)])])))) (leaf (exit 0) ([c1,own 1 3 0 j,int i64 t],[(1,ay.mk true true 3 j fun i=>rat (k i) 64),(0,ay.mk false true 2 1 fun x=>agg [c2,int i64 a])]))):=ag
theorem Q3 {n j:Nat} {z:Nat->Int} {a t:Int} {k:Nat->Rat}:Bl T zH [] 60 f28 [part wN [1,1,1]] ⟨aE yL (Bp j t),B2 n z a k j,2⟩=
  some (leaf ret ([aq 3 j fun i=>rat (k (i+0)) 64],some (ay.mk false true 2 1 fun x=>agg [aq 1 n fun i=>int i64 (z i),int i64 a]))):=ag
theorem OX {n:Nat} {z:Nat->Int}:aH T AW [] 60 vR (before wo [1,1,0,1]) ⟨aV 0 [.aq 1 n fun i=>.int .i64 (z i)],[],0⟩=
  some (leaf normal ([aq 1 n fun i=>int i64 (z i),nil,int i64 0],[])):=ag
theorem YN {n i:Nat} {z:Nat->Int} {k:Nat->Rat}:aH T AW [10] 60 vR [part wo [1,1,0,1,0,0]] ⟨aE vR (El n z i),[(0,cZ i k 64)],1⟩=
  let c3:AV:=aq 1 n fun i=>int i64 (z i);let c2:Int:=(2:Int)^63;let c1:Int:=(↑i:Int);let c5:Int:=z c1.toNat;let c4:Int:=c1+1;some (fork (decide (c1<(↑n:Int))) (aj [(0:Int)<=c1/\c1.toNat<n,-c2<=c5,c5<c2,(1:Nat)*3<=2^24,(i+1)*((56:Nat)+1)*2<=2^47] (aj [-c2<=c4/\c4<c2] (leaf normal ([c3,own 45057 3 0 (i+1),int i64 c4],[(45057,ay.mk true true 3 (i+1) fun i_1=>if i_1<i then rat (k i_1) 64 else nth [rat (↑c5:Rat) (Max.max 1 (bP c5.natAbs))] (rat 0 1) (i_1-i+0))])))) (leaf (exit 0) ([c3,own 0 3 0 i,int i64 c1],[(0,ay.mk true true 3 i fun i=>rat (k i) 64)]))):=ag
theorem Rj {n i:Nat} {z:Nat->Int} {k:Nat->Rat}:dA T AW [] 60 f55 [part wo [1,1,1]] ⟨aE vR (El n z i),[(0,cZ i k 64)],1⟩=
  some (aj [dU (fun i=>.rat (k (i+0)) 64) i ah,(1:Nat)<=i,i<=41,jG i fun i=>aW (.rat (k (i+0)) 64)] (leaf ret [bD (eJ i fun i=>aW (.rat (k (i+0)) 64)) i ah])):=ag
theorem Nk {rl:List (Nat×Nat)} {l i s s' s2:Nat} {x y:Nat->Rat} {t:Rat} {z:AV} (hx:∀i,i<l->x i=y i) (ht:bG (.rat t s') (.rat (y l) s2)) (h1:s<=s2) (hi:i<l+1):pU rl (if i<l then .rat (x i) s else nth [.rat t s'] z (i-l+0)) (.rat (y i) s2):=by
 by_cases h:i<l
 ·rw[if_pos h,hx i h];exact .inr ⟨rfl,dD rfl h1⟩
 ·obtain rfl:i=l:=aa
  rw[if_neg h,Nat.sub_self]
  exact .inr ⟨rfl,ht⟩
def yb (n:Nat) (f:Nat->AV) (a:Int):Nat->Int
 |0=>a
 |j+1=>nP n f (yb n f a j)
theorem dB.numbers {n:Nat} {f:Nat->AV} {a:Int} (h:dB n f a):∀j,dB n f (yb n f a j)
 |0=>h
 |j+1=>(h.numbers j).number
def pH (n:Nat) (f:Nat->AV) (a d:Int):Nat:=(cJ n f a (d+1)).toNat+1
def qL (n:Nat) (f:Nat->AV) (a:Int) (i:Nat):Rat:=qR n f (yb n f (bF n a) i)
def sU (n:Nat) (f:Nat->AV) (a d:Int):Int:=yb n f (bF n a) (pH n f a d)
def CM (n:Nat) (f:Nat->AV) (a:Int) (l:List AV):Option (AV×Int×List Prop):=match l with
 |[.int .i64 d]=>some (bD (qL n f a) (pH n f a d) 64,sU n f a d,[0<=d,d<900])
 |_=>none
theorem NW:bT P zH:=jM (aN Ct (aN Yv ct))
theorem aa4 {k n:Nat} {z:Nat->Int} {a d:Int} {o:ay} (ho:∀ρ,dG ρ o (pg n z a)) (h:dB n (fun i=>.int .i64 (z i)) a) (hd1:0<=d) (hd2:d<900) (K:Nat):
  aQ P 28 K [.ptr k 0 2 0 [],.int .i64 d] [(k,o)] ⟨bD (qL n (fun i=>.int .i64 (z i)) a) (pH n (fun i=>.int .i64 (z i)) a d) 64,[(k,pg n z (sU n (fun i=>.int .i64 (z i)) a d))],[]⟩:=by
 refine Lt hT L4 rfl rfl bp ho (fun _ c hk=>?_) K
 have a1:=jE (n:=n) (f:=fun i=>.int .i64 (z i)) (a:=a) (m:=d+1) aa
 have a2:=jF (n:=n) (f:=fun i=>.int .i64 (z i)) (a:=a) (m:=d+1) aa
 unfold sU
 obtain⟨N,hN⟩:∃N,N=pH n (fun i=>.int .i64 (z i)) a d:=⟨_,rfl⟩
 have hN2:cJ n (fun i=>.int .i64 (z i)) a (d+1)=(N:Int)-1:=by rw[hN];unfold pH;omega
 rw[<-hN]
 refine au.r8 hT NW hm [1,1,0,1] (i:=0) (y:=part wN [1,1,0,1,0,0]) (z:=part wN [1,1,1]) ag ag ag L4.dst hk (f1:=[]) (f2:=[12]) 60 yL 2 (fun j:Nat=>Bp j ((N:Int)-1-j))
  (fun j=>B2 n z (yb n (fun i=>.int .i64 (z i)) (bF n a) j) (qL n (fun i=>.int .i64 (z i)) a) j) (fun j=>j<=N) (fun j=>j=N) (fun j=>N-j) (fun _=>False) ⟨_,Sj,?_⟩ (fun j hj=>⟨_,Qs,?_⟩) (fun j hj=>?_) (fun _ _ h=>h.elim)
 ·simp only[af.all,aA,hN2]
  exact⟨⟨aa,h,aa,aa⟩,0,Nat.zero_le _,[(0,0)],rfl,by show _=List.map (kS [(0,0)]) (Bp 0 ((N:Int)-1-((0:Nat):Int)));rw[show(N:Int)-1-((0:Nat):Int)=N-1 by omega];rfl,rfl,uw rfl aa aa (dY trivial)⟩
 ·simp only[af.all,aA,bK,bO]
  refine⟨fun h2=>⟨⟨h.next.numbers j,aa,aa⟩,aa,j+1,aa,by dsimp only;omega,[(0,0),(1,24578)],rfl,by rw[show(N:Int)-1-(j:Int)-1=(N:Int)-1-((j+1:Nat):Int) by omega];rfl,rfl,
   bH rfl rfl rfl (fun i hi=>Nk (fun _ _=>rfl) (.refl _) aS hi) (dY trivial)⟩,
   fun h2=>⟨rfl,j,aa,[(0,0),(1,1)],rfl,rfl,rfl,oe (dY trivial)⟩⟩
 ·subst hj
  refine au.m7 (aF.Oq hT NW hm 60 Q3 ag ?_)
  simp only[af.all,aA]
  exact⟨.refl _,_,rfl,rfl,uP rfl rfl⟩
theorem aaT:bA P (mw CM) 28:=by
 refine zI fun {k n z a l v b q o} K hg ho hd hq=>?_
 unfold CM at hg
 split at hg
 ·rename_i d
  simp only[ax,Prod.mk.injEq]at hg
  obtain⟨rfl,rfl,rfl⟩:=hg
  exact aa4 ho hd hq.1 hq.2 K
 ·simp at hg
theorem ae2:bT P AW:=jM (aN Sw o4)
def eu (z:Nat->Int) (i:Nat):Rat:=(z i:Int)
theorem CX {n:Nat} {z:Nat->Int} (h1:1<=n) (h2:n<=41) (hz:∀i,i<n->-2^62<=z i/\z i<2^62) (hf:jG n (eu z)) (K:Nat):aQ P 55 K [.aq 1 n fun i=>.int .i64 (z i)] [] (aM (bD (eJ n (eu z)) n ah) []):=by
 have hW:=dI
 refine nK (r:=aM (bD (eJ n (eu z)) n ah) []) hT ae2 hm Vj rfl bp rfl [1,1,0,1] (i:=0) (y:=part wo [1,1,0,1,0,0]) (z:=part wo [1,1,1]) ag ag ag (f1:=[]) (f2:=[10]) (f3:=[]) 60 vR 1
  (fun i:Nat=>El n z i) (fun i=>[(0,cZ i (eu z) 64)]) (fun i=>i<=n) (fun i=>i=n) (fun i=>n-i) (fun _=>⟨⟨_,OX,?_⟩,fun i hi=>⟨_,YN,?_⟩,fun i hi=>⟨_,Rj,?_⟩⟩) K []
 ·simp only[af.all,aA]
  exact⟨0,Nat.zero_le _,[],rfl,rfl,rfl,uw rfl aa aa trivial⟩
 ·simp only[af.all,aA,bK,bO,bE]
  refine⟨fun h=>⟨⟨aa,by have:=hz i aa;omega,by have:=hz i aa;omega,aa,aa⟩,aa,i+1,aa,by dsimp only;omega,[(0,45057)],rfl,by rw[show(i:Int)+1=((i+1:Nat):Int) by omega];rfl,rfl,bH rfl rfl rfl (fun j hj=>Nk (fun _ _=>rfl) (fj rfl (zR (y:=0) (by have:=hz i aa;omega) (by have:=hz i aa;omega))) aS hj) trivial⟩,
   fun h=>⟨rfl,i,aa,[(0,0)],rfl,rfl,rfl,oe trivial⟩⟩
 ·subst hi
  simp only[af.all,aA]
  exact⟨⟨eG aa,h1,h2,hf⟩,.refl _⟩
def K7:Spec:=b7 fun l=>match l with
 |[.aq 1 n f]=>some (aM (bD (eJ n (eu fun i=>intOf (f i))) n ah) [1<=n,n<=41,∀i,i<n->f i=.int .i64 (intOf (f i)),∀i,i<n->-2^62<=intOf (f i)/\intOf (f i)<2^62,jG n (eu fun i=>intOf (f i))])
 |_=>none
def o7:bB:=nG::(44,mw xl)::(28,mw CM)::(55,K7)::(51,Im)::(52,zJ)::(31,I4)::nr
abbrev sn:Code:=aG f13
abbrev ql:Code:=part sn [1,1,0,1,0,0]
abbrev qo:Code:=part ql [1,0,0]
abbrev lD:List Nat:=[0,3,4]
abbrev qv (p:PP) (t:Int):List AV:=[.ptr 0 0 2 0 [],aX p,.int .i64 t]
abbrev je (n:Nat) (z:Nat->Int) (a:Int):aD:=[(0,pg n z a)]
abbrev nY:List Nat:=[0,3,4,5,7]
abbrev o8 (p q:PP) (t r:Int):List AV:=[.ptr 0 0 2 0 [],aX p,.int .i64 t,aX q,.int .i64 r]
def fV (n:Nat) (f:Nat->AV) (b:Int) (i:Nat):Int:=if i=0 then-cJ n f b 4 else if i=1 then 0 else 1+cJ n f (bF n b) 5
def r9 (n:Nat) (f:Nat->AV) (a:Int):PP:=if cJ n f a 4=0 then(pH n f (bF n a) 2,qL n f (bF n a))else if cJ n f a 4=1 then(3,eJ 3 (eu (fV n f (bF n a))))else
 (2,fun i=>if i=0 then-lJ (cJ n f (bF n a) 400)else 1-lJ (cJ n f (bF n a) 400))
def jB (n:Nat) (f:Nat->AV) (a:Int):Int:=if cJ n f a 4=0 then sU n f (bF n a) 2 else if cJ n f a 4=1 then bF n (bF n (bF n a))else bF n (bF n a)
def p8 (n:Nat) (f:Nat->AV) (a:Int):Nat:=1+(cJ n f (jB n f a) 3).toNat/2
def oK (n:Nat) (f:Nat->AV) (a:Int):Int:=bF n (jB n f a)
def eV (n:Nat) (f:Nat->AV) (a:Int):Nat->PP×Int
 |0=>((1,fun _=>1),bF n a)
 |i+1=>(gL (eV n f a i).1 (r9 n f (eV n f a i).2) (p8 n f (eV n f a i).2),oK n f (eV n f a i).2)
def oG (n:Nat) (f:Nat->AV) (a:Int):Nat:=(cJ n f a 4).toNat
def l6 (n:Nat) (f:Nat->AV) (a:Int):PP:=(eV n f a (oG n f a)).1
def CC (n:Nat) (f:Nat->AV) (a:Int):Int:=(eV n f a (oG n f a)).2
def IY (p q:PP):Prop:=1<=p.1/\1<=q.1/\p.1+q.1<=42/\zC (p.1-1) (q.1-1) p.2 q.2
def zo (n:Nat) (f:Nat->AV) (a:Int):Prop:=∀i,i<oG n f a->(cJ n f (eV n f a i).2 4=1->jG 3 (eu (fV n f (bF n (eV n f a i).2))))/\∀j,j<p8 n f (eV n f a i).2->IY (gL (eV n f a i).1 (r9 n f (eV n f a i).2) j) (r9 n f (eV n f a i).2)
def DU (n:Nat) (f:Nat->AV) (a:Int) (l:List AV):Option (AV×Int×List Prop):=match l with
 |[]=>some (aX (l6 n f a),CC n f a,[zo n f a])
 |_=>none
theorem MK:bu 13 f13:=bz func13
theorem SI {n:Nat} {z:Nat->Int} {a:Int}:aH T o7 [] 60 [0,3] (before sn [1,1]) ⟨aV 0 [.ptr 0 0 2 0 []],je n z a,1⟩=
  some (aj [-(2:Int)^63<=(1:Int),(1:Int)<2^63,(1:Nat)*3<=2^24] (leaf normal ([ptr 0 0 2 0 [],own 8193 3 0 1],[(8193,ay.mk true true 3 1 fun i=>nth [rat (↑(1:Int):Rat) (Max.max 1 (bP (Int.natAbs (1:Int))))] (rat 0 1) i),(0,ay.mk false true 2 1 fun x=>agg [aq 1 n fun i=>int i64 (z i),int i64 a])]))):=ag
theorem abx {n:Nat} {z:Nat->Int} {a t r:Int} {p q:PP}:aH T o7 [] 60 nY (before (part qo [1,1,1]) []) ⟨aE nY (o8 p q t r),je n z a,1⟩=
  some (leaf normal ([ptr 0 0 2 0 [],aq 3 p.fst fun i=>rat (p.snd i) ah,int i64 t,aq 3 q.fst fun i=>rat (q.snd i) ah,int i64 r],[(0,ay.mk false true 2 1 fun x=>agg [aq 1 n fun i=>int i64 (z i),int i64 a])])):=ag
theorem VR {n:Nat} {z:Nat->Int} {a:Int} {p:PP}:aH T o7 [] 60 lD (before (part sn [1,1]) [0,1]) ⟨aE [0,3] [.ptr 0 0 2 0 [],aX p],je n z a,1⟩=
  some (aj [dB n (fun i=>int i64 (z i)) a,(0:Int)<4,(4:Int)<2^62] (leaf normal ([ptr 0 0 2 0 [],aq 3 p.fst fun i=>rat (p.snd i) ah,int i64 (cJ n (fun i=>int i64 (z i)) a (4:Int))],[(0,ay.mk false true 2 1 fun x=>agg [aq 1 n fun i=>int i64 (z i),int i64 (bF n a)])]))):=ag
theorem aeX {n:Nat} {z:Nat->Int} {a t:Int} {p:PP}:aH T o7 [13] 60 lD (before ql [1,0]) ⟨aE lD (qv p t),je n z a,1⟩=
  let c1:List AV×aD:=([ptr 0 0 2 0 [],aq 3 p.fst fun i=>rat (p.snd i) ah,int i64 t],[(0,ay.mk false true 2 1 fun x=>agg [aq 1 n fun i=>int i64 (z i),int i64 a])]);some (fork (decide (t>0)) (leaf normal c1) (leaf (exit 0) c1)):=ag
theorem Pn {n:Nat} {z:Nat->Int} {a t:Int} {p:PP}:aH T o7 [27,31] 60 nY (before qo [1,1,1]) ⟨aE lD (qv p t),je n z a,1⟩=
  let c22:AV:=int i64 0;let c20:Prop:=(0:Int)<3;let c19:Prop:=0<1;let c18:Prop:=(2:Int)≠(0:Int);let c17:Int:=bF n a;let c16:Int:=cJ n (fun i=>int i64 (z i)) a (4:Int);let c15:Nat:=Max.max 1 (bP (Int.natAbs (1:Int)));let c13:AV:=aq 1 n fun i=>int i64 (z i);let c11:AV:=ptr 0 0 2 0 [];let c8:Int:=(2:Int)^62;let c7:AV:=aq 3 p.fst fun i=>rat (p.snd i) ah;let c4:Int:=(2:Int)^63;let c24:Prop:=(3:Int)<c8;let c14:Rat:=lJ (cJ n (fun i=>int i64 (z i)) c17 (400:Int));let c12:Prop:=dB n (fun i=>int i64 (z i)) c17;let c10:Int:=sU n (fun i=>int i64 (z i)) c17 (2:Int);let c2:Int:=bF n c17;let c23:Int:=bF n c2;let c21:Prop:=dB n (fun i=>int i64 (z i)) c2;let c9:Int:=(1:Int)+cJ n (fun i=>int i64 (z i)) c2 (5:Int);let c6:Int:=(1:Int)+i64.wrap ((cJ n (fun i=>int i64 (z i)) c2 (3:Int)).tdiv (2:Int));let c1:Int:=(1:Int)+i64.wrap ((cJ n (fun i=>int i64 (z i)) c10 (3:Int)).tdiv (2:Int));let c5:List AV:=[int i64 (i64.wrap ((0:Int)-cJ n (fun i=>int i64 (z i)) c17 (4:Int))),c22,int i64 c9];let c3:Int:=(1:Int)+i64.wrap ((cJ n (fun i=>int i64 (z i)) c23 (3:Int)).tdiv (2:Int));some (aj [dB n (fun i=>int i64 (z i)) a,(0:Int)<4,(4:Int)<c8] (fork (c16==0) (aj [c12,(0:Int)<=2,(2:Int)<900] (aj [dB n (fun i=>int i64 (z i)) c10,c20,c24,c18,-c4<=c1/\c1<c4] (leaf normal ([c11,c7,int i64 t,aq 3 (pH n (fun i=>int i64 (z i)) c17 (2:Int)) fun i=>rat (qL n (fun i=>int i64 (z i)) c17 i) 64,int i64 c1],[(0,ay.mk false true 2 1 fun x=>agg [c13,int i64 (bF n c10)])])))) (fork (c16==1) (aj [c12,(0:Int)<4,(4:Int)<c8,c21,(0:Int)<5,(5:Int)<c8,-c4<=c9/\c9<c4,(3:Nat)*1<=2^24,(1:Nat)<=3,(3:Nat)<=41,∀(i:Nat),i<3->nth c5 c22 (i+0)=int i64 (intOf (nth c5 c22 (i+0))),∀(i:Nat),i<3->-c8<=intOf (nth c5 c22 (i+0))/\intOf (nth c5 c22 (i+0))<c8,jG 3 (eu fun i=>intOf (nth c5 c22 (i+0)))] (aj [dB n (fun i=>int i64 (z i)) c23,c20,c24,c18,-c4<=c3/\c3<c4] (leaf normal ([c11,c7,int i64 t,aq 3 3 fun i=>rat (eJ 3 (eu fun i=>intOf (nth c5 c22 (i+0))) i) ah,int i64 c3],[(0,ay.mk false true 2 1 fun x=>agg [c13,int i64 (bF n c23)])])))) (aj [c12,(0:Int)<400,(400:Int)<c8,c19] (aj [c19,-c4<=1,(1:Int)<c4,c19,c15<2^41,(64:Nat)<2^41,(2:Nat)*3<=2^24] (aj [c21,c20,c24,c18,-c4<=c6/\c6<c4] (leaf normal ([c11,c7,int i64 t,own 69633 3 0 2,int i64 c6],[(69633,ay.mk true true 3 2 fun i=>nth [rat (-c14) 64,rat ((↑(1:Int):Rat)-c14) (c15+64+1)] (rat 0 1) i),(0,ay.mk false true 2 1 fun x=>agg [c13,int i64 c23])])))))))):=ag
theorem aaX {n:Nat} {z:Nat->Int} {a t r:Int} {p q:PP}:aH T o7 [46] 60 nY [part qo [1,1,1,0,0]] ⟨aE nY (o8 p q t r),je n z a,1⟩=
  let c5:Nat:=q.fst-1;let c4:Nat:=p.fst-1;let c3:AV:=ptr 0 0 2 0 [];let c2:AV:=aq 3 q.fst fun i=>rat (q.snd i) ah;let c1:Nat×ay:=(0,ay.mk false true 2 1 fun x=>agg [aq 1 n fun i=>int i64 (z i),int i64 a]);some (fork (decide (r>0)) (aj [dU (fun i=>rat (p.snd i) ah) p.fst ah,dU (fun i=>rat (q.snd i) ah) q.fst ah,(1:Nat)<=p.fst,(1:Nat)<=q.fst,p.fst+q.fst<=42,zC c4 c5 (fun i=>aW (rat (p.snd i) ah)) fun i=>aW (rat (q.snd i) ah)] (aj [-(2:Int)^63<=r-1/\r-1<(2:Int)^63] (leaf normal ([c3,aq 3 (c4+c5+1) fun i=>rat (j4 c4 c5 (fun i=>aW (rat (p.snd i) ah)) (fun i=>aW (rat (q.snd i) ah)) i) ah,int i64 t,c2,int i64 (r-1)],[c1])))) (leaf (exit 3) ([c3,aq 3 p.fst fun i=>rat (p.snd i) ah,int i64 t,c2,int i64 r],[c1]))):=ag
theorem Pw {n:Nat} {z:Nat->Int} {a t r:Int} {p q:PP}:aH T o7 [] 60 lD [part ql [1,1]] ⟨aE nY (o8 p q t r),je n z a,1⟩=
  some (aj [-(2:Int)^63<=t-1/\t-1<(2:Int)^63] (leaf normal ([ptr 0 0 2 0 [],aq 3 p.fst fun i=>rat (p.snd i) ah,int i64 (t-1)],[(0,ay.mk false true 2 1 fun x=>agg [aq 1 n fun i=>int i64 (z i),int i64 a])]))):=ag
theorem adI {n:Nat} {z:Nat->Int} {a t:Int} {p:PP}:Bl T o7 [] 60 f13 [part sn [1,1,1]] ⟨aE lD (qv p t),je n z a,1⟩=
  some (leaf ret ([aq 3 p.fst fun i=>rat (p.snd i) ah],some (ay.mk false true 2 1 fun x=>agg [aq 1 n fun i=>int i64 (z i),int i64 a]))):=ag
theorem acI:bA P K7 55:=by
 refine cP fun K args r hk hs _=>?_
 split at hs
 ·rename_i n f
  simp only[ax]at hs
  subst hs
  intro need
  obtain⟨h1,h2,h3,h4,h5⟩:=need
  exact gY (CX h1 h2 h4 h5 K) hk ⟨tA rfl h3,trivial⟩ [] trivial
 ·simp at hs
theorem qW:bT P o7:=jM (aN Ct (aN aaT (aN acI (aN QT (aN C1 (aN aak o4))))))
theorem dB.poly {n:Nat} {f:Nat->AV} {a d:Int} (h:dB n f a):dB n f (sU n f a d):=h.next.numbers _
theorem dB.jB {n:Nat} {f:Nat->AV} {a:Int} (h:dB n f a):dB n f (jB n f a):=by
 unfold Go.Am.B.jB
 split
 ·exact h.next.poly
 ·split
  ·exact h.next.next.next
  ·exact h.next.next
theorem dB.eV {n:Nat} {f:Nat->AV} {a:Int} (h:dB n f a):∀i,dB n f (eV n f a i).2
 |0=>h.next
 |i+1=>(h.eV i).jB.next
theorem ED {n i:Nat} {c d:Nat->Rat}:∀{k:Nat},(∀j,j<k->c j=d j)->jK n c i k=jK n d i k
 |0,_=>rfl
 |k+1,h=>by
  show jK n c i k+_*c k=jK n d i k+_*d k
  rw[ED fun j hj=>h j aa,h k aa]
theorem acP {n i:Nat} {c d:Nat->Rat} (hi:i<n) (h:∀j,j<n->c j=d j):eJ n c i=eJ n d i:=ED fun j hj=>h j aa
theorem jG.congr {n:Nat} {c d:Nat->Rat} (hz:jG n c) (h:∀j,j<n->c j=d j):jG n d:=fun i k hi hk=>by rw[<-ED (c:=c) fun j hj=>h j aa];exact hz i k hi hk
theorem CN {x:Int} (h1:0<=x) (h2:x<3):i64.wrap (x.tdiv 2)=x/2:=by
 rw[Int.tdiv_eq_ediv_of_nonneg h1]
 exact wrap_i64 aa aa
theorem Su {k n:Nat} {z:Nat->Int} {a:Int} {o:ay} (ho:∀ρ,dG ρ o (pg n z a)) (h:dB n (fun i=>.int .i64 (z i)) a) (hz:zo n (fun i=>.int .i64 (z i)) a) (K:Nat):
  aQ P 13 K [.ptr k 0 2 0 []] [(k,o)] ⟨aX (l6 n (fun i=>.int .i64 (z i)) a),[(k,pg n z (CC n (fun i=>.int .i64 (z i)) a))],[]⟩:=by
 have hW:=dI
 refine Lt hT MK rfl rfl bp ho (fun _ c hk=>?_) K
 obtain⟨f,hf⟩:∃f:Nat->AV,f=fun i=>.int .i64 (z i):=⟨_,rfl⟩
 rw[<-hf]at h hz ⊢
 refine au.H7 hT qW hm (x:=sn) [1,1] ag ag MK.dst (f1:=[]) 60 [0,3] ⟨_,SI,?_⟩
 simp only[af.all,aA]
 refine⟨aa,fun s1 hv1=>?_⟩
 refine au.uj (kp:=[0]) hk (vs:=[.ptr 0 0 2 0 [],.own 1 3 0 1]) (ps:=[(1,⟨true,true,3,1,fun _=>.rat ((1:Int):Rat) (max 1 (bP (Int.natAbs 1)))⟩),(0,pg n z a)]) (nx:=2) [(0,0),(1,8193)] hv1 rfl ⟨⟨rfl,g7 rfl⟩,⟨rfl,en rfl rfl rfl⟩,trivial⟩ (bH rfl rfl rfl (fun i hi=>by obtain rfl:i=0:=aa;exact bX rfl rfl) (dY trivial)) ?_
 refine au.cY (t:=3) (k:=1) rfl rfl rfl rfl ?_
 refine au.uj (kp:=[0]) hk (L:=[0,3]) (vs:=[.ptr 0 0 2 0 [],aX (eV n f a 0).1]) (ps:=je n z a) (nx:=1) [(0,0)] rfl rfl ⟨⟨rfl,g7 rfl⟩,⟨rfl,jb rfl (iz fun i hi=>dD rfl (by rw[hW];decide))⟩,trivial⟩ (dY trivial) ?_
 obtain⟨N,hN⟩:∃N,N=oG n f a:=⟨_,rfl⟩
 have a1:=jE (n:=n) (f:=f) (a:=a) (m:=4) aa
 have a2:=jF (n:=n) (f:=f) (a:=a) (m:=4) aa
 have hN2:cJ n f a 4=(N:Int)-((0:Nat):Int):=by rw[hN];unfold oG;omega
 have hN3:N<=3:=aa
 refine au.Ui hT qW hm (x:=part sn [1,1]) [0,1] (i:=0) (y:=ql) (z:=part sn [1,1,1]) ag ag ag ag hk (f1:=[]) 60 lD 1 (fun i:Nat=>qv (eV n f a i).1 ((N:Int)-i)) (fun i=>je n z (eV n f a i).2) (fun i=>i<=N) (fun i=>i=N) (fun i=>N-i) (fun _=>False)
  ⟨_,VR,?_⟩ (fun i hi=>?_) (fun i hi=>?_) (fun _ _ h=>h.elim)
 ·have hN4:cJ n (fun i=>.int .i64 (z i)) a 4=(N:Int)-((0:Nat):Int):=by rw[<-hf];exact hN2
  simp only[af.all,aA,hN4]
  exact⟨⟨hf▸h,aa,aa⟩,0,Nat.zero_le _,[(0,0)],rfl,rfl,rfl,dY trivial⟩
 ·have hS:=h.eV i
  obtain⟨b,hb⟩:∃b,b=(eV n f a i).2:=⟨_,rfl⟩
  obtain⟨p,hp⟩:∃p,p=(eV n f a i).1:=⟨_,rfl⟩
  rw[<-hb]at hS
  refine au.CR hT qW hm (y:=ql) [1,0] (j:=1) (x1:=qo) (zb:=part ql [1,1]) ag ag ag ag hk (f1:=[13]) 60 lD 1 (fun _:Unit=>qv p ((N:Int)-i)) (fun _=>je n z b) (fun _=>i<N) ⟨_,aeX,?_⟩ (fun _ hG=>?_)
  ·simp only[af.all,bK,bO]
   rw[hp,hb]
   refine⟨fun h2=>⟨(),aa,[(0,0)],rfl,rfl,rfl,dY trivial⟩,fun h2 s' hv=>⟨rfl,i,aa,fU.le ⟨[(0,0)],rfl,rfl,rfl,dY trivial⟩ hv hk⟩⟩
  ·obtain⟨z1,z2⟩:=hz i aa
   rw[<-hb,<-hp]at z2
   rw[<-hb]at z1
   obtain⟨q,hq⟩:∃q,q=r9 n f b:=⟨_,rfl⟩
   obtain⟨r,hr⟩:∃r,r=p8 n f b:=⟨_,rfl⟩
   rw[<-hq,<-hr]at z2
   have b1:=jE (n:=n) (f:=f) (a:=jB n f b) (m:=3) aa
   have b2:=jF (n:=n) (f:=f) (a:=jB n f b) (m:=3) aa
   have hr2:(r:Int)=1+cJ n f (jB n f b) 3/2:=by rw[hr];unfold p8;omega
   have key:au P c f13.ntmps (part qo [1,1,1]) ⟨aE nY (o8 p q ((N:Int)-i) r),je n z (oK n f b),1⟩ (inBlock 1 (fk (fun s'=>au P c f13.ntmps (part ql [1,1]) s' (rM c lD (fun i:Nat=>qv (eV n f a i).1 ((N:Int)-i)) (fun i=>je n z (eV n f a i).2) 1 (fun i=>i<=N) (fun i=>i=N) (fun i=>N-i) 0 (fun s'=>∃v,False/\bh lD s'=some v) i)) (rM c lD (fun i:Nat=>qv (eV n f a i).1 ((N:Int)-i)) (fun i=>je n z (eV n f a i).2) 1 (fun i=>i<=N) (fun i=>i=N) (fun i=>N-i) 0 (fun s'=>∃v,False/\bh lD s'=some v) i))):=by
    refine au.By hT qW hm (x:=part qo [1,1,1]) [] (i:=3) (y:=part qo [1,1,1,0,0]) ag ag ag hk (f1:=[]) (f2:=[46]) 60 nY 1 (fun j:Nat=>o8 (gL p q j) q ((N:Int)-i) ((r:Int)-j)) (fun _=>je n z (oK n f b)) (fun j=>j<=r) (fun j=>j=r) (fun j=>r-j) (fun _=>False) ⟨_,abx,?_⟩ (fun j hj=>⟨_,aaX,?_⟩) (fun j s' hj hle=>?_) (fun _ _ h=>h.elim)
    ·simp only[af.all]
     exact⟨0,Nat.zero_le _,[(0,0)],rfl,by show _=List.map (kS [(0,0)]) (o8 p q ((N:Int)-i) ((r:Int)-((0:Nat):Int)));rw[show(r:Int)-((0:Nat):Int)=r by omega];rfl,rfl,dY trivial⟩
    ·simp only[af.all,aA,bK,bO]
     refine⟨fun h2=>⟨⟨eG aS,eG aS,z2 j aa⟩,aa,j+1,aa,by dsimp only;omega,[(0,0)],rfl,?_,rfl,dY trivial⟩,fun h2=>⟨rfl,j,aa,[(0,0)],rfl,rfl,rfl,dY trivial⟩⟩
     rw[show(r:Int)-(j:Int)-1=(r:Int)-((j+1:Nat):Int) by omega];rfl
    ·subst hj
     show au P c _ (part ql [1,1]) s' _
     refine au.mU hle (au.bJ hT qW hm 60 lD Pw ag ?_)
     have e1:(eV n f a (i+1)).1=gL p q j:=by show gL (eV n f a i).1 (r9 n f (eV n f a i).2) (p8 n f (eV n f a i).2)=_;rw[<-hb,<-hp,<-hq,<-hr]
     have e2:(eV n f a (i+1)).2=oK n f b:=by show oK n f (eV n f a i).2=_;rw[<-hb]
     simp only[af.all,aA]
     refine⟨aa,fun s'' hv=>⟨i+1,hG,by dsimp only;omega,fU.le ⟨[(0,0)],rfl,?_,rfl,?_⟩ hv hk⟩⟩
     ·show _=List.map (kS [(0,0)]) (qv (eV n f a (i+1)).1 ((N:Int)-((i+1:Nat):Int)))
      rw[e1,show(N:Int)-(i:Int)-1=(N:Int)-((i+1:Nat):Int) by omega];rfl
     ·show jN 1 [(0,0)] _ (je n z (eV n f a (i+1)).2)
      rw[e2];exact dY trivial
   subst hf
   refine au.H7 hT qW hm (x:=qo) [1,1,1] ag ag ag (f1:=[27,31]) 60 nY ⟨_,Pn,?_⟩
   simp only[af.all,aA,beq_iff_eq,beq_eq_false_iff_ne,ne_eq]
   refine⟨⟨hS,aa,aa⟩,fun k0=>?_,fun k0=>⟨fun k1=>?_,fun k1=>?_⟩⟩
   ·have eB:sU n (fun i=>.int .i64 (z i)) (bF n b) 2=jB n (fun i=>.int .i64 (z i)) b:=(if_pos k0).symm
    have eq:q=(pH n (fun i=>.int .i64 (z i)) (bF n b) 2,qL n (fun i=>.int .i64 (z i)) (bF n b)):=by rw[hq];exact if_pos k0
    simp only[eB,CN b1 b2,<-hr2]
    refine⟨⟨hS.next,aa,aa⟩,⟨hS.jB,aa,aa,aa,aa⟩,fun s' hv=>?_⟩
    refine au.uj (kp:=[0]) hk (vs:=o8 p q ((N:Int)-i) r) (ps:=je n z (oK n (fun i=>.int .i64 (z i)) b)) (nx:=1) [(0,0)] hv rfl ⟨⟨rfl,g7 rfl⟩,aO,aO,⟨rfl,jb rfl ?_⟩,aO,trivial⟩ (dY trivial) key
    rw[eq];exact iz fun i hi=>dD rfl aa
   ·have eB:bF n (bF n (bF n b))=jB n (fun i=>.int .i64 (z i)) b:=((if_neg k0).trans (if_pos k1)).symm
    have eq:q=(3,eJ 3 (eu (fV n (fun i=>.int .i64 (z i)) (bF n b)))):=by rw[hq];exact(if_neg k0).trans (if_pos k1)
    have u1:=jE (n:=n) (f:=fun i=>.int .i64 (z i)) (a:=bF n b) (m:=4) aa
    have u2:=jF (n:=n) (f:=fun i=>.int .i64 (z i)) (a:=bF n b) (m:=4) aa
    have v1:=jE (n:=n) (f:=fun i=>.int .i64 (z i)) (a:=bF n (bF n b)) (m:=5) aa
    have v2:=jF (n:=n) (f:=fun i=>.int .i64 (z i)) (a:=bF n (bF n b)) (m:=5) aa
    have zz:∀j,j<3->intOf (nth [.int .i64 (0-cJ n (fun i=>.int .i64 (z i)) (bF n b) 4),.int .i64 0,.int .i64 (1+cJ n (fun i=>.int .i64 (z i)) (bF n (bF n b)) 5)] (.int .i64 0) (j+0))=fV n (fun i=>.int .i64 (z i)) (bF n b) j:=fun j hj=>by
     rcases(show j=0\/j=1\/j=2 by omega)with rfl|rfl|rfl
     ·show 0-_=-_;omega
     ·rfl
     ·rfl
    have zb:∀j,-2^62<=fV n (fun i=>.int .i64 (z i)) (bF n b) j/\fV n (fun i=>.int .i64 (z i)) (bF n b) j<2^62:=fun j=>by
     unfold fV;split
     ·omega
     ·split<;>omega
    have zc:∀j,j<3->eu (fV n (fun i=>.int .i64 (z i)) (bF n b)) j=eu (fun j=>intOf (nth [.int .i64 (0-cJ n (fun i=>.int .i64 (z i)) (bF n b) 4),.int .i64 0,.int .i64 (1+cJ n (fun i=>.int .i64 (z i)) (bF n (bF n b)) 5)] (.int .i64 0) (j+0))) j:=fun j hj=>by
     show((fV n _ (bF n b) j:Int):Rat)=((intOf _:Int):Rat)
     rw[zz j hj]
    simp only[eB,CN b1 b2,<-hr2,wrap_i64 (show-2^63<=0-cJ n (fun i=>.int .i64 (z i)) (bF n b) 4 by omega) aa]
    refine⟨⟨hS.next,aa,aa,hS.next.next,aa,aa,aa,aa,aa,aa,fun j hj=>?_,fun j hj=>by rw[zz j hj];exact zb j,(z1 k1).congr zc⟩,⟨hS.jB,aa,aa,aa,aa⟩,fun s' hv=>?_⟩
    ·rcases(show j=0\/j=1\/j=2 by omega)with rfl|rfl|rfl<;>rfl
    ·refine au.uj (kp:=[0]) hk (vs:=o8 p q ((N:Int)-i) r) (ps:=je n z (oK n (fun i=>.int .i64 (z i)) b)) (nx:=1) [(0,0)] hv rfl ⟨⟨rfl,g7 rfl⟩,aO,aO,⟨rfl,jb rfl ?_⟩,aO,trivial⟩ (dY trivial) key
     rw[eq];exact iz fun j hj=>dD (acP hj zc).symm aS
   ·have eB:bF n (bF n b)=jB n (fun i=>.int .i64 (z i)) b:=((if_neg k0).trans (if_neg k1)).symm
    have eq:q=(2,fun i=>if i=0 then-lJ (cJ n (fun i=>.int .i64 (z i)) (bF n b) 400)else 1-lJ (cJ n (fun i=>.int .i64 (z i)) (bF n b) 400)):=by rw[hq];exact(if_neg k0).trans (if_neg k1)
    have hb1:bP (Int.natAbs 1)=1:=by decide
    simp only[eB,CN b1 b2,<-hr2]
    refine⟨⟨hS.next,aa,aa,aa⟩,⟨aa,aa,aa,aa,by rw[hb1];omega,aa,aa⟩,⟨hS.jB,aa,aa,aa,aa⟩,fun s' hv=>?_⟩
    refine au.uj (kp:=[0]) hk (vs:=[.ptr 0 0 2 0 [],aX p,.int .i64 ((N:Int)-i),.own 1 3 0 2,.int .i64 r]) (ps:=[(1,⟨true,true,3,2,fun j=>.rat (q.2 j) ah⟩),(0,pg n z (oK n (fun i=>.int .i64 (z i)) b))]) (nx:=2) [(0,0),(1,69633)] hv rfl ⟨⟨rfl,g7 rfl⟩,aO,aO,⟨rfl,en rfl rfl rfl⟩,aO,trivial⟩ (bH rfl rfl rfl (fun j hj=>?_) (dY trivial)) ?_
    ·rw[eq]
     rcases(show j=0\/j=1 by omega)with rfl|rfl
     ·exact .inr ⟨rfl,dD rfl aa⟩
     ·exact .inr ⟨rfl,dD rfl (by rw[hb1,hW];decide)⟩
    ·refine au.cY (t:=5) (k:=1) rfl rfl rfl rfl ?_
     refine au.uj (kp:=[0]) hk (L:=nY) (vs:=o8 p q ((N:Int)-i) r) (ps:=je n z (oK n (fun i=>.int .i64 (z i)) b)) (nx:=1) [(0,0)] rfl rfl ⟨⟨rfl,g7 rfl⟩,aO,aO,⟨rfl,jb rfl ?_⟩,aO,trivial⟩ (dY trivial) key
     have e1:q.1=2:=by rw[eq]
     show bG (.aq 3 2 fun j=>.rat (q.2 (j+0)) ah) (.aq 3 q.1 fun j=>.rat (q.2 j) ah)
     rw[e1];exact iz fun j hj=>.refl _
 ·subst hi
  refine au.m7 (aF.Oq hT qW hm 60 adI ag ?_)
  simp only[af.all,aA]
  exact⟨by unfold l6;rw[<-hN];exact .refl _,_,rfl,rfl,uP rfl (by unfold CC;rw[<-hN])⟩
theorem Yp:bA P (mw DU) 13:=by
 refine zI fun {k n z a l v b q o} K hg ho hd hq=>?_
 unfold DU at hg
 split at hg
 ·simp only[ax,Prod.mk.injEq]at hg
  obtain⟨rfl,rfl,rfl⟩:=hg
  exact Su ho hd hq K
 ·simp at hg
end Go.Am.B
