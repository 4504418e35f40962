/- g8.inner, g8.Insert. -/
import Derived.Test.YtppeigelbecpbaaGreatY50
import Derived.Test.YtppeigelbecpbaaGreatY48
set_option linter.unusedVariables false
namespace Go.Am.B
open Go Go.Am.N AV aa ak IntKind
theorem XM:aO P Cx Aw (au Aw):=aP aeE (by kernel_rfl) (by kernel_rfl) (by kernel_rfl)
theorem XZ:aO P C2 yD (au yD):=aP abp (by kernel_rfl) (by kernel_rfl) (by kernel_rfl)
noncomputable def IG:aR:=nG::(qW,Dh)::eU
def OS:Spec:=cJ (kC (gx 2000 2000) (kC (iG 2000) kN)) (fun a=>.bool (decide (a.1.k 0<a.2.1)&&decide (a.2.1<a.1.k (a.1.n-1)))) fun a=>[dY a.1]
def PO:Spec:=cJ (kC (gx 2000 2000) kN) (fun a=>fE ⟨a.1.p,a.1.n,a.1.k,a.1.m,fun i=>jw (a.1.f i)⟩ 2000 4000) fun a=>[a.1.n<2^40,a.1.m<2^30]
noncomputable def JX:aR:=nG::(Cx,OS)::(rJ,EM)::(qL,PO)::(CB,Oc)::(AB,NV)::[]
def kU (c:Cu) (t:Rat):Int:=if¬(c.k 0<t∧t<c.k (c.n-1))then 7 else if c.p≤(dL c.k t c.n:Int)then 5 else if 40≤c.m then 2 else 0
def EH (c:Cu) (t:Rat):Cu:=⟨c.p,c.n+1,jd c.k t (gD c.k t c.n),c.n+1-c.p.toNat-1,fun i=>jz ((yR ⟨c.p,c.n,c.k,c.m,fun i=>jw (c.f i)⟩ t).f i)⟩
def Eb:Cu:=⟨0,0,fun _=>0,0,fun _=>⟨⟨0,0,0⟩,0⟩⟩
def wW (c:Cu) (t:Rat):Cu:=if kU c t=0 then EH c t else Eb
theorem acO {c:Cu} {t:Rat}:bC T IG [16] 60 Aw (au Aw) ⟨aN 0 [bE c 2000 2000,.rat t 2000],[],0⟩=
  let c9:Prop:=eM (fun i↦bw (c.f i) 2000) c.m sJ;let c8:Prop:=bP (fun i↦rat (c.k i) 2000) c.n sJ;let c7:Prop:=(0:Int)≤(0:Int)∧Int.toNat (0:Int)<c.n;let c5:Prop:=dY (Cu.mk c.p c.n (fun i↦aT (rat (c.k i) 2000)) c.m fun i↦dP (bw (c.f i) 2000));let c4:Int:=(↑c.n:Int)-(1:Int);let c3:Prop:=0<1;let c2:Int:=dZ (c.k (Int.toNat (0:Int))) t;let c1:Prop:=2000<2^42;let c6:Bool:=bif true then decide (c2<(0:Int))else false;some (fork c6 (ag [c3,c8,c9,c5,c3,c7,c3,c1,c1,c6=true,c3,c3,c3,-(2:Int)^63≤c4∧c4<(2:Int)^63,(0:Int)≤c4∧c4.toNat<c.n,c1,c1] (leaf ret [AV.bool (bif true then decide (dZ t (c.k c4.toNat)<(0:Int))else false)])) (ag [c3,c8,c9,c5,c3,c7,c3,c1,c1,c6=false] (leaf ret [AV.bool false]))):=by kernel_rfl
theorem ZK {c:Cu} {t:Rat}:bC T JX [6,12,21] 60 yD (au yD) ⟨aN 0 [bE c 2000 2000,.rat t 2000],[],0⟩=
  let no:Int→aa (List AV):=fun e=>ag [0<1] (ag [0<1] (leaf .ret [.agg [.int .i64 0,.nil,.nil],.int .i64 e]));let k:Prop:=bP (fun i=>.rat (c.k i) 2000) c.n 2000;let f:Prop:=eM (fun i=>bw (c.f i) 2000) c.m 2000
  some (ag [0<1,0<1,k,f,2000≤2000,dY c] (fork (!(decide (c.k 0<t)&&decide (t<c.k (c.n-1)))) (no 7) (ag [0<1,0<1,bP (fun i=>.rat (c.k i) 2000) c.n sK,2000≤sK,c.n<2^40,0<1] (fork (decide ((dL c.k t c.n:Int)≥c.p)) (no 5) (ag [0<1] (fork (decide ((c.m:Int)≥40)) (no 2)
   (ag [0<1,k,f,c.n<2^40,c.m<2^30,0<1,k,oE (fun i=>dw (jw (c.f i)) 4000) c.m 4000,2000≤2000,Kn c.n c.p.toNat c.k,1≤c.p,c.p≤6,c.n<2^28,c.m<2^40,bP (fun i=>.rat (jd c.k t (gD c.k t c.n) i) sK) (c.n+1) sK,oE (fun i=>dw ((yR ⟨c.p,c.n,c.k,c.m,fun i=>jw (c.f i)⟩ t).f i) sB) (c.n+1-c.p.toNat-1) sB,c.n+1<2^40,c.n+1-c.p.toNat-1<2^29,0<1] (ag [0<1] (leaf .ret [bE (EH c t) (sK+10) (sB+sB),.int .i64 0]))))))))):=by kernel_rfl
theorem Sq:aX P IG:=cC (aJ Gs fC)
theorem afg {a b:Rat}:dZ a b<(0:Int)↔a<b:=nS
theorem afW:∀K args pre r,OS K args pre=some r→aA P Cx K args pre r:=cz fun⟨c,t,_⟩ K hn=>by
 have hc:dY c:=hn
 obtain⟨h1,h2,h3,h4,h5⟩:=id hc
 have hl:=h1.len
 refine bF (r:=aI (.bool (decide (c.k 0<t)&&decide (t<c.k (c.n-1)))) []) hT Sq hm XM rfl (of_decide_eq_true (by kernel_rfl)) rfl 60 acO (fun _=>?_) K []
 have e1:((c.n:Int)-1).toNat=c.n-1:=by omega
 simp only[aa.all,ax,e1,Int.toNat_zero,cond_true,cond_false,decide_eq_true_eq,decide_eq_false_iff_not,afg]
 refine⟨fun h=>?_,fun h=>?_⟩
 ·(repeat' with_reducible refine And.intro ?_ ?_)
  all_goals first|omega|exact cU (by decide)|exact iB (by decide)|exact hc|exact h|decide|skip
  exact eV (by rw[decide_eq_true h,Bool.true_and])
 ·(repeat' with_reducible refine And.intro ?_ ?_)
  all_goals first|omega|exact cU (by decide)|exact iB (by decide)|exact hc|exact h|decide|skip
  exact eV (by rw[decide_eq_false h,Bool.false_and])
theorem ZS:∀K args pre r,PO K args pre=some r→aA P qL K args pre r:=cz fun⟨c,_⟩ K hn=>Lq (by decide) (by decide) (by decide) hn.1 hn.2 K
theorem acF:aX P JX:=cC (aJ afW (aJ Ip (aJ ZS (aJ Z1 (aJ VO bn)))))
theorem afQ {x y:Nat}:bA (.agg [.int .i64 0,.nil,.nil]) (bE Eb x y):=bQ ⟨.refl _,iJ (by decide),iJ (by decide),trivial⟩
def P5:Spec:=cJ (kC (gx 2000 2000) (kC (iG 2000) kN)) (fun a=>.tuple [bE (wW a.1 a.2.1) (sK+10) (sB+sB),.int .i64 (kU a.1 a.2.1)]) fun a=>[dY a.1]
theorem Sn:∀K args pre r,P5 K args pre=some r→aA P C2 K args pre r:=cz fun⟨c,t,_⟩ K hn=>by
 have hc:dY c:=hn
 obtain⟨h1,h2,h3,h4,h5⟩:=id hc
 have hl:=h1.len
 refine bF (r:=aI (.tuple [bE (wW c t) (sK+10) (sB+sB),.int .i64 (kU c t)]) []) hT acF hm XZ rfl (of_decide_eq_true (by kernel_rfl)) rfl 60 ZK (fun _=>?_) K []
 have no:∀{e:Int},kU c t=e→e≠0→dx [.agg [.int .i64 0,.nil,.nil],.int .i64 e] (.tuple [bE (wW c t) (sK+10) (sB+sB),.int .i64 (kU c t)]):=fun {e} he h0=>by
  refine⟨?_,bt he.symm,trivial⟩
  rw[show wW c t=Eb from if_neg (by rw[he];exact h0)]
  exact afQ
 simp only[aa.all,ax,decide_eq_true_eq,decide_eq_false_iff_not,Bool.not_eq_true',Bool.not_eq_false',Bool.and_eq_true,Bool.and_eq_false_iff]
 refine⟨⟨by omega,by omega,cU (Nat.le_refl _),iB (Nat.le_refl _),Nat.le_refl _,hc⟩,fun ho=>⟨by omega,by omega,no ?_ (by decide)⟩,fun hi=>⟨?_,fun h6=>⟨by omega,by omega,no ?_ (by decide)⟩,fun h6=>⟨by omega,fun h7=>⟨by omega,by omega,no ?_ (by decide)⟩,fun h7=>⟨?_,by omega,?_⟩⟩⟩⟩
 ·unfold kU;rw[if_pos fun h=>ho.elim (fun g=>g h.1) fun g=>g h.2]
 ·exact⟨by omega,by omega,cU (by decide),by decide,by omega,by omega⟩
 ·unfold kU;rw[if_neg (fun g=>g hi),if_pos h6]
 ·unfold kU;rw[if_neg (fun g=>g hi),if_neg h6,if_pos (by omega)]
 ·(repeat' with_reducible refine And.intro ?_ ?_)
  all_goals first|omega|exact cU (by decide)|exact iB (Nat.le_refl _)|exact NT (Nat.le_refl _)|exact h1|exact Nat.le_refl _|skip
 ·have he:kU c t=0:=by unfold kU;rw[if_neg (fun g=>g hi),if_neg h6,if_neg (by omega)]
  refine⟨?_,bt he.symm,trivial⟩
  rw[show wW c t=EH c t from if_pos he]
  exact .refl _
end Go.Am.B

/- rational.Valid, rational.Bits; the closures of g8.Check; slices.Clone, g8.numbers, g8.Check. -/
namespace Go.Am.B
open Go Go.Am.N AV aa ak IntKind
theorem aiF:aO P AQ xA (au xA):=aP VP (by kernel_rfl) (by kernel_rfl) (by kernel_rfl)
theorem agr:aO P zK xT (au xT):=aP acw (by kernel_rfl) (by kernel_rfl) (by kernel_rfl)
theorem agN:aO P vE yF (au yF):=aP aak (by kernel_rfl) (by kernel_rfl) (by kernel_rfl)
theorem agu:aO P rH CJ (au CJ):=aP Vg (by kernel_rfl) (by kernel_rfl) (by kernel_rfl)
theorem W4:aO P hU vf (au vf):=aP WI (by kernel_rfl) (by kernel_rfl) (by kernel_rfl)
theorem ahx:aO P fP zU (au zU):=aP Sh (by kernel_rfl) (by kernel_rfl) (by kernel_rfl)
theorem aip:aO P gO xy (au xy):=aP ZE (by kernel_rfl) (by kernel_rfl) (by kernel_rfl)
theorem PD:aO P xC xN (au xN):=aP aje (by kernel_rfl) (by kernel_rfl) (by kernel_rfl)
theorem aaR:aO P wU yu (au yu):=aP QE (by kernel_rfl) (by kernel_rfl) (by kernel_rfl)
theorem ZO:aO P CE x8 (au x8):=aP ag5 (by kernel_rfl) (by kernel_rfl) (by kernel_rfl)
theorem ae6:aO P BU Ad (au Ad):=aP TM (by kernel_rfl) (by kernel_rfl) (by kernel_rfl)
theorem abX:aO P uw yh (au yh):=aP ai2 (by kernel_rfl) (by kernel_rfl) (by kernel_rfl)
theorem agA:aO P Du vh (au vh):=aP adr (by kernel_rfl) (by kernel_rfl) (by kernel_rfl)
def LB:Spec:=bB fun l=>match l with
 |[.mag N]=>some (aI (.bool true) [nl N<2^40])
 |_=>none
def D6:aR:=nG::(AQ,LB)::(rY,bB (j3 E0))::(rI,bB (gm Ft))::(su,Gm)::[]
def Lb:Spec:=bB fun l=>match l with
 |[.rat q n]=>some (aI (.bool true) [n<2^44])
 |_=>none
def Ib:Spec:=bB fun l=>match l with
 |[.rat q n]=>some (aI (.int .i64 (cq q:Nat)) [n<2^44])
 |_=>none
def AT:Spec:=bB fun l=>match l with
 |[.rat q n]=>some (aI (.bool false) [n≤2048])
 |_=>none
def Ci:aR:=nG::(zK,Lb)::(vE,Ib)::eU
def ael (s:Nat):Kind Pl:=⟨fun v=>match DD v with
 |some (a,q)=>some (a.1,q++[a.2≤s])
 |none=>none,fun a=>bw a s,fun {v a q} h hq=>by
  split at h
  ·rename_i b q' hb
   simp only[Option.some.injEq,Prod.mk.injEq]at h
   obtain⟨rfl,rfl⟩:=h
   obtain⟨q1,q2⟩:=cE.1 hq
   refine bA.trans (kPl.ok hb q1) ?_
   show bA (bw b.1 b.2) (bw b.1 s)
   exact bQ ⟨bQ ⟨eW q2,eW q2,eW q2,trivial⟩,eW q2,trivial⟩
  ·simp at h⟩
def Nr:Spec:=cJ (kC (ael 2048) kN) (fun _=>.bool false) fun a=>[0<a.1.d]
def C8:Kind FuncId:=⟨fun v=>match v with
 |.func f []=>some (f,[])
 |_=>none,fun g=>.func g [],fun {v a q} h _=>by
  split at h
  ·simp only[Option.some.injEq,Prod.mk.injEq]at h
   obtain⟨rfl,rfl⟩:=h
   exact .refl _
  ·simp at h⟩
noncomputable def GX:aR:=nG::(hU,AT)::(gO,AT)::(fP,Nr)::[]
abbrev jE:List Nat:=[4,0,1,7,8]
abbrev wF (n i:Nat) (k:Nat→Rat) (g:FuncId):List AV:=[.int .i64 0,aV k n 2048,.func g [],.int .i64 n,.int .i64 i]
abbrev HL (n i:Nat) (f:Nat→Pl) (g:FuncId):List AV:=[.int .i64 0,eZ f n 2048,.func g [],.int .i64 n,.int .i64 i]
noncomputable abbrev nX:Code:=au xN
noncomputable abbrev ue:Code:=au yu
noncomputable def KV:Spec:=cJ (kC (kL 2048) (kC C8 kN)) (fun _=>.int .i64 (-1)) fun a=>[a.1.1<2^40,a.2.1=hU∨a.2.1=gO]
noncomputable def Io:Spec:=cJ (kC (kL 2048) (kC C8 kN)) (fun _=>.bool false) fun a=>[a.1.1<2^40,a.2.1=hU∨a.2.1=gO]
noncomputable def GY:aR:=nG::(xC,KV)::[]
def HY:Spec:=oM fun K l=>match l with
 |[v]=>match(kL 2048).read v with
  |some ((n,k),q)=>some ⟨.own K 3 0 n,[(K,⟨true,true,3,n,fun i=>.rat (k i) 2048⟩)],q++[1≤n,n<2^30]⟩
  |none=>none
 |_=>none
def jv (c:Cu) (j:Nat):Rat:=if j<c.n then c.k j else nP (c.f ((j-c.n)/4)) ((j-c.n)%4)
def Br:aR:=nG::(rH,HY)::[]
abbrev zB:List Nat:=[2,3,10,11,12]
abbrev G6 (c:Cu) (i:Nat):List AV:=[.nil,.own 0 3 0 (c.n+4*i),eZ c.f c.m 2048,.int .i64 c.m,.int .i64 i]
abbrev FP (c:Cu) (i:Nat):aC:=[(0,⟨true,true,3,c.n+4*i,fun j=>.rat (jv c j) 2048⟩)]
noncomputable abbrev uO:Code:=au yh
def NW:Spec:=cJ (kC (gx 2048 2048) kN) (fun a=>aV (jv a.1) (a.1.n+4*a.1.m) 2048) fun a=>[1≤a.1.n,a.1.n<2^30,a.1.m<2^28]
theorem ahd {N:Nat}:bC T [nG] [6] 60 xA (au xA) ⟨aN 0 [.mag N],[],0⟩=
  let c2:Bool:=(↑(nl N):Int)==(0:Int);let c1:Int:=(↑(nl N):Int)-(1:Int);some (fork c2 (ag [c2=true] (leaf ret [AV.bool true])) (ag [c2=false,-(2:Int)^63≤c1∧c1<(2:Int)^63,(0:Int)≤c1∧c1.toNat<nl N] (leaf ret [AV.bool (bif false then true else(↑(az N c1.toNat):Int)!=(0:Int))]))):=by kernel_rfl
theorem QH {q:Rat} {n:Nat}:bC T D6 [18,25,29,33,43] 60 xT (au xT) ⟨aN 0 [.rat q n],[],0⟩=
  let c9:aa (List AV):=leaf ret [AV.bool false];let c7:Bool:=!decide (q<0);let c6:Nat:=q.num.natAbs;let c4:Nat:=2^40;let c3:Prop:=0<1;let c2:Nat:=if q.den=1 then 0 else q.den;let c5:Int:=(↑(nl c2):Int);let c10:Bool:=c5==(1:Int);let c8:Bool:=c5==(0:Int);let c1:aa (List AV):=ag [c3] (fork ((↑(nl c6):Int)==(0:Int)) (fork c7 (ag [c3,c7=true,c3] (leaf ret [AV.bool (bif true then c8 else false)])) (ag [c3,c7=false] c9)) (fork c8 (ag [c3,c8=true] (leaf ret [AV.bool true])) (ag [c3,c8=false,c3,c3,nl c6<c4,nl c2<c4,nl (c6.gcd c2)<c4] (leaf ret [AV.bool (bif false then true else(↑(br (c6.gcd c2)):Int)==(1:Int))]))));some (fork c10 (ag [c3,nl c6<c4,c3,nl c2<c4,c3,c10=true,c3,(0:Int)≤(0:Int)∧Int.toNat (0:Int)<nl c2] (fork (bif bif !true then true else !true then true else bif true then(↑(az c2 (Int.toNat (0:Int))):Int)==(1:Int)else false) c9 c1)) (ag [c3,nl c6<c4,c3,nl c2<c4,c3,c10=false] (fork false c9 c1))):=by kernel_rfl
theorem V4 {q:Rat} {n:Nat}:bC T D6 [] 60 yF (au yF) ⟨aN 0 [.rat q n],[],0⟩=
  let c2:Int:=(↑(br q.den):Int);let c1:Int:=(↑(br q.num.natAbs):Int);some (ag [(0:Nat)<1,nl q.num.natAbs<2^40,(0:Nat)<1,nl q.den<2^40] (leaf ret [int i64 (if c1<c2 then c2 else c1)])):=by kernel_rfl
theorem Su {q:Rat} {n:Nat}:bC T Ci [] 60 vf (au vf) ⟨aN 0 [.rat q n],[],0⟩=
  some (ag [(0:Nat)<1,n<2^44] (leaf ret [AV.bool false])):=by kernel_rfl
theorem ZC {q:Rat} {n:Nat}:bC T Ci [] 60 xy (au xy) ⟨aN 0 [.rat q n],[],0⟩=
  some (ag [(0:Nat)<1,n<2^44] (leaf ret [AV.bool (decide ((↑(cq q):Int)>(2048:Int)))])):=by kernel_rfl
theorem Rz {p:Pl}:bC T Ci [] 60 zU (au zU) ⟨aN 0 [bw p 2048],[],0⟩=
  some (ag [(0:Nat)<1,(2048:Nat)<2^42] (leaf ret [AV.bool (decide (dS p.d≤(0:Int)))])):=by kernel_rfl
theorem Zy {n s:Nat} {k:Nat→Rat}:aK T [nG] [] 60 [2] [au CJ] ⟨aN 0 [.cY false 3 n (fun i=>.rat (k i) s)],[],0⟩=
  some (ag [(0:Nat)*3≤2^24,((0:Nat)+n)*((56:Nat)+1)*2≤2^47] (leaf ret ([own 20480 3 0 ((0:Nat)+n)],[((20480:Nat),ah.mk true true 3 ((0:Nat)+n) fun i↦rat (k (i-0)) s)]))):=by kernel_rfl
theorem JP {n:Nat} {k:Nat→Rat} {g:FuncId}:aK T GX [] 60 jE (before nX [1,0,1]) ⟨aN 0 [aV k n 2048,.func g []],[],0⟩=
  some (leaf normal ([int i64 (0:Int),aj 3 n fun i↦rat (k i) 2048,func g [],int i64 (↑n:Int),int i64 (0:Int)],[])):=by kernel_rfl
theorem ac7 {n i:Nat} {k:Nat→Rat}:aK T GX [9] 60 jE [part nX [1,0,1,0,0]] ⟨aB jE (wF n i k hU),[],0⟩=
  let c4:Int:=(↑n:Int);let c2:AV:=aj 3 n fun i↦rat (k i) 2048;let c1:Int:=(↑i:Int);let c3:Int:=c1+(1:Int);some (fork (decide (c1<c4)) (ag [(0:Int)≤c1∧c1.toNat<n,(2048:Nat)≤2048] (ag [-(2:Int)^63≤c3∧c3<(2:Int)^63] (leaf normal ([int i64 (0:Int),c2,func hU [],int i64 c4,int i64 c3],[])))) (leaf (exit 0) ([int i64 (0:Int),c2,func hU [],int i64 c4,int i64 c1],[]))):=by kernel_rfl
theorem aa1 {n i:Nat} {k:Nat→Rat}:aK T GX [9] 60 jE [part nX [1,0,1,0,0]] ⟨aB jE (wF n i k gO),[],0⟩=
  let c4:Int:=(↑n:Int);let c2:AV:=aj 3 n fun i↦rat (k i) 2048;let c1:Int:=(↑i:Int);let c3:Int:=c1+(1:Int);some (fork (decide (c1<c4)) (ag [(0:Int)≤c1∧c1.toNat<n,(2048:Nat)≤2048] (ag [-(2:Int)^63≤c3∧c3<(2:Int)^63] (leaf normal ([int i64 (0:Int),c2,func gO [],int i64 c4,int i64 c3],[])))) (leaf (exit 0) ([int i64 (0:Int),c2,func gO [],int i64 c4,int i64 c1],[]))):=by kernel_rfl
theorem P8 {n i:Nat} {k:Nat→Rat} {g:FuncId}:bW T GX [] 60 xN [part nX [1,1]] ⟨aB jE (wF n i k g),[],0⟩=
  some (leaf ret [int i64 (-1:Int)]):=by kernel_rfl
theorem aff {n:Nat} {f:Nat→Pl}:aK T GX [] 60 jE (before ue [1,0,1]) ⟨aN 0 [eZ f n 2048,.func fP []],[],0⟩=
  some (leaf normal ([int i64 (0:Int),aj 12 n fun i↦agg [agg [rat (f i).n.x 2048,rat (f i).n.y 2048,rat (f i).n.z 2048],rat (f i).d 2048],func fP [],int i64 (↑n:Int),int i64 (0:Int)],[])):=by kernel_rfl
theorem agl {n i:Nat} {f:Nat→Pl}:aK T GX [9] 60 jE [part ue [1,0,1,0,0]] ⟨aB jE (HL n i f fP),[],0⟩=
  let c5:Int:=(↑n:Int);let c3:Prop:=2048≤2048;let c2:Int:=(↑i:Int);let c1:AV:=aj 12 n fun i↦agg [agg [rat (f i).n.x 2048,rat (f i).n.y 2048,rat (f i).n.z 2048],rat (f i).d 2048];let c4:Int:=c2+(1:Int);some (fork (decide (c2<c5)) (ag [(0:Int)≤c2∧c2.toNat<n,c3,c3,Max.max 2048 2048≤2048,(0:Rat)<(f c2.toNat).d] (ag [-(2:Int)^63≤c4∧c4<(2:Int)^63] (leaf normal ([int i64 (0:Int),c1,func fP [],int i64 c5,int i64 c4],[])))) (leaf (exit 0) ([int i64 (0:Int),c1,func fP [],int i64 c5,int i64 c2],[]))):=by kernel_rfl
theorem afS {n i:Nat} {f:Nat→Pl}:bW T GX [] 60 yu [part ue [1,1]] ⟨aB jE (HL n i f fP),[],0⟩=
  some (leaf ret [int i64 (-1:Int)]):=by kernel_rfl
theorem Qj {n:Nat} {k:Nat→Rat} {g:FuncId}:bC T GY [] 60 x8 (au x8) ⟨aN 0 [aV k n 2048,.func g []],[],0⟩=
  some (ag [bP (fun i↦rat (k i) 2048) n 2048,n<2^40,g=hU∨g=gO] (leaf ret [AV.bool false])):=by kernel_rfl
theorem agG {c:Cu}:aK T Br [] 60 zB (before uO [1,1,0,1]) ⟨aN 0 [bE c 2048 2048],[],0⟩=
  some (ag [(0:Nat)<1,bP (fun i↦rat (c.k i) 2048) c.n 2048,(1:Nat)≤c.n,c.n<2^30] (ag [(0:Nat)<1] (leaf normal ([nil,own 16384 3 0 c.n,aj 12 c.m fun i↦agg [agg [rat (c.f i).n.x 2048,rat (c.f i).n.y 2048,rat (c.f i).n.z 2048],rat (c.f i).d 2048],int i64 (↑c.m:Int),int i64 (0:Int)],[((16384:Nat),ah.mk true true 3 c.n fun i↦rat (aT (rat (c.k i) 2048)) 2048)])))):=by kernel_rfl
theorem Qy {c:Cu} {i:Nat}:aK T Br [13] 60 zB [part uO [1,1,0,1,0,0]] ⟨aB zB (G6 c i),FP c i,1⟩=
  let c7:Int:=(↑c.m:Int);let c5:Int:=(↑(3:Nat):Int);let c4:Prop:=0<1;let c3:Int:=(↑i:Int);let c2:Nat:=c.n+4*i;let c1:AV:=aj 12 c.m fun i↦agg [agg [rat (c.f i).n.x 2048,rat (c.f i).n.y 2048,rat (c.f i).n.z 2048],rat (c.f i).d 2048];let c9:Nat:=c2+4;let c8:Int:=c3+(1:Int);let c6:Pl:=c.f c3.toNat;some (fork (decide (c3<c7)) (ag [(0:Int)≤c3∧c3.toNat<c.m,c4] (ag [(0:Int)≤(0:Int)∧(0:Int)<c5,c4,(0:Int)≤(1:Int)∧(1:Int)<c5,c4,(0:Int)≤(2:Int)∧(2:Int)<c5,c4,c4,(4:Nat)*3≤2^24,c9*((56:Nat)+1)*2≤2^47] (ag [-(2:Int)^63≤c8∧c8<(2:Int)^63] (leaf normal ([nil,own 73729 3 0 c9,c1,int i64 c7,int i64 c8],[((73729:Nat),ah.mk true true 3 c9 fun i↦if i<c2 then rat (jv c i) 2048 else nth [rat c6.n.x 2048,rat c6.n.y 2048,rat c6.n.z 2048,rat c6.d 2048] (rat 0 1) (i-c2+0))]))))) (leaf (exit 0) ([nil,own 0 3 0 c2,c1,int i64 c7,int i64 c3],[((0:Nat),ah.mk true true 3 c2 fun j↦rat (jv c j) 2048)]))):=by kernel_rfl
theorem Ud {c:Cu} {i:Nat}:bW T Br [] 60 yh [part uO [1,1,1]] ⟨aB zB (G6 c i),FP c i,1⟩=
  some (leaf ret [aj 3 (c.n+4*i) fun i↦rat (jv c (i+0)) 2048]):=by kernel_rfl
theorem Yw {N:Nat} (hn:nl N<2^40) (K:Nat):aA P AQ K [.mag N] [] (aI (.bool true) []):=by
 refine bF hT (cC bn) hm aiF rfl (of_decide_eq_true (by kernel_rfl)) rfl 60 ahd (fun _=>?_) K []
 simp only[aa.all,ax]
 refine⟨fun h=>⟨h,.refl _⟩,fun h=>?_⟩
 have h0:nl N≠0:=fun he=>by rw[he]at h;exact absurd h (by decide)
 have h1:N≠0:=fun he=>h0 (iy.2 he)
 have e1:((nl N:Int)-1).toNat=nl N-1:=by omega
 have h2:=CX h1
 rw[e1]
 refine⟨⟨h,by omega,by omega⟩,eV ?_⟩
 rw[cond_false]
 exact bne_iff_ne.2 (by omega)
theorem ad6:∀K args pre r,LB K args pre=some r→aA P AQ K args pre r:=by
 refine bS fun K args r hk hs _=>?_
 split at hs
 ·simp only[Option.some.injEq]at hs
  subst hs
  exact fun need=>Yw need K trivial
 ·simp at hs
theorem Lh:aX P D6:=cC (aJ ad6 (aJ KH (aJ Jj (aJ Jn bn))))
theorem adW {N:Nat} (h:nl N=1) (h1:az N 0=1):N=1:=by
 have h2:N<2^(32*1):=cL.1 (by omega)
 unfold az at h1
 omega
theorem ae7 {q:Rat} {n:Nat} (hn:n<2^44) (K:Nat):aA P zK K [.rat q n] [] (aI (.bool true) []):=by
 refine iA fun⟨hs1,_⟩=>?_
 obtain⟨a1,a2,a3⟩:=Sz.iE hs1 hn
 refine bF hT Lh hm agr rfl (of_decide_eq_true (by kernel_rfl)) rfl 60 QH (fun _=>?_) K []
 obtain⟨D,hD⟩:∃D,D=if q.den=1 then 0 else q.den:=⟨_,rfl⟩
 have hD1:D≠1:=by rw[hD];split<;>omega
 have hg:D≠0→q.num.natAbs.gcd D=1:=fun h=>by
  have:D=q.den:=by rw[hD]at h ⊢;split<;>simp_all
  rw[this];exact q.reduced
 have hz:q.num.natAbs=0→¬q<0∧D=0:=fun h=>by
  have h0:=lM.1 h
  subst h0
  exact⟨by decide,by rw[hD];rfl⟩
 rw[←hD]at a3 ⊢
 have nneg:((nl q.num.natAbs:Int)==0)=true→(!decide (q<0))=true∧((nl D:Int)==0)=true:=fun h=>by
  obtain⟨z1,z2⟩:=hz (iy.1 (by have:=beq_iff_eq.1 h;omega))
  rw[decide_eq_false z1,z2];exact⟨rfl,rfl⟩
 have last:((nl D:Int)==0)=false→D≠0:=fun h he=>by rw[he]at h;exact absurd h (by decide)
 simp only[aa.all,ax,cond_true,cond_false,Bool.not_true]
 refine⟨fun h=>⟨⟨by omega,a1,by omega,a3,by omega,h,by omega,by omega,?_⟩,fun h2=>?_,fun h2=>⟨by omega,fun h3=>⟨fun h4=>⟨⟨by omega,h4,by omega⟩,eV (nneg h3).2⟩,fun h4=>absurd (h4.symm.trans (nneg h3).1) (by decide)⟩,fun h3=>⟨fun h4=>⟨⟨by omega,h4⟩,.refl _⟩,fun h4=>?_⟩⟩⟩,
  fun h=>⟨⟨by omega,a1,by omega,a3,by omega,h⟩,fun h=>absurd h (by decide),fun _=>⟨by omega,fun h3=>⟨fun h4=>⟨⟨by omega,h4,by omega⟩,eV (nneg h3).2⟩,fun h4=>absurd (h4.symm.trans (nneg h3).1) (by decide)⟩,fun h3=>⟨fun h4=>⟨⟨by omega,h4⟩,.refl _⟩,fun h4=>?_⟩⟩⟩⟩
 ·have:=beq_iff_eq.1 h
  rw[Int.toNat_zero];omega
 ·have e1:=beq_iff_eq.1 h
  have e2:=beq_iff_eq.1 h2
  exact absurd (adW (by omega) (by rw[Int.toNat_zero]at e2;omega)) hD1
 ·rw[hg (last h4)]
  exact⟨⟨by omega,h4,by omega,by omega,a1,a3,by decide⟩,eV (by decide)⟩
 ·rw[hg (last h4)]
  exact⟨⟨by omega,h4,by omega,by omega,a1,a3,by decide⟩,eV (by decide)⟩
theorem Uf:∀K args pre r,Lb K args pre=some r→aA P zK K args pre r:=by
 refine bS fun K args r hk hs _=>?_
 split at hs
 ·simp only[Option.some.injEq]at hs
  subst hs
  exact fun need=>ae7 need K trivial
 ·simp at hs
theorem Y8 {q:Rat} {n:Nat} (hn:n<2^44) (K:Nat):aA P vE K [.rat q n] [] (aI (.int .i64 (cq q:Nat)) []):=by
 refine iA fun⟨hs1,_⟩=>?_
 obtain⟨a1,a2,a3⟩:=Sz.iE hs1 hn
 refine bF hT Lh hm agN rfl (of_decide_eq_true (by kernel_rfl)) rfl 60 V4 (fun _=>?_) K []
 simp only[aa.all,ax]
 refine⟨⟨by omega,a1,by omega,a2⟩,bt ?_⟩
 unfold cq
 split<;>omega
theorem UD:∀K args pre r,Ib K args pre=some r→aA P vE K args pre r:=by
 refine bS fun K args r hk hs _=>?_
 split at hs
 ·simp only[Option.some.injEq]at hs
  subst hs
  exact fun need=>Y8 need K trivial
 ·simp at hs
theorem FE:aX P Ci:=cC (aJ Uf (aJ UD fC))
theorem T2:∀K args pre r,AT K args pre=some r→aA P hU K args pre r:=by
 refine bS fun K args r hk hs _=>?_
 split at hs
 ·rename_i q n
  simp only[Option.some.injEq]at hs
  subst hs
  intro need
  have hn:n≤2048:=need
  refine bF (r:=aI (.bool false) [n≤2048]) hT FE hm W4 rfl (of_decide_eq_true (by kernel_rfl)) rfl 60 Su (fun _=>?_) K [] need
  simp only[aa.all,ax]
  (repeat' with_reducible refine And.intro ?_ ?_)
  all_goals first|omega|exact .refl _|skip
 ·simp at hs
theorem V2:∀K args pre r,AT K args pre=some r→aA P gO K args pre r:=by
 refine bS fun K args r hk hs _=>?_
 split at hs
 ·rename_i q n
  simp only[Option.some.injEq]at hs
  subst hs
  intro need
  have hn:n≤2048:=need
  refine(iA (P:=P) (f:=gO) (K:=K) (args:=[.rat q n]) (pre:=[]) (v:=.bool false) (l:=[n≤2048]) fun⟨hs1,_⟩=>?_) need
  have h1:=ahl.1 hs1
  refine bF (r:=aI (.bool false) [n≤2048]) hT FE hm aip rfl (of_decide_eq_true (by kernel_rfl)) rfl 60 ZC (fun _=>?_) K []
  simp only[aa.all,ax]
  (repeat' with_reducible refine And.intro ?_ ?_)
  all_goals first|omega|skip
  exact eV (decide_eq_false (by omega))
 ·simp at hs
theorem adj:∀K args pre r,Nr K args pre=some r→aA P fP K args pre r:=cz fun⟨p,_⟩ K hn=>by
 have hd:0<p.d:=hn
 refine bF (r:=aI (.bool false) []) hT FE hm ahx rfl (of_decide_eq_true (by kernel_rfl)) rfl 60 Rz (fun _=>?_) K []
 have hs:dS p.d=1:=by
  unfold dS
  rw[if_neg (by grind),if_pos hd]
 simp only[aa.all,ax,hs]
 (repeat' with_reducible refine And.intro ?_ ?_)
 all_goals first|omega|decide|exact .refl _|skip
theorem E3:aX P GX:=cC (aJ T2 (aJ V2 (aJ adj bn)))
theorem ZQ {n:Nat} {k:Nat→Rat} {g:FuncId} (hn:n<2^40) (hg:g=hU∨g=gO) (K:Nat):aA P xC K [aV k n 2048,.func g []] [] (aI (.int .i64 (-1)) []):=by
 rcases hg with rfl|rfl
 ·refine fK (r:=aI (.int .i64 (-1)) []) hT E3 hm PD rfl (of_decide_eq_true (by kernel_rfl)) rfl [1,0,1] (i:=0) (y:=part nX [1,0,1,0,0]) (z:=part nX [1,1]) (by kernel_rfl) (by kernel_rfl) (by kernel_rfl) (f1:=[]) (f2:=[9]) (f3:=[]) 60 jE 0
   (fun i:Nat=>wF n i k hU) (fun _=>[]) (fun i=>i≤n) (fun i=>i=n) (fun i=>n-i) (fun _=>⟨⟨_,JP,?_⟩,fun i hi=>⟨_,ac7,?_⟩,fun i hi=>⟨_,P8,?_⟩⟩) K []
  ·simp only[aa.all,ax]
   exact⟨0,Nat.zero_le _,[],rfl,rfl,rfl,trivial⟩
  ·simp only[aa.all,ax,decide_eq_true_eq,decide_eq_false_iff_not,Int.toNat_natCast]
   exact⟨fun h=>⟨⟨by omega,by omega⟩,by omega,i+1,by omega,by dsimp only;omega,[],rfl,rfl,rfl,trivial⟩,fun h=>⟨rfl,i,by omega,[],rfl,rfl,rfl,trivial⟩⟩
  ·simp only[aa.all,ax]
   exact .refl _
 ·refine fK (r:=aI (.int .i64 (-1)) []) hT E3 hm PD rfl (of_decide_eq_true (by kernel_rfl)) rfl [1,0,1] (i:=0) (y:=part nX [1,0,1,0,0]) (z:=part nX [1,1]) (by kernel_rfl) (by kernel_rfl) (by kernel_rfl) (f1:=[]) (f2:=[9]) (f3:=[]) 60 jE 0
   (fun i:Nat=>wF n i k gO) (fun _=>[]) (fun i=>i≤n) (fun i=>i=n) (fun i=>n-i) (fun _=>⟨⟨_,JP,?_⟩,fun i hi=>⟨_,aa1,?_⟩,fun i hi=>⟨_,P8,?_⟩⟩) K []
  ·simp only[aa.all,ax]
   exact⟨0,Nat.zero_le _,[],rfl,rfl,rfl,trivial⟩
  ·simp only[aa.all,ax,decide_eq_true_eq,decide_eq_false_iff_not,Int.toNat_natCast]
   exact⟨fun h=>⟨⟨by omega,by omega⟩,by omega,i+1,by omega,by dsimp only;omega,[],rfl,rfl,rfl,trivial⟩,fun h=>⟨rfl,i,by omega,[],rfl,rfl,rfl,trivial⟩⟩
  ·simp only[aa.all,ax]
   exact .refl _
theorem Yn:∀K args pre r,KV K args pre=some r→aA P xC K args pre r:=cz fun⟨⟨n,k⟩,g,_⟩ K hn=>ZQ hn.1 hn.2 K
theorem R1:aX P GY:=cC (aJ Yn bn)
theorem ack:∀K args pre r,Io K args pre=some r→aA P CE K args pre r:=cz fun⟨⟨n,k⟩,g,_⟩ K hn=>by
 refine bF (r:=aI (.bool false) []) hT R1 hm ZO rfl (of_decide_eq_true (by kernel_rfl)) rfl 60 Qj (fun _=>?_) K []
 simp only[aa.all,ax]
 exact⟨⟨cU (Nat.le_refl _),hn.1,hn.2⟩,.refl _⟩
noncomputable def M8:Spec:=cJ (kC (pI 2048) (kC C8 kN)) (fun _=>.int .i64 (-1)) fun a=>[a.1.1<2^40,∀i,i<a.1.1→0<(a.1.2 i).d,a.2.1=fP]
noncomputable def JR:Spec:=cJ (kC (pI 2048) (kC C8 kN)) (fun _=>.bool false) fun a=>[a.1.1<2^40,∀i,i<a.1.1→0<(a.1.2 i).d,a.2.1=fP]
noncomputable def Iw:aR:=nG::(wU,M8)::[]
noncomputable def IB:aR:=nG::(uw,NW)::(CE,Io)::(BU,JR)::(sr,Ea)::(qq,wK)::[]
theorem Vp {n:Nat} {f:Nat→Pl} (hn:n<2^40) (hf:∀i,i<n→0<(f i).d) (K:Nat):aA P wU K [eZ f n 2048,.func fP []] [] (aI (.int .i64 (-1)) []):=by
 refine fK (r:=aI (.int .i64 (-1)) []) hT E3 hm aaR rfl (of_decide_eq_true (by kernel_rfl)) rfl [1,0,1] (i:=0) (y:=part ue [1,0,1,0,0]) (z:=part ue [1,1]) (by kernel_rfl) (by kernel_rfl) (by kernel_rfl) (f1:=[]) (f2:=[9]) (f3:=[]) 60 jE 0
  (fun i:Nat=>HL n i f fP) (fun _=>[]) (fun i=>i≤n) (fun i=>i=n) (fun i=>n-i) (fun _=>⟨⟨_,aff,?_⟩,fun i hi=>⟨_,agl,?_⟩,fun i hi=>⟨_,afS,?_⟩⟩) K []
 ·simp only[aa.all,ax]
  exact⟨0,Nat.zero_le _,[],rfl,rfl,rfl,trivial⟩
 ·simp only[aa.all,ax,decide_eq_true_eq,decide_eq_false_iff_not,Int.toNat_natCast]
  exact⟨fun h=>⟨⟨by omega,by omega,by omega,by decide,hf i (by omega)⟩,by omega,i+1,by omega,by dsimp only;omega,[],rfl,rfl,rfl,trivial⟩,fun h=>⟨rfl,i,by omega,[],rfl,rfl,rfl,trivial⟩⟩
 ·simp only[aa.all,ax]
  exact .refl _
theorem Vu:∀K args pre r,M8 K args pre=some r→aA P wU K args pre r:=cz fun⟨⟨n,f⟩,g,_⟩ K hn=>by
 have hg:g=fP:=hn.2.2
 subst hg
 exact Vp hn.1 hn.2.1 K
theorem Vo {args:List AV} {n:Nat} {k:Nat→Rat} {l:List Prop} (ha:ax l→dI (aS []) args [.cY false 3 n (fun i=>.rat (k i) 2048)]) (hn:ax l→1≤n∧n<2^30) (K:Nat):aA P rH K args [] ⟨fy [.own K 3 0 n],[(K,⟨true,true,3,n,fun i=>.rat (k i) 2048⟩)],l⟩:=by
 refine F5 hT agu ha (of_decide_eq_true (by kernel_rfl)) fun need c hk=>?_
 obtain⟨h1,h2⟩:=hn need
 refine aq.bk hT (cC bn) hm 60 [2] Zy (by kernel_rfl) ?_
 simp only[aa.all,ax]
 exact⟨⟨by omega,by omega⟩,fun s' hs'=>⟨.inr trivial,[2],_,[.own 20480 3 0 (0+n)],_,20480,_,hs',by kernel_rfl,⟨⟨rfl,bY (by simp[aS,look]) rfl (by omega)⟩,trivial⟩,rfl,gy (by omega) fun i hi=>aG rfl⟩⟩
theorem ajj {n:Nat} {k:Nat→Rat} {l:List Prop} (hn:ax l→1≤n∧n<2^30) (K:Nat):aA P rH K [aV k n 2048] [] ⟨fy [.own K 3 0 n],[(K,⟨true,true,3,n,fun i=>.rat (k i) 2048⟩)],l⟩:=by
 refine Pw fun b hb=>?_
 intro need
 have h1:=hn need
 cases b
 ·exact Vo (args:=[.cY false 3 n (fun i=>.rat (k i) 2048)]) (fun _=>⟨⟨rfl,aG rfl⟩,trivial⟩) hn K need
 ·have:=hb rfl
  omega
theorem aas:∀K args pre r,HY K args pre=some r→aA P rH K args pre r:=by
 refine ry fun K args r hk hs=>?_
 split at hs
 ·rename_i v
  split at hs
  ·rename_i n k q hv
   simp only[Option.some.injEq]at hs
   subst hs
   intro need
   obtain⟨hn1,hn2⟩:=cE.1 need
   exact fN (ajj (l:=q++[1≤n,n<2^30]) (fun h=>⟨(cE.1 h).2.1,(cE.1 h).2.2⟩) K) hk ⟨(kL 2048).ok hv hn1,trivial⟩ [] need
  ·simp at hs
 ·simp at hs
theorem Qu:aX P Br:=cC (aJ aas bn)
theorem WT {c:Cu} {i j:Nat} {rl:List (Nat×Nat)} (hj:j<c.n+4*i+4):fc rl (if j<c.n+4*i then .rat (jv c j) 2048 else nth [.rat (c.f i).n.x 2048,.rat (c.f i).n.y 2048,.rat (c.f i).n.z 2048,.rat (c.f i).d 2048] (.rat 0 1) (j-(c.n+4*i)+0)) (.rat (jv c j) 2048):=by
 by_cases h:j<c.n+4*i
 ·rw[if_pos h];exact aD rfl rfl
 ·rw[if_neg h]
  have key:∀a,a<4→j=c.n+4*i+a→jv c j=nP (c.f i) a:=fun a ha hj=>by
   unfold jv
   rw[if_neg (by omega),show(j-c.n)/4=i by omega,show(j-c.n)%4=a by omega]
  rcases(show j=c.n+4*i+0∨j=c.n+4*i+1∨j=c.n+4*i+2∨j=c.n+4*i+3 by omega)with h'|h'|h'|h'
  ·rw[key 0 (by omega) h',h',show c.n+4*i+0-(c.n+4*i)+0=0 by omega];exact aD rfl rfl
  ·rw[key 1 (by omega) h',h',show c.n+4*i+1-(c.n+4*i)+0=1 by omega];exact aD rfl rfl
  ·rw[key 2 (by omega) h',h',show c.n+4*i+2-(c.n+4*i)+0=2 by omega];exact aD rfl rfl
  ·rw[key 3 (by omega) h',h',show c.n+4*i+3-(c.n+4*i)+0=3 by omega];exact aD rfl rfl
theorem ZT {c:Cu} (h1:1≤c.n) (hn:c.n<2^30) (hm2:c.m<2^28) (K:Nat):aA P uw K [bE c 2048 2048] [] (aI (aV (jv c) (c.n+4*c.m) 2048) []):=by
 refine fK (r:=aI (aV (jv c) (c.n+4*c.m) 2048) []) hT Qu hm abX rfl (of_decide_eq_true (by kernel_rfl)) rfl [1,1,0,1] (i:=0) (y:=part uO [1,1,0,1,0,0]) (z:=part uO [1,1,1]) (by kernel_rfl) (by kernel_rfl) (by kernel_rfl) (f1:=[]) (f2:=[13]) (f3:=[]) 60 zB 1
  (fun i:Nat=>G6 c i) (fun i=>FP c i) (fun i=>i≤c.m) (fun i=>i=c.m) (fun i=>c.m-i) (fun _=>⟨⟨_,agG,?_⟩,fun i hi=>⟨_,Qy,?_⟩,fun i hi=>⟨_,Ud,?_⟩⟩) K []
 ·simp only[aa.all,ax]
  exact⟨⟨by omega,cU (Nat.le_refl _),by omega,by omega⟩,by omega,0,Nat.zero_le _,[(0,16384)],rfl,rfl,rfl,aW rfl rfl rfl (fun j hj=>aD rfl (by unfold jv;rw[if_pos (by omega)];rfl)) trivial⟩
 ·simp only[aa.all,ax,decide_eq_true_eq,decide_eq_false_iff_not,Int.toNat_natCast]
  refine⟨fun h=>?_,fun h=>⟨rfl,i,by omega,[(0,0)],rfl,rfl,rfl,aW rfl rfl rfl (fun j hj=>aD rfl rfl) trivial⟩⟩
  (repeat' with_reducible refine And.intro ?_ ?_)
  all_goals first|omega|decide|skip
  refine⟨i+1,by omega,by dsimp only;omega,[(0,73729)],rfl,?_,rfl,aW rfl rfl ?_ (fun j hj=>WT (by omega)) trivial⟩
  ·show _=[_,AV.own 0 3 0 (c.n+4*(i+1)),_,_,_].map _
   rw[show c.n+4*(i+1)=c.n+4*i+4 by omega];rfl
  ·show c.n+4*(i+1)=c.n+4*i+4
   omega
 ·subst hi
  simp only[aa.all,ax]
  exact .refl _
theorem ahG:∀K args pre r,NW K args pre=some r→aA P uw K args pre r:=cz fun⟨c,_⟩ K hn=>ZT hn.1 hn.2.1 hn.2.2 K
theorem afN {n:Nat} {f:Nat→Pl}:bC T Iw [] 60 Ad (au Ad) ⟨aN 0 [eZ f n 2048,.func fP []],[],0⟩=
  some (ag [eM (fun i↦bw (f i) 2048) n 2048,n<2^40,∀(i:Nat),i<n→0<aT (rat (f i).d 2048),fP=fP] (leaf ret [AV.bool false])):=by kernel_rfl
theorem ac5 {c:Cu}:bC T IB [200015,200017] 60 vh (au vh) ⟨aN 0 [bE c 2048 2048],[],0⟩=
  let c5 : Nat := c.n + 4 * c.m; let c4 : Prop := eM (fun i ↦ bw (c.f i) 2048) c.m 2048; let c3 : Nat := 2 ^ 40; let c2 : Prop := 0 < 1; let c1 : Prop := bP (fun i ↦ rat (jv (Cu.mk c.p c.n (fun i ↦ aT (rat (c.k i) 2048)) c.m fun i ↦ dP (bw (c.f i) 2048)) i) 2048) c5 2048; some (ag [c2, bP (fun i ↦ rat (c.k i) 2048) c.n 2048, c4, (1 : Nat) ≤ c.n, c.n < 2 ^ 30, c.m < 2 ^ 28] (ag [c1, c5 < c3, hU = hU ∨ hU = gO] (ag [c2, c2, bP (fun i ↦ rat (c.k i) 2048) c.n sJ, c.n < c3] (ag [(fX c.n (fun i ↦ aT (rat (c.k i) 2048)) c.p != (0 : Int)) = false] (ag [c2, c2, c2, bP (fun i ↦ rat (c.k i) 2048) c.n sK, c.n < c3, -(2 : Int) ^ 40 < c.p, c.p < (2 : Int) ^ 40] (ag [((↑c.m : Int) != (↑c.n : Int) - c.p - (1 : Int)) = false] (ag [c2, c4, c.m < c3, ∀ (i : Nat), i < c.m → 0 < aT (rat (c.f i).d 2048), fP = fP] (ag [c1, c5 < c3, gO = hU ∨ gO = gO] (leaf ret [int i64 (0 : Int)]))))))))) := by kernel_rfl
theorem TK:aX P Iw:=cC (aJ Vu bn)
theorem af6:∀K args pre r,JR K args pre=some r→aA P BU K args pre r:=cz fun⟨⟨n,f⟩,g,_⟩ K hn=>by
 have hg:g=fP:=hn.2.2
 subst hg
 refine bF (r:=aI (.bool false) []) hT TK hm ae6 rfl (of_decide_eq_true (by kernel_rfl)) rfl 60 afN (fun _=>?_) K []
 simp only[aa.all,ax]
 exact⟨⟨iB (Nat.le_refl _),hn.1,hn.2.1,by trivial⟩,.refl _⟩
theorem aiN:aX P IB:=cC (aJ ahG (aJ ack (aJ af6 (aJ LL (aJ C5 bn)))))
noncomputable def KQ:Spec:=cJ (kC (gx 2048 2048) kN) (fun _=>.int .i64 0) fun a=>[dY a.1,∀i,i<a.1.m→0<(a.1.f i).d]
theorem Z4:∀K args pre r,KQ K args pre=some r→aA P Du K args pre r:=cz fun⟨c,_⟩ K hn=>by
 obtain⟨⟨h1,h2,h3,h4,h5⟩,hw⟩:dY c∧_:=hn
 have hl:=h1.len
 refine bF (r:=aI (.int .i64 0) []) hT aiN hm agA rfl (of_decide_eq_true (by kernel_rfl)) rfl 60 ac5 (fun _=>?_) K []
 have hc0:fX c.n c.k c.p=0:=by have:=h1.Km (by omega) h4;rwa [Int.toNat_of_nonneg (by omega)]at this
 simp only[aa.all,ax]
 (repeat' with_reducible refine And.intro ?_ ?_)
 all_goals first|omega|exact cU (by decide)|exact iB (by decide)|exact hw|exact bne_eq_false_iff_eq.2 hc0|exact bne_eq_false_iff_eq.2 h5|exact .inl trivial|exact .inr trivial|trivial|exact .refl _|skip
end Go.Am.B

/- law10.awake. -/
namespace Go.Am.B
open Go Go.Am.N AV aa ak IntKind
theorem ae9:aO P yE zD (au zD):=aP Wz (by kernel_rfl) (by kernel_rfl) (by kernel_rfl)
def P4:Spec:=bB fun l=>match l with
 |[.mag 2]=>some (aI (.str [50]) [])
 |[.mag 3]=>some (aI (.str [51]) [])
 |[.mag 4]=>some (aI (.str [52]) [])
 |[.mag 5]=>some (aI (.str [53]) [])
 |_=>none
def xO:aR:=[sG,(ze,P4)]
def Pf:Spec:=bB fun l=>match l with
 |[.rat q _]=>match decide (q=3/5),decide (q=4/5),decide (q=3/2)with
  |true,_,_=>some (aI (.str [51,47,53]) [])
  |false,true,_=>some (aI (.str [52,47,53]) [])
  |false,false,true=>some (aI (.str [51,47,50]) [])
  |_,_,_=>none
 |_=>none
noncomputable def LW:aR:=sG::(BM,NA)::(C2,P5)::(Du,KQ)::(PB,fW T (sG::ny) [] 200 Nq)::(oI,yL)::(z8,Pf)::ny
theorem aho:bC T sS [] 60 jA (au jA) ⟨aN 0 [.mag 2],[],0⟩=
  let c1:Int:=(↑(1:Nat):Int);some (ag [nl 2<2^40,(0:Int)<(1000000000:Int),(1000000000:Int)<(2:Int)^32] (ag [(10:Int)≠(0:Int),(0:Nat)<1∧1*((1:Nat)+1)*2≤2^47] (ag [(10:Int)≠(0:Int)] (ag [(0:Int)≤c1∧c1≤c1∧c1≤(2:Int)^47∧c1*c1≤(2:Int)^47] (leaf ret [str [UInt8.ofNat (u8.wrap (u32.wrap ((48:Int)+(↑((2:Nat)%Int.toNat (1000000000:Int)):Int).tmod (10:Int)))).toNat]]))))):=by kernel_rfl
theorem aan:bC T sS [] 60 jA (au jA) ⟨aN 0 [.mag 3],[],0⟩=
  let c1:Int:=(↑(1:Nat):Int);some (ag [nl 3<2^40,(0:Int)<(1000000000:Int),(1000000000:Int)<(2:Int)^32] (ag [(10:Int)≠(0:Int),(0:Nat)<1∧1*((1:Nat)+1)*2≤2^47] (ag [(10:Int)≠(0:Int)] (ag [(0:Int)≤c1∧c1≤c1∧c1≤(2:Int)^47∧c1*c1≤(2:Int)^47] (leaf ret [str [UInt8.ofNat (u8.wrap (u32.wrap ((48:Int)+(↑((3:Nat)%Int.toNat (1000000000:Int)):Int).tmod (10:Int)))).toNat]]))))):=by kernel_rfl
theorem YE:bC T sS [] 60 jA (au jA) ⟨aN 0 [.mag 4],[],0⟩=
  let c1:Int:=(↑(1:Nat):Int);some (ag [nl 4<2^40,(0:Int)<(1000000000:Int),(1000000000:Int)<(2:Int)^32] (ag [(10:Int)≠(0:Int),(0:Nat)<1∧1*((1:Nat)+1)*2≤2^47] (ag [(10:Int)≠(0:Int)] (ag [(0:Int)≤c1∧c1≤c1∧c1≤(2:Int)^47∧c1*c1≤(2:Int)^47] (leaf ret [str [UInt8.ofNat (u8.wrap (u32.wrap ((48:Int)+(↑((4:Nat)%Int.toNat (1000000000:Int)):Int).tmod (10:Int)))).toNat]]))))):=by kernel_rfl
theorem We:bC T sS [] 60 jA (au jA) ⟨aN 0 [.mag 5],[],0⟩=
  let c1:Int:=(↑(1:Nat):Int);some (ag [nl 5<2^40,(0:Int)<(1000000000:Int),(1000000000:Int)<(2:Int)^32] (ag [(10:Int)≠(0:Int),(0:Nat)<1∧1*((1:Nat)+1)*2≤2^47] (ag [(10:Int)≠(0:Int)] (ag [(0:Int)≤c1∧c1≤c1∧c1≤(2:Int)^47∧c1*c1≤(2:Int)^47] (leaf ret [str [UInt8.ofNat (u8.wrap (u32.wrap ((48:Int)+(↑((5:Nat)%Int.toNat (1000000000:Int)):Int).tmod (10:Int)))).toNat]]))))):=by kernel_rfl
theorem aa5:bC T xO [] 60 kW (au kW) ⟨aN 0 [.agg [.bool false,.mag 3,.mag 5]],[],0⟩=
  some (leaf ret [str [(51:UInt8),(47:UInt8),(53:UInt8)]]):=by kernel_rfl
theorem YK:bC T xO [] 60 kW (au kW) ⟨aN 0 [.agg [.bool false,.mag 4,.mag 5]],[],0⟩=
  some (leaf ret [str [(52:UInt8),(47:UInt8),(53:UInt8)]]):=by kernel_rfl
theorem afA:bC T xO [] 60 kW (au kW) ⟨aN 0 [.agg [.bool false,.mag 3,.mag 2]],[],0⟩=
  some (leaf ret [str [(51:UInt8),(47:UInt8),(50:UInt8)]]):=by kernel_rfl
theorem Sw:bC T LW [100024,100028,100032,100038,100044,100050] 200 zD (au zD) ⟨aN 0 [],[],0⟩=
  let c10:Rat:=(↑(1:Int):Rat)/(↑(2:Int):Rat);let c9:Int:=(2:Int)^63;let c8:List UInt8:=[(47:UInt8),(53:UInt8)];let c6:AV:=agg [AV.bool (decide ((0:Rat)<0)),mag (↑(nat_lit 0):Int).natAbs,mag (if 1=1 then 0 else 1)];let c5:AV:=rat 0 1;let c4:AV:=rat (↑(1:Int):Rat) (Max.max 1 (br (Int.natAbs (1:Int))));let c7:AV:=agg [agg [c5,c5,c5],c5];let c3:List AV:=[agg [agg [c4,c5,c5],c4],agg [agg [c4,c4,c5],c4],agg [agg [c6,c4,c5],rat (↑(2:Int):Rat) (Max.max 1 (br (Int.natAbs (2:Int))))]];let c2:List AV:=[c6,c6,c6,c4,c4,c4];let c1:Cu:=Cu.mk (2:Int) 6 (fun i↦aT (nth c2 c5 (i+0))) 3 fun i↦dP (nth c3 c7 (i+0));some (ag [(0:Nat)<1] (ag [-c9≤(1:Int),(1:Int)<c9,-c9≤(2:Int),(2:Int)<c9] (ag [bP (fun i↦nth c2 c5 (i+0)) 6 sJ,eM (fun i↦nth c3 c7 (i+0)) 3 sJ,(64:Nat)≤sK,dY c1] (ag [bP (fun i↦nth c2 c5 (i+0)) 6 2000,eM (fun i↦nth c3 c7 (i+0)) 3 2000,(64:Nat)≤2000,dY c1] (ag [bP (fun i↦nth c2 c5 (i+0)) 6 2048,eM (fun i↦nth c3 c7 (i+0)) 3 2048,dY c1,∀(i:Nat),i<3→0<(dP (nth c3 c7 (i+0))).d,((0:Int)==(0:Int))=true,(bif true then eA 6 (fun i↦aT (nth c2 c5 (i+0))) c10==(0:Int)else false)=true,(bif true then kU c1 c10==(0:Int)else false)=true,(bif true then(51:UInt8)::c8==(51:UInt8)::c8 else false)=true,(bif true then(52:UInt8)::c8==(52:UInt8)::c8 else false)=true,(bif true then(↑((6:Nat)+1-Int.toNat (2:Int)-1):Int)==(4:Int)else false)=true] (leaf ret [AV.bool true])))))):=by kernel_rfl
theorem VH:∀K args pre r,P4 K args pre=some r→aA P ze K args pre r:=by
 refine bS fun K args r hk hs _=>?_
 have fin:∀{N:Nat} {t:aa (List AV)} {l:List UInt8},bC T sS [] 60 jA (au jA) ⟨aN 0 [.mag N],[],0⟩=some t→(t.all fun _ us=>dx us (.str l))→aA P ze K [.mag N] [] (aI (.str l) []):=fun h1 h2=>
  bF (r:=aI _ []) hT aer hm V0 rfl (of_decide_eq_true (by kernel_rfl)) rfl 60 h1 (fun _=>h2) K []
 split at hs<;>simp only[Option.some.injEq,reduceCtorEq]at hs
 all_goals subst hs
 ·exact fin aho (by simp only[aa.all,ax];exact⟨by decide,by decide,by decide,by decide,.refl _⟩)
 ·exact fin aan (by simp only[aa.all,ax];exact⟨by decide,by decide,by decide,by decide,.refl _⟩)
 ·exact fin YE (by simp only[aa.all,ax];exact⟨by decide,by decide,by decide,by decide,.refl _⟩)
 ·exact fin We (by simp only[aa.all,ax];exact⟨by decide,by decide,by decide,by decide,.refl _⟩)
theorem ae3:aX P xO:=iz (aJ VH bn)
theorem S8:∀K args pre r,Pf K args pre=some r→aA P z8 K args pre r:=by
 refine bS fun K args r hk hs _=>?_
 have fin:∀{q:Rat} {n a b:Nat} {t:aa (List AV)} {l:List UInt8},kids (.rat q n)=[.bool false,.mag a,.mag b]→bC T xO [] 60 kW (au kW) ⟨aN 0 [.agg [.bool false,.mag a,.mag b]],[],0⟩=some t→(t.all fun _ us=>dx us (.str l))→aA P z8 K [.rat q n] [] (aI (.str l) []):=fun h0 h1 h2=>
  fN (bF (r:=aI _ []) hT ae3 hm RM rfl (of_decide_eq_true (by kernel_rfl)) rfl 60 h1 (fun _=>h2) K []) rfl (show eo [_] [_]from⟨by rw[←h0];exact Ow,trivial⟩) []
 split at hs
 ·rename_i q n
  split at hs
  all_goals simp only[Option.some.injEq,reduceCtorEq]at hs
  all_goals subst hs
  ·obtain rfl:q=3/5:=of_decide_eq_true ‹_›
   exact fin (by kernel_rfl) aa5 (.refl _)
  ·obtain rfl:q=4/5:=of_decide_eq_true ‹decide (q=4/5)=true›
   exact fin (by kernel_rfl) YK (.refl _)
  ·obtain rfl:q=3/2:=of_decide_eq_true ‹decide (q=3/2)=true›
   exact fin (by kernel_rfl) afA (.refl _)
 ·simp at hs
theorem acW:aX P LW:=iz (aJ aaD (aJ Sn (aJ Z4 (aJ (gj hT (iz o9) hm (aP XX (by kernel_rfl) (by kernel_rfl) (by kernel_rfl)) _ _) (aJ A8 (aJ S8 o9))))))
theorem ahS (K:Nat):aA P yE K [] [] (aI (.bool true) []):=by
 refine bF (r:=aI (.bool true) []) hT acW hm ae9 rfl (of_decide_eq_true (by kernel_rfl)) rfl 200 Sw (fun _=>?_) K []
 have hR:∀s,4≤s→bP (fun i=>nth [.agg [AV.bool (decide ((0:Rat)<0)),mag (↑(nat_lit 0):Int).natAbs,mag (if 1=1 then 0 else 1)],.agg [AV.bool (decide ((0:Rat)<0)),mag (↑(nat_lit 0):Int).natAbs,mag (if 1=1 then 0 else 1)],.agg [AV.bool (decide ((0:Rat)<0)),mag (↑(nat_lit 0):Int).natAbs,mag (if 1=1 then 0 else 1)],.rat (↑(1:Int):Rat) (Max.max 1 (br (Int.natAbs (1:Int)))),.rat (↑(1:Int):Rat) (Max.max 1 (br (Int.natAbs (1:Int)))),.rat (↑(1:Int):Rat) (Max.max 1 (br (Int.natAbs (1:Int))))] (.rat 0 1) (i+0)) 6 s:=fun s hs i hi=>by
  obtain⟨s,rfl⟩:∃s',s=s'+1:=⟨s-1,by omega⟩
  match i,hi with
  |0,_|1,_|2,_=>exact kq
  |3,_|4,_|5,_=>exact eW (Nat.le_trans (by decide) hs)
 simp only[aa.all,ax]
 (repeat' with_reducible first|refine And.intro ?_ ?_)
 all_goals first|omega|decide|exact hR _ (by decide)|skip
 all_goals first|decide+kernel|exact .refl _|skip
 all_goals first|refine⟨TN fun i hi=>?_,by decide,by decide,by decide,by decide⟩|intro i hi
 all_goals first
  |match i,hi with
   |0,_|1,_|2,_|3,_|4,_|5,_=>decide+kernel
  |match i,hi with
   |0,_|1,_|2,_=>decide+kernel
  |skip
 all_goals match i,hi with
  |0,_|1,_=>exact bQ ⟨bQ ⟨eW (by decide),eW (by decide),eW (by decide),trivial⟩,eW (by decide),trivial⟩
  |2,_=>exact bQ ⟨bQ ⟨kq,eW (by decide),eW (by decide),trivial⟩,eW (by decide),trivial⟩
def Ln:Spec:=bB fun l=>match l with
 |[]=>some (aI (.bool true) [])
 |_=>none
theorem RA:∀K args pre r,Ln K args pre=some r→aA P yE K args pre r:=by
 refine bS fun K args r hk hs _=>?_
 split at hs
 ·simp only[Option.some.injEq]at hs
  subst hs
  exact fun need=>ahS K need
 ·simp at hs
end Go.Am.B
