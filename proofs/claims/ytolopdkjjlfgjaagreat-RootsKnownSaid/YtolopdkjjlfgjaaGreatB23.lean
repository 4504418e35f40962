/- ref01: Add, minus, Sub, Mul, byLimb. -/
import Derived.Test.YtolopdkjjlfgjaaGreatB22
set_option linter.unusedVariables false
namespace Go.Am.B
open Go Go.Am.N AV Proofs.Tryz IntKind
theorem adb:bC 146 f146:=bD func146
abbrev fH:List Nat:=[0,1,5,6,7]
abbrev xA (A B c i:Nat):List AV:=[.mag A,.mag B,.own 7 1 0 i,.int .u64 c,.int .i64 i]
abbrev qk (i:Nat) (o:Nat->Nat):aG:=[(7,⟨true,true,1,i,aD o⟩)]
noncomputable abbrev jW:Code:=part (aJ f146) [1,1,1,0,1,0,0]
theorem aaS {A B:Nat}:aK T fZ [] 60 fH (before (aJ f146) [1,1,1,0,1]) ⟨bf 0 [.mag A,.mag B],[],0⟩=
  some (af.leaf au.normal ([mag A,mag B,nil,int .u64 (0:Int),int .i64 (0:Int)],[])):=ah
theorem Z2 {A B c:Nat}:aK T fZ [12,18,21] 60 fH [part jW [0]] ⟨aH fH [.mag A,.mag B,.nil,.int .u64 c,.int .i64 0],[],8⟩=
  let c3:Bool:=bif false then true else decide ((0:Int)<(↑(nl B):Int));let c2:Bool:=decide ((0:Int)<(↑(nl A):Int));let c1:List AV×aG:=([mag A,mag B,nil,int .u64 (↑c:Int),int .i64 (0:Int)],[]);let c5:af (List AV×aG):=af.fork true (af.leaf au.normal c1) (af.leaf (au.exit 0) c1);let c4:af (List AV×aG):=af.fork (bif false then true else(↑c:Int)!=0) (af.leaf au.normal c1) (af.leaf (au.exit 0) c1);some (af.fork c2 (af.fork true (af.aj [c2=true,true=true] c5) (af.aj [c2=true,true=false] c4)) (af.fork c3 (af.aj [c2=false,c3=true] c5) (af.aj [c2=false,c3=false] c4))):=ah
theorem Se {A B c i:Nat} {o:Nat->Nat}:aK T fZ [12,18,21] 60 fH [part jW [0]] ⟨aH fH (xA A B c i),qk i o,8⟩=
  let c6:Int:=(↑i:Int);let c3:Bool:=bif false then true else decide (c6<(↑(nl B):Int));let c2:Bool:=decide (c6<(↑(nl A):Int));let c1:List AV×aG:=([mag A,mag B,own 7 1 0 i,int .u64 (↑c:Int),int .i64 c6],[(7,aC.mk true true 1 i fun a=>int .u32 (↑(o a):Int))]);let c5:af (List AV×aG):=af.fork true (af.leaf au.normal c1) (af.leaf (au.exit 0) c1);let c4:af (List AV×aG):=af.fork (bif false then true else(↑c:Int)!=0) (af.leaf au.normal c1) (af.leaf (au.exit 0) c1);some (af.fork c2 (af.fork true (af.aj [c2=true,true=true] c5) (af.aj [c2=true,true=false] c4)) (af.fork c3 (af.aj [c2=false,c3=true] c5) (af.aj [c2=false,c3=false] c4))):=ah
theorem acw {A B c:Nat}:aK T fZ [27,38] 60 fH (before (part jW [1,0,0]) [1,1]) ⟨aH fH [.mag A,.mag B,.nil,.int .u64 c,.int .i64 0],[],8⟩=
  let c5:Prop:=(0:Int)<=0;let c4:Int:=(↑(nl B):Int);let c2:List AV:=[int .i64 (0:Int)];let c1:Nat:=Int.toNat (0:Int);let c6:Int:=u64.wrap (↑(aE B c1):Int);let c3:Int:=u64.wrap ((↑c:Int)+u64.wrap (↑(aE A c1):Int));some (af.fork (decide ((0:Int)<(↑(nl A):Int))) (af.aj [c5/\c1<nl A] (af.fork (decide ((0:Int)<c4)) (af.aj [c5/\c1<nl B] (af.leaf au.normal (mag A::mag B::nil::int .u64 (u64.wrap (c3+c6))::c2,[]))) (af.leaf au.normal (mag A::mag B::nil::int .u64 c3::c2,[])))) (af.fork (decide ((0:Int)<c4)) (af.aj [c5/\c1<nl B] (af.leaf au.normal (mag A::mag B::nil::int .u64 (u64.wrap ((↑c:Int)+c6))::c2,[]))) (af.leaf au.normal (mag A::mag B::nil::int .u64 (↑c:Int)::c2,[])))):=ah
theorem U8 {A B c i:Nat} {o:Nat->Nat}:aK T fZ [27,38] 60 fH (before (part jW [1,0,0]) [1,1]) ⟨aH fH (xA A B c i),qk i o,8⟩=
  let c7:Int:=(↑(nl B):Int);let c3:AV:=own 7 1 0 i;let c2:Int:=(↑i:Int);let c1:Nat×aC:=(7,aC.mk true true 1 i fun a=>int .u32 (↑(o a):Int));let c8:Prop:=(0:Int)<=c2/\c2.toNat<nl B;let c6:Int:=u64.wrap (↑(aE B c2.toNat):Int);let c5:List AV:=[int .i64 c2];let c4:Int:=u64.wrap ((↑c:Int)+u64.wrap (↑(aE A c2.toNat):Int));some (af.fork (decide (c2<(↑(nl A):Int))) (af.aj [(0:Int)<=c2/\c2.toNat<nl A] (af.fork (decide (c2<c7)) (af.aj [c8] (af.leaf au.normal (mag A::mag B::c3::int .u64 (u64.wrap (c4+c6))::c5,[c1]))) (af.leaf au.normal (mag A::mag B::c3::int .u64 c4::c5,[c1])))) (af.fork (decide (c2<c7)) (af.aj [c8] (af.leaf au.normal (mag A::mag B::c3::int .u64 (u64.wrap ((↑c:Int)+c6))::c5,[c1]))) (af.leaf au.normal (mag A::mag B::c3::int .u64 (↑c:Int)::c5,[c1])))):=ah
theorem VH {A B c:Nat}:aK T fZ [] 60 fH [part (part jW [1,0,0]) [1,1]] ⟨aH fH [.mag A,.mag B,.nil,.int .u64 c,.int .i64 0],[],8⟩=
  some (af.aj [(1:Nat)*1<=2^24,(0:Nat)<1/\1*((4:Nat)+1)*2<=2^47] (af.aj [(0:Int)<=32] (af.leaf au.normal ([mag A,mag B,own 16392 1 0 1,int .u64 ((↑c:Int).fdiv ((2:Int)^min (Int.toNat (32:Int)) u64.bits)),int .i64 (0:Int)],[(16392,aC.mk true true 1 1 fun i=>nth [int .u32 (u32.wrap (↑c:Int))] (int .u32 (0:Int)) (i+0))])))):=ah
theorem aff {A B c i:Nat} {o:Nat->Nat}:aK T fZ [] 60 fH [part (part jW [1,0,0]) [1,1]] ⟨aH fH (xA A B c i),qk i o,8⟩=
  some (af.aj [(1:Nat)*1<=2^24,(i+1)*((4:Nat)+1)*2<=2^47] (af.aj [(0:Int)<=32] (af.leaf au.normal ([mag A,mag B,own 16392 1 0 (i+1),int .u64 ((↑c:Int).fdiv ((2:Int)^min (Int.toNat (32:Int)) u64.bits)),int .i64 (↑i:Int)],[(16392,aC.mk true true 1 (i+1) fun i_1=>if i_1<i then aD o i_1 else nth [int .u32 (u32.wrap (↑c:Int))] (int .u32 (0:Int)) (i_1-i+0))])))):=ah
theorem Ra {A B c i j:Nat} {o:Nat->Nat}:aK T fZ [] 60 fH [part jW [1,1]] ⟨aH fH [.mag A,.mag B,.own 7 1 0 i,.int .u64 c,.int .i64 j],qk i o,8⟩=
  some (af.leaf au.normal ([mag A,mag B,own 7 1 0 i,int .u64 (↑c:Int),int .i64 (i64.wrap ((↑j:Int)+1))],[(7,aC.mk true true 1 i fun a=>int .u32 (↑(o a):Int))])):=ah
theorem Sv {A B c:Nat}:dJ T fZ [] 60 f146 (behind (aJ f146) [1,1,1,0,1]) ⟨aH fH [.mag A,.mag B,.nil,.int .u64 c,.int .i64 0],[],8⟩=
  some (af.leaf au.ret [nil]):=ah
theorem RU {A B c i:Nat} {o:Nat->Nat}:dJ T fZ [] 60 f146 (behind (aJ f146) [1,1,1,0,1]) ⟨aH fH (xA A B c i),qk i o,8⟩=
  some (af.leaf au.ret [az 1 i fun i=>int .u32 (↑(o (i+0)):Int)]):=ah
theorem kB {A i:Nat} (h:nl A<=i):aE A i=0:=by
 unfold aE
 rw[Nat.div_eq_of_lt (eo.1 h)]
def nP (A B c:Nat):Nat->List AV
 |0=>[.mag A,.mag B,.nil,.int .u64 c,.int .i64 0]
 |i+1=>xA A B c (i+1)
def nX (o:Nat->Nat):Nat->aG
 |0=>[]
 |i+1=>qk (i+1) o
theorem rK {A B c i:Nat}:lV 8 (nP A B c i)=true:=by cases i<;>rfl
theorem qV {o:Nat->Nat} {i:Nat}:jA 8 (nX o i):=by
 cases i
 ·trivial
 ·exact⟨⟨aa,fun _ _=>rfl⟩,trivial⟩
section fadd
variable {c0:Ctx} (h0:c0.k0=bz) {A B:Nat} {Q:au->aL->Prop}
include h0 in
theorem Sh {c i:Nat} {o:Nat->Nat} {s':aL} (hc:c<=1) (hv:bp fH s'=some (nP A B c i,nX o i))
  (fin:∀s',bp fH s'=some (nP A B (c+aE A i+aE B i) i,nX o i)->Q .normal s'):aI P c0 f146.ntmps (before (part jW [1,0,0]) [1,1]) s' Q:=by
 have la:=eP (N:=A) (i:=i)
 have lb:=eP (N:=B) (i:=i)
 have wa:u64.wrap (aE A i:Int)=((aE A i:Nat):Int):=cG aa aa
 have wb:u64.wrap (aE B i:Int)=((aE B i:Nat):Int):=cG aa aa
 have w1:u64.wrap ((c:Int)+((aE A i:Nat):Int))=((c+aE A i:Nat):Int):=by rw[cG aa aa];omega
 have w2:u64.wrap ((c:Int)+((aE B i:Nat):Int))=((c+aE B i:Nat):Int):=by rw[cG aa aa];omega
 have w3:u64.wrap (((c+aE A i:Nat):Int)+((aE B i:Nat):Int))=((c+aE A i+aE B i:Nat):Int):=by rw[cG aa aa];omega
 cases i with
 |zero=>
  refine aI.gC hT gn hm 60 hv (lF h0) rK qV fH acw ah ah ?_
  simp only[af.all,aF,bI,bO,Int.toNat_zero]
  rw[wa,wb,w1,w2,w3]
  refine⟨fun h1=>⟨aa,fun h2=>⟨aa,fun s' hv=>fin s' hv⟩,fun h2 s' hv=>fin s' (eU hv ?_ rfl)⟩,fun h1=>⟨fun h2=>⟨aa,fun s' hv=>fin s' (eU hv ?_ rfl)⟩,fun h2 s' hv=>fin s' (eU hv ?_ rfl)⟩⟩
  ·rw[kB (A:=B) aa];rfl
  ·rw[kB (A:=A) aa];rfl
  ·rw[kB (A:=A) aa,kB (A:=B) aa];rfl
 |succ i=>
  refine aI.gC hT gn hm 60 hv (lF h0) rK qV fH U8 ah ah ?_
  simp only[af.all,aF,bI,bO,bJ]
  rw[wa,wb,w1,w2,w3]
  refine⟨fun h1=>⟨aa,fun h2=>⟨aa,fun s' hv=>fin s' hv⟩,fun h2 s' hv=>fin s' (eU hv ?_ rfl)⟩,fun h1=>⟨fun h2=>⟨aa,fun s' hv=>fin s' (eU hv ?_ rfl)⟩,fun h2 s' hv=>fin s' (eU hv ?_ rfl)⟩⟩
  ·rw[kB (A:=B) aa];rfl
  ·rw[kB (A:=A) aa];rfl
  ·rw[kB (A:=A) aa,kB (A:=B) aa];rfl
include h0 in
theorem aaA {c i:Nat} {o:Nat->Nat} {s':aL} (hi:i<2^41) (hv:bp fH s'=some (nP A B c i,nX o i))
  (fin:∀s',(∃ρ,Le c0 ρ s' ⟨aH fH [.mag A,.mag B,.own 7 1 0 (i+1),.int .u64 (c/4294967296:Nat),.int .i64 i],qk (i+1) (cP o i (c%4294967296)),8⟩)->Q .normal s'):aA P c0 f146.ntmps (part (part jW [1,0,0]) [1,1]) s' Q:=by
 have hd:(c:Int).fdiv (2^min (Int.toNat 32) u64.bits)=((c/4294967296:Nat):Int):=by rw[nk];omega
 cases i with
 |zero=>
  refine aA.gC hT gn hm 60 hv (lF h0) rK qV fH VH ah ?_
  rw[hd]
  simp only[af.all,aF]
  refine⟨⟨aa,aa,aa⟩,aa,fun s' hv=>fin s' ?_⟩
  refine eC (vs:=[.mag A,.mag B,.own 7 1 0 1,.int .u64 (c/4294967296:Nat),.int .i64 0]) (ps:=qk 1 (cP o 0 (c%4294967296))) (nx:=8) [(7,16392)] hv h0 rfl ⟨aU,aU,⟨rfl,e9 rfl rfl rfl⟩,aU,aU,trivial⟩
   ⟨⟨_,_,rfl,rfl,gV rfl fun j hj=>?_⟩,trivial⟩
  have:j=0:=aa
  subst this
  simp[nth,aD,lR,k9]
 |succ i=>
  refine aA.gC hT gn hm 60 hv (lF h0) rK qV fH aff ah ?_
  rw[hd]
  simp only[af.all,aF]
  refine⟨⟨aa,aa⟩,aa,fun s' hv=>fin s' ?_⟩
  refine eC (vs:=[.mag A,.mag B,.own 7 1 0 (i+1+1),.int .u64 (c/4294967296:Nat),.int .i64 ((i+1:Nat):Int)]) (ps:=qk (i+1+1) (cP o (i+1) (c%4294967296))) (nx:=8) [(7,16392)] hv h0 rfl ⟨aU,aU,⟨rfl,e9 rfl rfl rfl⟩,aU,aU,trivial⟩
   ⟨⟨_,_,rfl,rfl,gV rfl fun j hj=>?_⟩,trivial⟩
  by_cases h:j<i+1
  ·rw[if_pos h];unfold aD;rw[g8 aa]
  ·have:j=i+1:=aa
   subst this
   simp[nth,aD,lR,k9]
end fadd
theorem aa2 {c i:Nat} {o:Nat->Nat} {c0:Ctx} {Q:au->aL->Prop} {A B:Nat} (yes:∀s',(i<nl A\/i<nl B\/c≠0)->bp fH s'=some (nP A B c i,nX o i)->Q .normal s')
  (no:∀s',nl A<=i->nl B<=i->c=0->bp fH s'=some (nP A B c i,nX o i)->Q (.exit 0) s'):aA P c0 f146.ntmps (part jW [0]) ⟨aH fH (nP A B c i),nX o i,8⟩ Q:=by
 cases i with
 |zero=>
  refine aA.bM hT gn hm 60 fH Z2 ah ?_
  refine⟨fun h=>⟨fun _=>⟨⟨h,rfl⟩,fun _ s' hv=>yes s' (.inl (by have:=of_decide_eq_true h;omega)) hv,fun hf=>by simp at hf⟩,fun hf=>by simp at hf⟩,
   fun h=>⟨fun h2=>⟨⟨h,h2⟩,fun _ s' hv=>yes s' (.inr (.inl (by have:=of_decide_eq_true (jC h2);omega))) hv,fun hf=>by simp at hf⟩,
    fun h2=>⟨⟨h,h2⟩,fun h3 s' hv=>yes s' (.inr (.inr ?_)) hv,fun h3 s' hv=>no s' ?_ ?_ ?_ hv⟩⟩⟩
  ·have:=jC h3
   simp at this;exact this
  ·have:=of_decide_eq_false h;omega
  ·have:=of_decide_eq_false (jC h2);omega
  ·have:=jC h3
   simp at this;exact this
 |succ i=>
  refine aA.bM hT gn hm 60 fH Se ah ?_
  refine⟨fun h=>⟨fun _=>⟨⟨h,rfl⟩,fun _ s' hv=>yes s' (.inl (by have:=of_decide_eq_true h;omega)) hv,fun hf=>by simp at hf⟩,fun hf=>by simp at hf⟩,
   fun h=>⟨fun h2=>⟨⟨h,h2⟩,fun _ s' hv=>yes s' (.inr (.inl (by have:=of_decide_eq_true (jC h2);omega))) hv,fun hf=>by simp at hf⟩,
    fun h2=>⟨⟨h,h2⟩,fun h3 s' hv=>yes s' (.inr (.inr ?_)) hv,fun h3 s' hv=>no s' ?_ ?_ ?_ hv⟩⟩⟩
  ·have:=jC h3
   simp at this;exact this
  ·have:=of_decide_eq_false h;omega
  ·have:=of_decide_eq_false (jC h2);omega
  ·have:=jC h3
   simp at this;exact this
theorem afJ {A B:Nat} (hA:nl A<2^40) (hB:nl B<2^40) (K:Nat):aY P 146 K [.mag A,.mag B] [] (aT (.mag (A+B)) []):=by
 refine lO hT adb rfl br rfl (fun _ c0 h0=>.down ?_) K []
 refine aA.hole [1,1,1,0,1] ah (aI.bM hT gn hm 60 fH aaS ah fun s' hv=>cU ?_)
 refine aA.jG (i:=0) (y:=jW) ah (fun p:Nat×Nat×(Nat->Nat)=>⟨aH fH (nP A B p.2.1 p.1),nX p.2.2 p.1,8⟩)
  (fun p=>(p.1<=max (nl A) (nl B)\/(p.1=max (nl A) (nl B)+1/\p.2.1=0/\2^(32*max (nl A) (nl B))<=A+B))/\p.2.1<=1/\(∀j,j<p.1->p.2.2 j<2^32)/\val p.1 p.2.2+p.2.1*2^(32*p.1)=val p.1 (aE A)+val p.1 (aE B))
  (fun p=>max (nl A) (nl B)+1-p.1) (0,0,fun _=>0) (q9 hv (lF h0) rK qV) ⟨by simp,by simp,fun j hj=>by simp only at hj;omega,by simp[val]⟩ ?_
 rintro⟨i,c,o⟩ ⟨hi,hc,ho,hval⟩
 simp only at hi hc ho hval
 have hAv:max (nl A) (nl B)<=i->val i (aE A)+val i (aE B)=A+B:=fun h=>by
  rw[rB (eo.1 aa),rB (eo.1 aa)]
 -- a round
 have body:∀{s':aL},(i<nl A\/i<nl B\/c≠0)->bp fH s'=some (nP A B c i,nX o i)->∀{QF:au->aL->Prop},
   aA P c0 f146.ntmps (part jW [1]) s' (fM (fun s'=>∃k:Nat×Nat×(Nat->Nat),(∃ρ,Le c0 ρ s' ⟨aH fH (nP A B k.2.1 k.1),nX k.2.2 k.1,8⟩)/\
    ((k.1<=max (nl A) (nl B)\/(k.1=max (nl A) (nl B)+1/\k.2.1=0/\2^(32*max (nl A) (nl B))<=A+B))/\k.2.1<=1/\(∀j,j<k.1->k.2.2 j<2^32)/\val k.1 k.2.2+k.2.1*2^(32*k.1)=val k.1 (aE A)+val k.1 (aE B))/\
    max (nl A) (nl B)+1-k.1<max (nl A) (nl B)+1-i) QF):=by
  intro s' hcont hv QF
  have hi':i<=max (nl A) (nl B):=aa
  have la:=eP (N:=A) (i:=i)
  have lb:=eP (N:=B) (i:=i)
  refine aA.hole [0] ah ?_
  show aA P c0 f146.ntmps (part jW [1,0]) s' _
  refine aA.qI (i:=1) (y:=part jW [1,0,0]) ah ?_
  refine aA.hole [1,1] ah (Sh h0 hc hv fun s' hv=>cU (aaA h0 aa hv fun s' hle=>cU ?_))
  show aI P c0 f146.ntmps [part jW [1,1]] s' _
  refine aI.weak rfl hle (aI.bM hT gn hm 60 fH Ra ah fun s' hv=>cU ?_)
  have hs:=CP (B:=2^(32*i)) (c:=c) (z:=aE A i) (y:=aE B i) rfl hval
  refine⟨(i+1,(c+aE A i+aE B i)/4294967296,cP o i ((c+aE A i+aE B i)%4294967296)),q9 (eU hv ?_ rfl) (lF h0) rK qV,⟨?_,by simp only;omega,fun j hj=>?_,?_⟩,by simp only;omega⟩
  ·rw[fY (a:=(i:Int)+1) (n:=i+1) aa aa];rfl
  ·simp only
   by_cases h:i<max (nl A) (nl B)
   ·exact .inl aa
   ·have e:i=max (nl A) (nl B):=aa
    have lA:=kB (A:=A) (i:=i) aa
    have lB:=kB (A:=B) (i:=i) aa
    refine .inr ⟨aa,by rw[lA,lB];omega,?_⟩
    rw[hAv aa]at hval
    have hc1:c=1:=aa
    rw[hc1,Nat.one_mul,e]at hval
    omega
  ·simp only at hj ⊢
   unfold cP
   split
   ·omega
   ·exact ho j aa
  ·simp only
   rw[rP,val,val,jn]
   omega
 -- the end
 have fin:∀{s':aL},nl A<=i->nl B<=i->c=0->bp fH s'=some (nP A B c i,nX o i)->aI P c0 f146.ntmps (behind (aJ f146) [1,1,1,0,1]) s' (gv c0 (Fin T f146 (.mag (A+B)))):=by
  intro s' h1 h2 h3 hv
  have hsum:val i o=A+B:=by rw[hAv aa,h3]at hval;omega
  cases i with
  |zero=>
   have:A+B=0:=by rw[<-hsum];rfl
   refine aI.lU hT gn hm 60 hv (lF h0) rK qV Sv ah ah ?_
   rw[this]
   exact mM
  |succ i=>
   refine aI.lU hT gn hm 60 hv (lF h0) rK qV RU ah ah ?_
   refine l8 ?_ fun j hj=>?_
   ·have l1:nl (A+B)<=i+1:=eo.2 (by rw[<-hsum];exact ia ho)
    have l2:¬nl (A+B)<=i:=by
     intro h
     rcases hi with hi|⟨hi,_,hi2⟩
     ·have:=jt (show A<=A+B by omega)
      have:=jt (show B<=A+B by omega)
      omega
     ·rw[eo]at h
      rw[show max (nl A) (nl B)=i by omega]at hi2
      omega
    omega
   ·rw[<-hsum,rG ho hj];rfl
 refine aA.hole [0] ah (show aA P c0 f146.ntmps (part jW [0]) _ _ from aa2 (fun s' h hv=>cU ?_) fun s' h1 h2 h3 hv=>sP (gD (cU (fin h1 h2 h3 hv))))
 show aI P c0 f146.ntmps [part jW [1]] s' _
 exact body h hv
def Ki:Spec:=oX (fun A B=>.mag (A+B)) CJ
theorem Qx:bF P Ki 146:=qB fun h=>afJ h.1 h.2
end Go.Am.B
