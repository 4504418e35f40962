/- ref01: Add, minus, Sub, Mul, byLimb. -/
import Derived.Test.YtolopdkjjlfgjaaGreatB22
set_option linter.unusedVariables false
namespace Go.Am.B
open Go Go.Am.N AV Proofs.Tryz IntKind
theorem RI:br 146 f146:=bu func146
abbrev fC:List Nat:=[0,1,5,6,7]
abbrev xy (A B c i:Nat):List AV:=[.mag A,.mag B,.own 7 1 0 i,.int .u64 c,.int .i64 i]
abbrev pT (i:Nat) (o:Nat->Nat):aE:=[(7,⟨true,true,1,i,aA o⟩)]
noncomputable abbrev jQ:Code:=part (aI f146) [1,1,1,0,1,0,0]
theorem afQ {A B:Nat}:aH T fW [] 60 fC (before (aI f146) [1,1,1,0,1]) ⟨aU 0 [.mag A,.mag B],[],0⟩=
  some (af.leaf aq.normal ([mag A,mag B,nil,int .u64 (0:Int),int .i64 (0:Int)],[])):=ah
theorem afX {A B c:Nat}:aH T fW [12,18,21] 60 fC [part jQ [0]] ⟨aB fC [.mag A,.mag B,.nil,.int .u64 c,.int .i64 0],[],8⟩=
  let c3:Bool:=bif false then true else decide ((0:Int)<(↑(nl B):Int));let c2:Bool:=decide ((0:Int)<(↑(nl A):Int));let c1:List AV×aE:=([mag A,mag B,nil,int .u64 (↑c:Int),int .i64 (0:Int)],[]);let c5:af (List AV×aE):=af.fork true (af.leaf aq.normal c1) (af.leaf (aq.exit 0) c1);let c4:af (List AV×aE):=af.fork (bif false then true else(↑c:Int)!=0) (af.leaf aq.normal c1) (af.leaf (aq.exit 0) c1);some (af.fork c2 (af.fork true (af.aj [c2=true,true=true] c5) (af.aj [c2=true,true=false] c4)) (af.fork c3 (af.aj [c2=false,c3=true] c5) (af.aj [c2=false,c3=false] c4))):=ah
theorem Zu {A B c i:Nat} {o:Nat->Nat}:aH T fW [12,18,21] 60 fC [part jQ [0]] ⟨aB fC (xy A B c i),pT i o,8⟩=
  let c6:Int:=(↑i:Int);let c3:Bool:=bif false then true else decide (c6<(↑(nl B):Int));let c2:Bool:=decide (c6<(↑(nl A):Int));let c1:List AV×aE:=([mag A,mag B,own 7 1 0 i,int .u64 (↑c:Int),int .i64 c6],[(7,ax.mk true true 1 i fun a=>int .u32 (↑(o a):Int))]);let c5:af (List AV×aE):=af.fork true (af.leaf aq.normal c1) (af.leaf (aq.exit 0) c1);let c4:af (List AV×aE):=af.fork (bif false then true else(↑c:Int)!=0) (af.leaf aq.normal c1) (af.leaf (aq.exit 0) c1);some (af.fork c2 (af.fork true (af.aj [c2=true,true=true] c5) (af.aj [c2=true,true=false] c4)) (af.fork c3 (af.aj [c2=false,c3=true] c5) (af.aj [c2=false,c3=false] c4))):=ah
theorem VN {A B c:Nat}:aH T fW [27,38] 60 fC (before (part jQ [1,0,0]) [1,1]) ⟨aB fC [.mag A,.mag B,.nil,.int .u64 c,.int .i64 0],[],8⟩=
  let c5:Prop:=(0:Int)<=0;let c4:Int:=(↑(nl B):Int);let c2:List AV:=[int .i64 (0:Int)];let c1:Nat:=Int.toNat (0:Int);let c6:Int:=u64.wrap (↑(aD B c1):Int);let c3:Int:=u64.wrap ((↑c:Int)+u64.wrap (↑(aD A c1):Int));some (af.fork (decide ((0:Int)<(↑(nl A):Int))) (af.aj [c5/\c1<nl A] (af.fork (decide ((0:Int)<c4)) (af.aj [c5/\c1<nl B] (af.leaf aq.normal (mag A::mag B::nil::int .u64 (u64.wrap (c3+c6))::c2,[]))) (af.leaf aq.normal (mag A::mag B::nil::int .u64 c3::c2,[])))) (af.fork (decide ((0:Int)<c4)) (af.aj [c5/\c1<nl B] (af.leaf aq.normal (mag A::mag B::nil::int .u64 (u64.wrap ((↑c:Int)+c6))::c2,[]))) (af.leaf aq.normal (mag A::mag B::nil::int .u64 (↑c:Int)::c2,[])))):=ah
theorem Qx {A B c i:Nat} {o:Nat->Nat}:aH T fW [27,38] 60 fC (before (part jQ [1,0,0]) [1,1]) ⟨aB fC (xy A B c i),pT i o,8⟩=
  let c7:Int:=(↑(nl B):Int);let c3:AV:=own 7 1 0 i;let c2:Int:=(↑i:Int);let c1:Nat×ax:=(7,ax.mk true true 1 i fun a=>int .u32 (↑(o a):Int));let c8:Prop:=(0:Int)<=c2/\c2.toNat<nl B;let c6:Int:=u64.wrap (↑(aD B c2.toNat):Int);let c5:List AV:=[int .i64 c2];let c4:Int:=u64.wrap ((↑c:Int)+u64.wrap (↑(aD A c2.toNat):Int));some (af.fork (decide (c2<(↑(nl A):Int))) (af.aj [(0:Int)<=c2/\c2.toNat<nl A] (af.fork (decide (c2<c7)) (af.aj [c8] (af.leaf aq.normal (mag A::mag B::c3::int .u64 (u64.wrap (c4+c6))::c5,[c1]))) (af.leaf aq.normal (mag A::mag B::c3::int .u64 c4::c5,[c1])))) (af.fork (decide (c2<c7)) (af.aj [c8] (af.leaf aq.normal (mag A::mag B::c3::int .u64 (u64.wrap ((↑c:Int)+c6))::c5,[c1]))) (af.leaf aq.normal (mag A::mag B::c3::int .u64 (↑c:Int)::c5,[c1])))):=ah
theorem QV {A B c:Nat}:aH T fW [] 60 fC [part (part jQ [1,0,0]) [1,1]] ⟨aB fC [.mag A,.mag B,.nil,.int .u64 c,.int .i64 0],[],8⟩=
  some (af.aj [(1:Nat)*1<=2^24,(0:Nat)<1/\1*((4:Nat)+1)*2<=2^47] (af.aj [(0:Int)<=32] (af.leaf aq.normal ([mag A,mag B,own 16392 1 0 1,int .u64 ((↑c:Int).fdiv ((2:Int)^min (Int.toNat (32:Int)) u64.bits)),int .i64 (0:Int)],[(16392,ax.mk true true 1 1 fun i=>nth [int .u32 (u32.wrap (↑c:Int))] (int .u32 (0:Int)) (i+0))])))):=ah
theorem ag8 {A B c i:Nat} {o:Nat->Nat}:aH T fW [] 60 fC [part (part jQ [1,0,0]) [1,1]] ⟨aB fC (xy A B c i),pT i o,8⟩=
  some (af.aj [(1:Nat)*1<=2^24,(i+1)*((4:Nat)+1)*2<=2^47] (af.aj [(0:Int)<=32] (af.leaf aq.normal ([mag A,mag B,own 16392 1 0 (i+1),int .u64 ((↑c:Int).fdiv ((2:Int)^min (Int.toNat (32:Int)) u64.bits)),int .i64 (↑i:Int)],[(16392,ax.mk true true 1 (i+1) fun i_1=>if i_1<i then aA o i_1 else nth [int .u32 (u32.wrap (↑c:Int))] (int .u32 (0:Int)) (i_1-i+0))])))):=ah
theorem ZH {A B c i j:Nat} {o:Nat->Nat}:aH T fW [] 60 fC [part jQ [1,1]] ⟨aB fC [.mag A,.mag B,.own 7 1 0 i,.int .u64 c,.int .i64 j],pT i o,8⟩=
  some (af.leaf aq.normal ([mag A,mag B,own 7 1 0 i,int .u64 (↑c:Int),int .i64 (i64.wrap ((↑j:Int)+1))],[(7,ax.mk true true 1 i fun a=>int .u32 (↑(o a):Int))])):=ah
theorem ac2 {A B c:Nat}:cR T fW [] 60 f146 (behind (aI f146) [1,1,1,0,1]) ⟨aB fC [.mag A,.mag B,.nil,.int .u64 c,.int .i64 0],[],8⟩=
  some (af.leaf aq.ret [nil]):=ah
theorem afk {A B c i:Nat} {o:Nat->Nat}:cR T fW [] 60 f146 (behind (aI f146) [1,1,1,0,1]) ⟨aB fC (xy A B c i),pT i o,8⟩=
  some (af.leaf aq.ret [ak 1 i fun i=>int .u32 (↑(o (i+0)):Int)]):=ah
theorem ki {A i:Nat} (h:nl A<=i):aD A i=0:=by
 unfold aD
 rw[Nat.div_eq_of_lt (eo.1 h)]
def nF (A B c:Nat):Nat->List AV
 |0=>[.mag A,.mag B,.nil,.int .u64 c,.int .i64 0]
 |i+1=>xy A B c (i+1)
def m8 (o:Nat->Nat):Nat->aE
 |0=>[]
 |i+1=>pT (i+1) o
theorem qW {A B c i:Nat}:l8 8 (nF A B c i)=true:=by cases i<;>rfl
theorem qI {o:Nat->Nat} {i:Nat}:jA 8 (m8 o i):=by
 cases i
 ·trivial
 ·exact⟨⟨aa,fun _ _=>rfl⟩,trivial⟩
section fadd
variable {c0:Ctx} (h0:c0.k0=bE) {A B:Nat} {Q:aq->aK->Prop}
include h0 in
theorem agC {c i:Nat} {o:Nat->Nat} {s':aK} (hc:c<=1) (hv:bA fC s'=some (nF A B c i,m8 o i))
  (fin:∀s',bA fC s'=some (nF A B (c+aD A i+aD B i) i,m8 o i)->Q .normal s'):aF P c0 f146.ntmps (before (part jQ [1,0,0]) [1,1]) s' Q:=by
 have la:=eO (N:=A) (i:=i)
 have lb:=eO (N:=B) (i:=i)
 have wa:u64.wrap (aD A i:Int)=((aD A i:Nat):Int):=cJ aa aa
 have wb:u64.wrap (aD B i:Int)=((aD B i:Nat):Int):=cJ aa aa
 have w1:u64.wrap ((c:Int)+((aD A i:Nat):Int))=((c+aD A i:Nat):Int):=by rw[cJ aa aa];omega
 have w2:u64.wrap ((c:Int)+((aD B i:Nat):Int))=((c+aD B i:Nat):Int):=by rw[cJ aa aa];omega
 have w3:u64.wrap (((c+aD A i:Nat):Int)+((aD B i:Nat):Int))=((c+aD A i+aD B i:Nat):Int):=by rw[cJ aa aa];omega
 cases i with
 |zero=>
  refine aF.gh hT fZ hm 60 hv (kr h0) qW qI fC VN ah ah ?_
  simp only[af.all,az,bD,bI,Int.toNat_zero]
  rw[wa,wb,w1,w2,w3]
  refine⟨fun h1=>⟨aa,fun h2=>⟨aa,fun s' hv=>fin s' hv⟩,fun h2 s' hv=>fin s' (eP hv ?_ rfl)⟩,fun h1=>⟨fun h2=>⟨aa,fun s' hv=>fin s' (eP hv ?_ rfl)⟩,fun h2 s' hv=>fin s' (eP hv ?_ rfl)⟩⟩
  ·rw[ki (A:=B) aa];rfl
  ·rw[ki (A:=A) aa];rfl
  ·rw[ki (A:=A) aa,ki (A:=B) aa];rfl
 |succ i=>
  refine aF.gh hT fZ hm 60 hv (kr h0) qW qI fC Qx ah ah ?_
  simp only[af.all,az,bD,bI,bG]
  rw[wa,wb,w1,w2,w3]
  refine⟨fun h1=>⟨aa,fun h2=>⟨aa,fun s' hv=>fin s' hv⟩,fun h2 s' hv=>fin s' (eP hv ?_ rfl)⟩,fun h1=>⟨fun h2=>⟨aa,fun s' hv=>fin s' (eP hv ?_ rfl)⟩,fun h2 s' hv=>fin s' (eP hv ?_ rfl)⟩⟩
  ·rw[ki (A:=B) aa];rfl
  ·rw[ki (A:=A) aa];rfl
  ·rw[ki (A:=A) aa,ki (A:=B) aa];rfl
include h0 in
theorem UJ {c i:Nat} {o:Nat->Nat} {s':aK} (hi:i<2^41) (hv:bA fC s'=some (nF A B c i,m8 o i))
  (fin:∀s',(∃ρ,Le c0 ρ s' ⟨aB fC [.mag A,.mag B,.own 7 1 0 (i+1),.int .u64 (c/4294967296:Nat),.int .i64 i],pT (i+1) (cQ o i (c%4294967296)),8⟩)->Q .normal s'):au P c0 f146.ntmps (part (part jQ [1,0,0]) [1,1]) s' Q:=by
 have hd:(c:Int).fdiv (2^min (Int.toNat 32) u64.bits)=((c/4294967296:Nat):Int):=by rw[mO];omega
 cases i with
 |zero=>
  refine au.gh hT fZ hm 60 hv (kr h0) qW qI fC QV ah ?_
  rw[hd]
  simp only[af.all,az]
  refine⟨⟨aa,aa,aa⟩,aa,fun s' hv=>fin s' ?_⟩
  refine eA (vs:=[.mag A,.mag B,.own 7 1 0 1,.int .u64 (c/4294967296:Nat),.int .i64 0]) (ps:=pT 1 (cQ o 0 (c%4294967296))) (nx:=8) [(7,16392)] hv h0 rfl ⟨aP,aP,⟨rfl,ec rfl rfl rfl⟩,aP,aP,trivial⟩
   ⟨⟨_,_,rfl,rfl,gC rfl fun j hj=>?_⟩,trivial⟩
  have:j=0:=aa
  subst this
  simp[nth,aA,kP,kz]
 |succ i=>
  refine au.gh hT fZ hm 60 hv (kr h0) qW qI fC ag8 ah ?_
  rw[hd]
  simp only[af.all,az]
  refine⟨⟨aa,aa⟩,aa,fun s' hv=>fin s' ?_⟩
  refine eA (vs:=[.mag A,.mag B,.own 7 1 0 (i+1+1),.int .u64 (c/4294967296:Nat),.int .i64 ((i+1:Nat):Int)]) (ps:=pT (i+1+1) (cQ o (i+1) (c%4294967296))) (nx:=8) [(7,16392)] hv h0 rfl ⟨aP,aP,⟨rfl,ec rfl rfl rfl⟩,aP,aP,trivial⟩
   ⟨⟨_,_,rfl,rfl,gC rfl fun j hj=>?_⟩,trivial⟩
  by_cases h:j<i+1
  ·rw[if_pos h];unfold aA;rw[gG aa]
  ·have:j=i+1:=aa
   subst this
   simp[nth,aA,kP,kz]
end fadd
theorem WY {c i:Nat} {o:Nat->Nat} {c0:Ctx} {Q:aq->aK->Prop} {A B:Nat} (yes:∀s',(i<nl A\/i<nl B\/c≠0)->bA fC s'=some (nF A B c i,m8 o i)->Q .normal s')
  (no:∀s',nl A<=i->nl B<=i->c=0->bA fC s'=some (nF A B c i,m8 o i)->Q (.exit 0) s'):au P c0 f146.ntmps (part jQ [0]) ⟨aB fC (nF A B c i),m8 o i,8⟩ Q:=by
 cases i with
 |zero=>
  refine au.bL hT fZ hm 60 fC afX ah ?_
  refine⟨fun h=>⟨fun _=>⟨⟨h,rfl⟩,fun _ s' hv=>yes s' (.inl (by have:=of_decide_eq_true h;omega)) hv,fun hf=>by simp at hf⟩,fun hf=>by simp at hf⟩,
   fun h=>⟨fun h2=>⟨⟨h,h2⟩,fun _ s' hv=>yes s' (.inr (.inl (by have:=of_decide_eq_true (jt h2);omega))) hv,fun hf=>by simp at hf⟩,
    fun h2=>⟨⟨h,h2⟩,fun h3 s' hv=>yes s' (.inr (.inr ?_)) hv,fun h3 s' hv=>no s' ?_ ?_ ?_ hv⟩⟩⟩
  ·have:=jt h3
   simp at this;exact this
  ·have:=of_decide_eq_false h;omega
  ·have:=of_decide_eq_false (jt h2);omega
  ·have:=jt h3
   simp at this;exact this
 |succ i=>
  refine au.bL hT fZ hm 60 fC Zu ah ?_
  refine⟨fun h=>⟨fun _=>⟨⟨h,rfl⟩,fun _ s' hv=>yes s' (.inl (by have:=of_decide_eq_true h;omega)) hv,fun hf=>by simp at hf⟩,fun hf=>by simp at hf⟩,
   fun h=>⟨fun h2=>⟨⟨h,h2⟩,fun _ s' hv=>yes s' (.inr (.inl (by have:=of_decide_eq_true (jt h2);omega))) hv,fun hf=>by simp at hf⟩,
    fun h2=>⟨⟨h,h2⟩,fun h3 s' hv=>yes s' (.inr (.inr ?_)) hv,fun h3 s' hv=>no s' ?_ ?_ ?_ hv⟩⟩⟩
  ·have:=jt h3
   simp at this;exact this
  ·have:=of_decide_eq_false h;omega
  ·have:=of_decide_eq_false (jt h2);omega
  ·have:=jt h3
   simp at this;exact this
theorem S3 {A B:Nat} (hA:nl A<2^40) (hB:nl B<2^40) (K:Nat):aS P 146 K [.mag A,.mag B] [] (aM (.mag (A+B)) []):=by
 refine kI hT RI rfl aZ rfl (fun _ c0 h0=>.down ?_) K []
 refine au.hole [1,1,1,0,1] ah (aF.bL hT fZ hm 60 fC afQ ah fun s' hv=>cW ?_)
 refine au.iX (i:=0) (y:=jQ) ah (fun p:Nat×Nat×(Nat->Nat)=>⟨aB fC (nF A B p.2.1 p.1),m8 p.2.2 p.1,8⟩)
  (fun p=>(p.1<=max (nl A) (nl B)\/(p.1=max (nl A) (nl B)+1/\p.2.1=0/\2^(32*max (nl A) (nl B))<=A+B))/\p.2.1<=1/\(∀j,j<p.1->p.2.2 j<2^32)/\val p.1 p.2.2+p.2.1*2^(32*p.1)=val p.1 (aD A)+val p.1 (aD B))
  (fun p=>max (nl A) (nl B)+1-p.1) (0,0,fun _=>0) (qQ hv (kr h0) qW qI) ⟨by simp,by simp,fun j hj=>by simp only at hj;omega,by simp[val]⟩ ?_
 rintro⟨i,c,o⟩ ⟨hi,hc,ho,hval⟩
 simp only at hi hc ho hval
 have hAv:max (nl A) (nl B)<=i->val i (aD A)+val i (aD B)=A+B:=fun h=>by
  rw[qm (eo.1 aa),qm (eo.1 aa)]
 -- a round
 have body:∀{s':aK},(i<nl A\/i<nl B\/c≠0)->bA fC s'=some (nF A B c i,m8 o i)->∀{QF:aq->aK->Prop},
   au P c0 f146.ntmps (part jQ [1]) s' (fF (fun s'=>∃k:Nat×Nat×(Nat->Nat),(∃ρ,Le c0 ρ s' ⟨aB fC (nF A B k.2.1 k.1),m8 k.2.2 k.1,8⟩)/\
    ((k.1<=max (nl A) (nl B)\/(k.1=max (nl A) (nl B)+1/\k.2.1=0/\2^(32*max (nl A) (nl B))<=A+B))/\k.2.1<=1/\(∀j,j<k.1->k.2.2 j<2^32)/\val k.1 k.2.2+k.2.1*2^(32*k.1)=val k.1 (aD A)+val k.1 (aD B))/\
    max (nl A) (nl B)+1-k.1<max (nl A) (nl B)+1-i) QF):=by
  intro s' hcont hv QF
  have hi':i<=max (nl A) (nl B):=aa
  have la:=eO (N:=A) (i:=i)
  have lb:=eO (N:=B) (i:=i)
  refine au.hole [0] ah ?_
  show au P c0 f146.ntmps (part jQ [1,0]) s' _
  refine au.qF (i:=1) (y:=part jQ [1,0,0]) ah ?_
  refine au.hole [1,1] ah (agC h0 hc hv fun s' hv=>cW (UJ h0 aa hv fun s' hle=>cW ?_))
  show aF P c0 f146.ntmps [part jQ [1,1]] s' _
  refine aF.weak rfl hle (aF.bL hT fZ hm 60 fC ZH ah fun s' hv=>cW ?_)
  have hs:=DZ (B:=2^(32*i)) (c:=c) (z:=aD A i) (y:=aD B i) rfl hval
  refine⟨(i+1,(c+aD A i+aD B i)/4294967296,cQ o i ((c+aD A i+aD B i)%4294967296)),qQ (eP hv ?_ rfl) (kr h0) qW qI,⟨?_,by simp only;omega,fun j hj=>?_,?_⟩,by simp only;omega⟩
  ·rw[fR (a:=(i:Int)+1) (n:=i+1) aa aa];rfl
  ·simp only
   by_cases h:i<max (nl A) (nl B)
   ·exact .inl aa
   ·have e:i=max (nl A) (nl B):=aa
    have lA:=ki (A:=A) (i:=i) aa
    have lB:=ki (A:=B) (i:=i) aa
    refine .inr ⟨aa,by rw[lA,lB];omega,?_⟩
    rw[hAv aa]at hval
    have hc1:c=1:=aa
    rw[hc1,Nat.one_mul,e]at hval
    omega
  ·simp only at hj ⊢
   unfold cQ
   split
   ·omega
   ·exact ho j aa
  ·simp only
   rw[sj,val,val,je]
   omega
 -- the end
 have fin:∀{s':aK},nl A<=i->nl B<=i->c=0->bA fC s'=some (nF A B c i,m8 o i)->aF P c0 f146.ntmps (behind (aI f146) [1,1,1,0,1]) s' (gq c0 (Fin T f146 (.mag (A+B)))):=by
  intro s' h1 h2 h3 hv
  have hsum:val i o=A+B:=by rw[hAv aa,h3]at hval;omega
  cases i with
  |zero=>
   have:A+B=0:=by rw[<-hsum];rfl
   refine aF.lI hT fZ hm 60 hv (kr h0) qW qI ac2 ah ah ?_
   rw[this]
   exact lT
  |succ i=>
   refine aF.lI hT fZ hm 60 hv (kr h0) qW qI afk ah ah ?_
   refine kY ?_ fun j hj=>?_
   ·have l1:nl (A+B)<=i+1:=eo.2 (by rw[<-hsum];exact gV ho)
    have l2:¬nl (A+B)<=i:=by
     intro h
     rcases hi with hi|⟨hi,_,hi2⟩
     ·have:=jd (show A<=A+B by omega)
      have:=jd (show B<=A+B by omega)
      omega
     ·rw[eo]at h
      rw[show max (nl A) (nl B)=i by omega]at hi2
      omega
    omega
   ·rw[<-hsum,qe ho hj];rfl
 refine au.hole [0] ah (show au P c0 f146.ntmps (part jQ [0]) _ _ from WY (fun s' h hv=>cW ?_) fun s' h1 h2 h3 hv=>su (gv (cW (fin h1 h2 h3 hv))))
 show aF P c0 f146.ntmps [part jQ [1]] s' _
 exact body h hv
def Kl:Spec:=oH (fun A B=>.mag (A+B)) Gn
theorem ae8:bf P Kl 146:=qK fun h=>S3 h.1 h.2
end Go.Am.B
