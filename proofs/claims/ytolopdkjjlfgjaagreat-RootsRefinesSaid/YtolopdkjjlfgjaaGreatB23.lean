/- ref01: Add, minus, Sub, Mul, byLimb. -/
import Derived.Test.YtolopdkjjlfgjaaGreatB22
set_option linter.unusedVariables false
namespace Go.Am.B
open Go Go.Am.N AV Proofs.Tryz IntKind
theorem ajT:bf 146 f146:=bg func146
abbrev fH:List Nat:=[0,1,5,6,7]
abbrev zB (A B c i:Nat):List AV:=[.mag A,.mag B,.own 7 1 0 i,.int .u64 c,.int .i64 i]
abbrev pV (i:Nat) (o:Nat->Nat):aE:=[(7,⟨true,true,1,i,aB o⟩)]
noncomputable abbrev jQ:Code:=part (aH f146) [1,1,1,0,1,0,0]
theorem aa8 {A B:Nat}:aI T fY [] 60 fH (before (aH f146) [1,1,1,0,1]) ⟨aU 0 [.mag A,.mag B],[],0⟩=
  some (ag.leaf aq.normal ([mag A,mag B,nil,int .u64 (0:Int),int .i64 (0:Int)],[])):=ah
theorem WM {A B c:Nat}:aI T fY [12,18,21] 60 fH [part jQ [0]] ⟨aC fH [.mag A,.mag B,.nil,.int .u64 c,.int .i64 0],[],8⟩=
  let c3:Bool:=bif false then true else decide ((0:Int)<(↑(nl B):Int));let c2:Bool:=decide ((0:Int)<(↑(nl A):Int));let c1:List AV×aE:=([mag A,mag B,nil,int .u64 (↑c:Int),int .i64 (0:Int)],[]);let c5:ag (List AV×aE):=ag.fork true (ag.leaf aq.normal c1) (ag.leaf (aq.exit 0) c1);let c4:ag (List AV×aE):=ag.fork (bif false then true else(↑c:Int)!=0) (ag.leaf aq.normal c1) (ag.leaf (aq.exit 0) c1);some (ag.fork c2 (ag.fork true (ag.aj [c2=true,true=true] c5) (ag.aj [c2=true,true=false] c4)) (ag.fork c3 (ag.aj [c2=false,c3=true] c5) (ag.aj [c2=false,c3=false] c4))):=ah
theorem aiF {A B c i:Nat} {o:Nat->Nat}:aI T fY [12,18,21] 60 fH [part jQ [0]] ⟨aC fH (zB A B c i),pV i o,8⟩=
  let c6:Int:=(↑i:Int);let c3:Bool:=bif false then true else decide (c6<(↑(nl B):Int));let c2:Bool:=decide (c6<(↑(nl A):Int));let c1:List AV×aE:=([mag A,mag B,own 7 1 0 i,int .u64 (↑c:Int),int .i64 c6],[(7,au.mk true true 1 i fun a=>int .u32 (↑(o a):Int))]);let c5:ag (List AV×aE):=ag.fork true (ag.leaf aq.normal c1) (ag.leaf (aq.exit 0) c1);let c4:ag (List AV×aE):=ag.fork (bif false then true else(↑c:Int)!=0) (ag.leaf aq.normal c1) (ag.leaf (aq.exit 0) c1);some (ag.fork c2 (ag.fork true (ag.aj [c2=true,true=true] c5) (ag.aj [c2=true,true=false] c4)) (ag.fork c3 (ag.aj [c2=false,c3=true] c5) (ag.aj [c2=false,c3=false] c4))):=ah
theorem acs {A B c:Nat}:aI T fY [27,38] 60 fH (before (part jQ [1,0,0]) [1,1]) ⟨aC fH [.mag A,.mag B,.nil,.int .u64 c,.int .i64 0],[],8⟩=
  let c5:Prop:=(0:Int)<=0;let c4:Int:=(↑(nl B):Int);let c2:List AV:=[int .i64 (0:Int)];let c1:Nat:=Int.toNat (0:Int);let c6:Int:=u64.wrap (↑(aD B c1):Int);let c3:Int:=u64.wrap ((↑c:Int)+u64.wrap (↑(aD A c1):Int));some (ag.fork (decide ((0:Int)<(↑(nl A):Int))) (ag.aj [c5/\c1<nl A] (ag.fork (decide ((0:Int)<c4)) (ag.aj [c5/\c1<nl B] (ag.leaf aq.normal (mag A::mag B::nil::int .u64 (u64.wrap (c3+c6))::c2,[]))) (ag.leaf aq.normal (mag A::mag B::nil::int .u64 c3::c2,[])))) (ag.fork (decide ((0:Int)<c4)) (ag.aj [c5/\c1<nl B] (ag.leaf aq.normal (mag A::mag B::nil::int .u64 (u64.wrap ((↑c:Int)+c6))::c2,[]))) (ag.leaf aq.normal (mag A::mag B::nil::int .u64 (↑c:Int)::c2,[])))):=ah
theorem ai9 {A B c i:Nat} {o:Nat->Nat}:aI T fY [27,38] 60 fH (before (part jQ [1,0,0]) [1,1]) ⟨aC fH (zB A B c i),pV i o,8⟩=
  let c7:Int:=(↑(nl B):Int);let c3:AV:=own 7 1 0 i;let c2:Int:=(↑i:Int);let c1:Nat×au:=(7,au.mk true true 1 i fun a=>int .u32 (↑(o a):Int));let c8:Prop:=(0:Int)<=c2/\c2.toNat<nl B;let c6:Int:=u64.wrap (↑(aD B c2.toNat):Int);let c5:List AV:=[int .i64 c2];let c4:Int:=u64.wrap ((↑c:Int)+u64.wrap (↑(aD A c2.toNat):Int));some (ag.fork (decide (c2<(↑(nl A):Int))) (ag.aj [(0:Int)<=c2/\c2.toNat<nl A] (ag.fork (decide (c2<c7)) (ag.aj [c8] (ag.leaf aq.normal (mag A::mag B::c3::int .u64 (u64.wrap (c4+c6))::c5,[c1]))) (ag.leaf aq.normal (mag A::mag B::c3::int .u64 c4::c5,[c1])))) (ag.fork (decide (c2<c7)) (ag.aj [c8] (ag.leaf aq.normal (mag A::mag B::c3::int .u64 (u64.wrap ((↑c:Int)+c6))::c5,[c1]))) (ag.leaf aq.normal (mag A::mag B::c3::int .u64 (↑c:Int)::c5,[c1])))):=ah
theorem TT {A B c:Nat}:aI T fY [] 60 fH [part (part jQ [1,0,0]) [1,1]] ⟨aC fH [.mag A,.mag B,.nil,.int .u64 c,.int .i64 0],[],8⟩=
  some (ag.aj [(1:Nat)*1<=2^24,(0:Nat)<1/\1*((4:Nat)+1)*2<=2^47] (ag.aj [(0:Int)<=32] (ag.leaf aq.normal ([mag A,mag B,own 16392 1 0 1,int .u64 ((↑c:Int).fdiv ((2:Int)^min (Int.toNat (32:Int)) u64.bits)),int .i64 (0:Int)],[(16392,au.mk true true 1 1 fun i=>nth [int .u32 (u32.wrap (↑c:Int))] (int .u32 (0:Int)) (i+0))])))):=ah
theorem adC {A B c i:Nat} {o:Nat->Nat}:aI T fY [] 60 fH [part (part jQ [1,0,0]) [1,1]] ⟨aC fH (zB A B c i),pV i o,8⟩=
  some (ag.aj [(1:Nat)*1<=2^24,(i+1)*((4:Nat)+1)*2<=2^47] (ag.aj [(0:Int)<=32] (ag.leaf aq.normal ([mag A,mag B,own 16392 1 0 (i+1),int .u64 ((↑c:Int).fdiv ((2:Int)^min (Int.toNat (32:Int)) u64.bits)),int .i64 (↑i:Int)],[(16392,au.mk true true 1 (i+1) fun i_1=>if i_1<i then aB o i_1 else nth [int .u32 (u32.wrap (↑c:Int))] (int .u32 (0:Int)) (i_1-i+0))])))):=ah
theorem aeL {A B c i j:Nat} {o:Nat->Nat}:aI T fY [] 60 fH [part jQ [1,1]] ⟨aC fH [.mag A,.mag B,.own 7 1 0 i,.int .u64 c,.int .i64 j],pV i o,8⟩=
  some (ag.leaf aq.normal ([mag A,mag B,own 7 1 0 i,int .u64 (↑c:Int),int .i64 (i64.wrap ((↑j:Int)+1))],[(7,au.mk true true 1 i fun a=>int .u32 (↑(o a):Int))])):=ah
theorem TQ {A B c:Nat}:cQ T fY [] 60 f146 (behind (aH f146) [1,1,1,0,1]) ⟨aC fH [.mag A,.mag B,.nil,.int .u64 c,.int .i64 0],[],8⟩=
  some (ag.leaf aq.ret [nil]):=ah
theorem acy {A B c i:Nat} {o:Nat->Nat}:cQ T fY [] 60 f146 (behind (aH f146) [1,1,1,0,1]) ⟨aC fH (zB A B c i),pV i o,8⟩=
  some (ag.leaf aq.ret [ak 1 i fun i=>int .u32 (↑(o (i+0)):Int)]):=ah
theorem kG {A i:Nat} (h:nl A<=i):aD A i=0:=by
 unfold aD
 rw[Nat.div_eq_of_lt (eA.1 h)]
def nD (A B c:Nat):Nat->List AV
 |0=>[.mag A,.mag B,.nil,.int .u64 c,.int .i64 0]
 |i+1=>zB A B c (i+1)
def nP (o:Nat->Nat):Nat->aE
 |0=>[]
 |i+1=>pV (i+1) o
theorem rD {A B c i:Nat}:lI 8 (nD A B c i)=true:=by cases i<;>rfl
theorem qM {o:Nat->Nat} {i:Nat}:jv 8 (nP o i):=by
 cases i
 ·trivial
 ·exact⟨⟨aa,fun _ _=>rfl⟩,trivial⟩
section fadd
variable {c0:Ctx} (h0:c0.k0=bI) {A B:Nat} {Q:aq->aN->Prop}
include h0 in
theorem ada {c i:Nat} {o:Nat->Nat} {s':aN} (hc:c<=1) (hv:bE fH s'=some (nD A B c i,nP o i))
  (fin:∀s',bE fH s'=some (nD A B (c+aD A i+aD B i) i,nP o i)->Q .normal s'):aG P c0 f146.ntmps (before (part jQ [1,0,0]) [1,1]) s' Q:=by
 have la:=eZ (N:=A) (i:=i)
 have lb:=eZ (N:=B) (i:=i)
 have wa:u64.wrap (aD A i:Int)=((aD A i:Nat):Int):=cK aa aa
 have wb:u64.wrap (aD B i:Int)=((aD B i:Nat):Int):=cK aa aa
 have w1:u64.wrap ((c:Int)+((aD A i:Nat):Int))=((c+aD A i:Nat):Int):=by rw[cK aa aa];omega
 have w2:u64.wrap ((c:Int)+((aD B i:Nat):Int))=((c+aD B i:Nat):Int):=by rw[cK aa aa];omega
 have w3:u64.wrap (((c+aD A i:Nat):Int)+((aD B i:Nat):Int))=((c+aD A i+aD B i:Nat):Int):=by rw[cK aa aa];omega
 cases i with
 |zero=>
  refine aG.gl hT gh hm 60 hv (kI h0) rD qM fH acs ah ah ?_
  simp only[ag.all,az,bB,bD,Int.toNat_zero]
  rw[wa,wb,w1,w2,w3]
  refine⟨fun h1=>⟨aa,fun h2=>⟨aa,fun s' hv=>fin s' hv⟩,fun h2 s' hv=>fin s' (fe hv ?_ rfl)⟩,fun h1=>⟨fun h2=>⟨aa,fun s' hv=>fin s' (fe hv ?_ rfl)⟩,fun h2 s' hv=>fin s' (fe hv ?_ rfl)⟩⟩
  ·rw[kG (A:=B) aa];rfl
  ·rw[kG (A:=A) aa];rfl
  ·rw[kG (A:=A) aa,kG (A:=B) aa];rfl
 |succ i=>
  refine aG.gl hT gh hm 60 hv (kI h0) rD qM fH ai9 ah ah ?_
  simp only[ag.all,az,bB,bD,bJ]
  rw[wa,wb,w1,w2,w3]
  refine⟨fun h1=>⟨aa,fun h2=>⟨aa,fun s' hv=>fin s' hv⟩,fun h2 s' hv=>fin s' (fe hv ?_ rfl)⟩,fun h1=>⟨fun h2=>⟨aa,fun s' hv=>fin s' (fe hv ?_ rfl)⟩,fun h2 s' hv=>fin s' (fe hv ?_ rfl)⟩⟩
  ·rw[kG (A:=B) aa];rfl
  ·rw[kG (A:=A) aa];rfl
  ·rw[kG (A:=A) aa,kG (A:=B) aa];rfl
include h0 in
theorem RS {c i:Nat} {o:Nat->Nat} {s':aN} (hi:i<2^41) (hv:bE fH s'=some (nD A B c i,nP o i))
  (fin:∀s',(∃ρ,Le c0 ρ s' ⟨aC fH [.mag A,.mag B,.own 7 1 0 (i+1),.int .u64 (c/4294967296:Nat),.int .i64 i],pV (i+1) (cV o i (c%4294967296)),8⟩)->Q .normal s'):ax P c0 f146.ntmps (part (part jQ [1,0,0]) [1,1]) s' Q:=by
 have hd:(c:Int).fdiv (2^min (Int.toNat 32) u64.bits)=((c/4294967296:Nat):Int):=by rw[mR];omega
 cases i with
 |zero=>
  refine ax.gl hT gh hm 60 hv (kI h0) rD qM fH TT ah ?_
  rw[hd]
  simp only[ag.all,az]
  refine⟨⟨aa,aa,aa⟩,aa,fun s' hv=>fin s' ?_⟩
  refine eG (vs:=[.mag A,.mag B,.own 7 1 0 1,.int .u64 (c/4294967296:Nat),.int .i64 0]) (ps:=pV 1 (cV o 0 (c%4294967296))) (nx:=8) [(7,16392)] hv h0 rfl ⟨aS,aS,⟨rfl,eE rfl rfl rfl⟩,aS,aS,trivial⟩
   ⟨⟨_,_,rfl,rfl,gI rfl fun j hj=>?_⟩,trivial⟩
  have:j=0:=aa
  subst this
  simp[nth,aB,lU,kX]
 |succ i=>
  refine ax.gl hT gh hm 60 hv (kI h0) rD qM fH adC ah ?_
  rw[hd]
  simp only[ag.all,az]
  refine⟨⟨aa,aa⟩,aa,fun s' hv=>fin s' ?_⟩
  refine eG (vs:=[.mag A,.mag B,.own 7 1 0 (i+1+1),.int .u64 (c/4294967296:Nat),.int .i64 ((i+1:Nat):Int)]) (ps:=pV (i+1+1) (cV o (i+1) (c%4294967296))) (nx:=8) [(7,16392)] hv h0 rfl ⟨aS,aS,⟨rfl,eE rfl rfl rfl⟩,aS,aS,trivial⟩
   ⟨⟨_,_,rfl,rfl,gI rfl fun j hj=>?_⟩,trivial⟩
  by_cases h:j<i+1
  ·rw[if_pos h];unfold aB;rw[gX aa]
  ·have:j=i+1:=aa
   subst this
   simp[nth,aB,lU,kX]
end fadd
theorem abI {c i:Nat} {o:Nat->Nat} {c0:Ctx} {Q:aq->aN->Prop} {A B:Nat} (yes:∀s',(i<nl A\/i<nl B\/c≠0)->bE fH s'=some (nD A B c i,nP o i)->Q .normal s')
  (no:∀s',nl A<=i->nl B<=i->c=0->bE fH s'=some (nD A B c i,nP o i)->Q (.exit 0) s'):ax P c0 f146.ntmps (part jQ [0]) ⟨aC fH (nD A B c i),nP o i,8⟩ Q:=by
 cases i with
 |zero=>
  refine ax.bO hT gh hm 60 fH WM ah ?_
  refine⟨fun h=>⟨fun _=>⟨⟨h,rfl⟩,fun _ s' hv=>yes s' (.inl (by have:=of_decide_eq_true h;omega)) hv,fun hf=>by simp at hf⟩,fun hf=>by simp at hf⟩,
   fun h=>⟨fun h2=>⟨⟨h,h2⟩,fun _ s' hv=>yes s' (.inr (.inl (by have:=of_decide_eq_true (jt h2);omega))) hv,fun hf=>by simp at hf⟩,
    fun h2=>⟨⟨h,h2⟩,fun h3 s' hv=>yes s' (.inr (.inr ?_)) hv,fun h3 s' hv=>no s' ?_ ?_ ?_ hv⟩⟩⟩
  ·have:=jt h3
   simp at this;exact this
  ·have:=of_decide_eq_false h;omega
  ·have:=of_decide_eq_false (jt h2);omega
  ·have:=jt h3
   simp at this;exact this
 |succ i=>
  refine ax.bO hT gh hm 60 fH aiF ah ?_
  refine⟨fun h=>⟨fun _=>⟨⟨h,rfl⟩,fun _ s' hv=>yes s' (.inl (by have:=of_decide_eq_true h;omega)) hv,fun hf=>by simp at hf⟩,fun hf=>by simp at hf⟩,
   fun h=>⟨fun h2=>⟨⟨h,h2⟩,fun _ s' hv=>yes s' (.inr (.inl (by have:=of_decide_eq_true (jt h2);omega))) hv,fun hf=>by simp at hf⟩,
    fun h2=>⟨⟨h,h2⟩,fun h3 s' hv=>yes s' (.inr (.inr ?_)) hv,fun h3 s' hv=>no s' ?_ ?_ ?_ hv⟩⟩⟩
  ·have:=jt h3
   simp at this;exact this
  ·have:=of_decide_eq_false h;omega
  ·have:=of_decide_eq_false (jt h2);omega
  ·have:=jt h3
   simp at this;exact this
theorem ajC {A B:Nat} (hA:nl A<2^40) (hB:nl B<2^40) (K:Nat):aQ P 146 K [.mag A,.mag B] [] (aL (.mag (A+B)) []):=by
 refine kO hT ajT rfl aX rfl (fun _ c0 h0=>.down ?_) K []
 refine ax.hole [1,1,1,0,1] ah (aG.bO hT gh hm 60 fH aa8 ah fun s' hv=>cZ ?_)
 refine ax.jj (i:=0) (y:=jQ) ah (fun p:Nat×Nat×(Nat->Nat)=>⟨aC fH (nD A B p.2.1 p.1),nP p.2.2 p.1,8⟩)
  (fun p=>(p.1<=max (nl A) (nl B)\/(p.1=max (nl A) (nl B)+1/\p.2.1=0/\2^(32*max (nl A) (nl B))<=A+B))/\p.2.1<=1/\(∀j,j<p.1->p.2.2 j<2^32)/\val p.1 p.2.2+p.2.1*2^(32*p.1)=val p.1 (aD A)+val p.1 (aD B))
  (fun p=>max (nl A) (nl B)+1-p.1) (0,0,fun _=>0) (rF hv (kI h0) rD qM) ⟨by simp,by simp,fun j hj=>by simp only at hj;omega,by simp[val]⟩ ?_
 rintro⟨i,c,o⟩ ⟨hi,hc,ho,hval⟩
 simp only at hi hc ho hval
 have hAv:max (nl A) (nl B)<=i->val i (aD A)+val i (aD B)=A+B:=fun h=>by
  rw[rM (eA.1 aa),rM (eA.1 aa)]
 -- a round
 have body:∀{s':aN},(i<nl A\/i<nl B\/c≠0)->bE fH s'=some (nD A B c i,nP o i)->∀{QF:aq->aN->Prop},
   ax P c0 f146.ntmps (part jQ [1]) s' (fI (fun s'=>∃k:Nat×Nat×(Nat->Nat),(∃ρ,Le c0 ρ s' ⟨aC fH (nD A B k.2.1 k.1),nP k.2.2 k.1,8⟩)/\
    ((k.1<=max (nl A) (nl B)\/(k.1=max (nl A) (nl B)+1/\k.2.1=0/\2^(32*max (nl A) (nl B))<=A+B))/\k.2.1<=1/\(∀j,j<k.1->k.2.2 j<2^32)/\val k.1 k.2.2+k.2.1*2^(32*k.1)=val k.1 (aD A)+val k.1 (aD B))/\
    max (nl A) (nl B)+1-k.1<max (nl A) (nl B)+1-i) QF):=by
  intro s' hcont hv QF
  have hi':i<=max (nl A) (nl B):=aa
  have la:=eZ (N:=A) (i:=i)
  have lb:=eZ (N:=B) (i:=i)
  refine ax.hole [0] ah ?_
  show ax P c0 f146.ntmps (part jQ [1,0]) s' _
  refine ax.rO (i:=1) (y:=part jQ [1,0,0]) ah ?_
  refine ax.hole [1,1] ah (ada h0 hc hv fun s' hv=>cZ (RS h0 aa hv fun s' hle=>cZ ?_))
  show aG P c0 f146.ntmps [part jQ [1,1]] s' _
  refine aG.weak rfl hle (aG.bO hT gh hm 60 fH aeL ah fun s' hv=>cZ ?_)
  have hs:=HZ (B:=2^(32*i)) (c:=c) (z:=aD A i) (y:=aD B i) rfl hval
  refine⟨(i+1,(c+aD A i+aD B i)/4294967296,cV o i ((c+aD A i+aD B i)%4294967296)),rF (fe hv ?_ rfl) (kI h0) rD qM,⟨?_,by simp only;omega,fun j hj=>?_,?_⟩,by simp only;omega⟩
  ·rw[fS (a:=(i:Int)+1) (n:=i+1) aa aa];rfl
  ·simp only
   by_cases h:i<max (nl A) (nl B)
   ·exact .inl aa
   ·have e:i=max (nl A) (nl B):=aa
    have lA:=kG (A:=A) (i:=i) aa
    have lB:=kG (A:=B) (i:=i) aa
    refine .inr ⟨aa,by rw[lA,lB];omega,?_⟩
    rw[hAv aa]at hval
    have hc1:c=1:=aa
    rw[hc1,Nat.one_mul,e]at hval
    omega
  ·simp only at hj ⊢
   unfold cV
   split
   ·omega
   ·exact ho j aa
  ·simp only
   rw[rV,val,val,jf]
   omega
 -- the end
 have fin:∀{s':aN},nl A<=i->nl B<=i->c=0->bE fH s'=some (nD A B c i,nP o i)->aG P c0 f146.ntmps (behind (aH f146) [1,1,1,0,1]) s' (gq c0 (Fin T f146 (.mag (A+B)))):=by
  intro s' h1 h2 h3 hv
  have hsum:val i o=A+B:=by rw[hAv aa,h3]at hval;omega
  cases i with
  |zero=>
   have:A+B=0:=by rw[<-hsum];rfl
   refine aG.lO hT gh hm 60 hv (kI h0) rD qM TQ ah ah ?_
   rw[this]
   exact l9
  |succ i=>
   refine aG.lO hT gh hm 60 hv (kI h0) rD qM acy ah ah ?_
   refine lT ?_ fun j hj=>?_
   ·have l1:nl (A+B)<=i+1:=eA.2 (by rw[<-hsum];exact g7 ho)
    have l2:¬nl (A+B)<=i:=by
     intro h
     rcases hi with hi|⟨hi,_,hi2⟩
     ·have:=iW (show A<=A+B by omega)
      have:=iW (show B<=A+B by omega)
      omega
     ·rw[eA]at h
      rw[show max (nl A) (nl B)=i by omega]at hi2
      omega
    omega
   ·rw[<-hsum,qY ho hj];rfl
 refine ax.hole [0] ah (show ax P c0 f146.ntmps (part jQ [0]) _ _ from abI (fun s' h hv=>cZ ?_) fun s' h1 h2 h3 hv=>uv (gB (cZ (fin h1 h2 h3 hv))))
 show aG P c0 f146.ntmps [part jQ [1]] s' _
 exact body h hv
def KB:Spec:=ow (fun A B=>.mag (A+B)) E4
theorem Vx:aY P KB 146:=qE fun h=>ajC h.1 h.2
end Go.Am.B
