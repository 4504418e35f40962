/- ref01: Add, minus, Sub, Mul, byLimb. -/
import Derived.Test.YtnniljlepppdpaaGreatB22
set_option linter.unusedVariables false
namespace Go.Am.B
open Go Go.Am.N AV
theorem Vn:aT P FC iP (ay iP):=aU Proofs.Tryz.func114 ag ag ag
abbrev eO:List Nat:=[0,1,5,6,7]
abbrev yd (A B c i:Nat):List AV:=[.mag A,.mag B,.own 7 1 0 i,.int .u64 c,.int .i64 i]
abbrev pL (i:Nat) (o:Nat->Nat):aE:=[(7,⟨true,true,1,i,aD o⟩)]
noncomputable abbrev jw:Code:=part (ay iP) [1,1,1,0,1,0,0]
theorem aiC {A B:Nat}:aG T fA [] 60 eO (before (ay iP) [1,1,1,0,1]) ⟨aP 0 [.mag A,.mag B],[],0⟩=
  some (ah.leaf ax.normal ([mag A,mag B,nil,int .u64 (0:Int),int .i64 (0:Int)],[])):=ag
theorem Vv {A B c:Nat}:aG T fA [12,18,21] 60 eO [part jw [0]] ⟨aB eO [.mag A,.mag B,.nil,.int .u64 c,.int .i64 0],[],8⟩=
  let c3:Bool:=bif false then true else decide ((0:Int)<(↑(nl B):Int));let c2:Bool:=decide ((0:Int)<(↑(nl A):Int));let c1:List AV×aE:=([mag A,mag B,nil,int .u64 (↑c:Int),int .i64 (0:Int)],[]);let c5:ah (List AV×aE):=ah.fork true (ah.leaf ax.normal c1) (ah.leaf (ax.exit 0) c1);let c4:ah (List AV×aE):=ah.fork (bif false then true else(↑c:Int)!=0) (ah.leaf ax.normal c1) (ah.leaf (ax.exit 0) c1);some (ah.fork c2 (ah.fork true (ah.aj [c2=true,true=true] c5) (ah.aj [c2=true,true=false] c4)) (ah.fork c3 (ah.aj [c2=false,c3=true] c5) (ah.aj [c2=false,c3=false] c4))):=ag
theorem acw {A B c i:Nat} {o:Nat->Nat}:aG T fA [12,18,21] 60 eO [part jw [0]] ⟨aB eO (yd A B c i),pL i o,8⟩=
  let c6:Int:=(↑i:Int);let c3:Bool:=bif false then true else decide (c6<(↑(nl B):Int));let c2:Bool:=decide (c6<(↑(nl A):Int));let c1:List AV×aE:=([mag A,mag B,own 7 1 0 i,int .u64 (↑c:Int),int .i64 c6],[(7,ak.mk true true 1 i fun a=>int .u32 (↑(o a):Int))]);let c5:ah (List AV×aE):=ah.fork true (ah.leaf ax.normal c1) (ah.leaf (ax.exit 0) c1);let c4:ah (List AV×aE):=ah.fork (bif false then true else(↑c:Int)!=0) (ah.leaf ax.normal c1) (ah.leaf (ax.exit 0) c1);some (ah.fork c2 (ah.fork true (ah.aj [c2=true,true=true] c5) (ah.aj [c2=true,true=false] c4)) (ah.fork c3 (ah.aj [c2=false,c3=true] c5) (ah.aj [c2=false,c3=false] c4))):=ag
theorem aj2 {A B c:Nat}:aG T fA [27,38] 60 eO (before (part jw [1,0,0]) [1,1]) ⟨aB eO [.mag A,.mag B,.nil,.int .u64 c,.int .i64 0],[],8⟩=
  let c5:Prop:=(0:Int)<=0;let c4:Int:=(↑(nl B):Int);let c2:List AV:=[int .i64 (0:Int)];let c1:Nat:=Int.toNat (0:Int);let c6:Int:=IntKind.u64.wrap (↑(aF B c1):Int);let c3:Int:=IntKind.u64.wrap ((↑c:Int)+IntKind.u64.wrap (↑(aF A c1):Int));some (ah.fork (decide ((0:Int)<(↑(nl A):Int))) (ah.aj [c5/\c1<nl A] (ah.fork (decide ((0:Int)<c4)) (ah.aj [c5/\c1<nl B] (ah.leaf ax.normal (mag A::mag B::nil::int .u64 (IntKind.u64.wrap (c3+c6))::c2,[]))) (ah.leaf ax.normal (mag A::mag B::nil::int .u64 c3::c2,[])))) (ah.fork (decide ((0:Int)<c4)) (ah.aj [c5/\c1<nl B] (ah.leaf ax.normal (mag A::mag B::nil::int .u64 (IntKind.u64.wrap ((↑c:Int)+c6))::c2,[]))) (ah.leaf ax.normal (mag A::mag B::nil::int .u64 (↑c:Int)::c2,[])))):=ag
theorem aoi {A B c i:Nat} {o:Nat->Nat}:aG T fA [27,38] 60 eO (before (part jw [1,0,0]) [1,1]) ⟨aB eO (yd A B c i),pL i o,8⟩=
  let c7:Int:=(↑(nl B):Int);let c3:AV:=own 7 1 0 i;let c2:Int:=(↑i:Int);let c1:Nat×ak:=(7,ak.mk true true 1 i fun a=>int .u32 (↑(o a):Int));let c8:Prop:=(0:Int)<=c2/\c2.toNat<nl B;let c6:Int:=IntKind.u64.wrap (↑(aF B c2.toNat):Int);let c5:List AV:=[int .i64 c2];let c4:Int:=IntKind.u64.wrap ((↑c:Int)+IntKind.u64.wrap (↑(aF A c2.toNat):Int));some (ah.fork (decide (c2<(↑(nl A):Int))) (ah.aj [(0:Int)<=c2/\c2.toNat<nl A] (ah.fork (decide (c2<c7)) (ah.aj [c8] (ah.leaf ax.normal (mag A::mag B::c3::int .u64 (IntKind.u64.wrap (c4+c6))::c5,[c1]))) (ah.leaf ax.normal (mag A::mag B::c3::int .u64 c4::c5,[c1])))) (ah.fork (decide (c2<c7)) (ah.aj [c8] (ah.leaf ax.normal (mag A::mag B::c3::int .u64 (IntKind.u64.wrap ((↑c:Int)+c6))::c5,[c1]))) (ah.leaf ax.normal (mag A::mag B::c3::int .u64 (↑c:Int)::c5,[c1])))):=ag
theorem ag4 {A B c:Nat}:aG T fA [] 60 eO [part (part jw [1,0,0]) [1,1]] ⟨aB eO [.mag A,.mag B,.nil,.int .u64 c,.int .i64 0],[],8⟩=
  some (ah.aj [(1:Nat)*1<=2^24,(0:Nat)<1/\1*((4:Nat)+1)*2<=2^47] (ah.aj [(0:Int)<=32] (ah.leaf ax.normal ([mag A,mag B,own 16392 1 0 1,int .u64 ((↑c:Int).fdiv ((2:Int)^min (Int.toNat (32:Int)) IntKind.u64.bits)),int .i64 (0:Int)],[(16392,ak.mk true true 1 1 fun i=>nth [int .u32 (IntKind.u32.wrap (↑c:Int))] (int .u32 (0:Int)) (i+0))])))):=ag
theorem ako {A B c i:Nat} {o:Nat->Nat}:aG T fA [] 60 eO [part (part jw [1,0,0]) [1,1]] ⟨aB eO (yd A B c i),pL i o,8⟩=
  some (ah.aj [(1:Nat)*1<=2^24,(i+1)*((4:Nat)+1)*2<=2^47] (ah.aj [(0:Int)<=32] (ah.leaf ax.normal ([mag A,mag B,own 16392 1 0 (i+1),int .u64 ((↑c:Int).fdiv ((2:Int)^min (Int.toNat (32:Int)) IntKind.u64.bits)),int .i64 (↑i:Int)],[(16392,ak.mk true true 1 (i+1) fun i_1=>if i_1<i then aD o i_1 else nth [int .u32 (IntKind.u32.wrap (↑c:Int))] (int .u32 (0:Int)) (i_1-i+0))])))):=ag
theorem aoS {A B c i j:Nat} {o:Nat->Nat}:aG T fA [] 60 eO [part jw [1,1]] ⟨aB eO [.mag A,.mag B,.own 7 1 0 i,.int .u64 c,.int .i64 j],pL i o,8⟩=
  some (ah.leaf ax.normal ([mag A,mag B,own 7 1 0 i,int .u64 (↑c:Int),int .i64 (IntKind.i64.wrap ((↑j:Int)+1))],[(7,ak.mk true true 1 i fun a=>int .u32 (↑(o a):Int))])):=ag
theorem akA {A B c:Nat}:cj T fA [] 60 iP (behind (ay iP) [1,1,1,0,1]) ⟨aB eO [.mag A,.mag B,.nil,.int .u64 c,.int .i64 0],[],8⟩=
  some (ah.leaf ax.ret [nil]):=ag
theorem amW {A B c i:Nat} {o:Nat->Nat}:cj T fA [] 60 iP (behind (ay iP) [1,1,1,0,1]) ⟨aB eO (yd A B c i),pL i o,8⟩=
  some (ah.leaf ax.ret [aq 1 i fun i=>int .u32 (↑(o (i+0)):Int)]):=ag
theorem jF {A i:Nat} (h:nl A<=i):aF A i=0:=by
 unfold aF
 rw[Nat.div_eq_of_lt (dF.1 h)]
def mW (A B c:Nat):Nat->List AV
 |0=>[.mag A,.mag B,.nil,.int .u64 c,.int .i64 0]
 |i+1=>yd A B c (i+1)
def mU (o:Nat->Nat):Nat->aE
 |0=>[]
 |i+1=>pL (i+1) o
theorem p4 {A B c i:Nat}:ko 8 (mW A B c i)=true:=by cases i<;>rfl
theorem p8 {o:Nat->Nat} {i:Nat}:iB 8 (mU o i):=by
 cases i
 ·trivial
 ·exact⟨⟨aa,fun _ _=>rfl⟩,trivial⟩
section fadd
variable {c0:Ctx} (h0:c0.k0=bE) {A B:Nat} {Q:ax->aK->Prop}
include h0 in
theorem WA {c i:Nat} {o:Nat->Nat} {s':aK} (hc:c<=1) (hv:bA eO s'=some (mW A B c i,mU o i))
  (fin:∀s',bA eO s'=some (mW A B (c+aF A i+aF B i) i,mU o i)->Q .normal s'):aH P c0 iP.ntmps (before (part jw [1,0,0]) [1,1]) s' Q:=by
 have la:=dL (N:=A) (i:=i)
 have lb:=dL (N:=B) (i:=i)
 have wa:IntKind.u64.wrap (aF A i:Int)=((aF A i:Nat):Int):=cu aa aa
 have wb:IntKind.u64.wrap (aF B i:Int)=((aF B i:Nat):Int):=cu aa aa
 have w1:IntKind.u64.wrap ((c:Int)+((aF A i:Nat):Int))=((c+aF A i:Nat):Int):=by rw[cu aa aa];omega
 have w2:IntKind.u64.wrap ((c:Int)+((aF B i:Nat):Int))=((c+aF B i:Nat):Int):=by rw[cu aa aa];omega
 have w3:IntKind.u64.wrap (((c+aF A i:Nat):Int)+((aF B i:Nat):Int))=((c+aF A i+aF B i:Nat):Int):=by rw[cu aa aa];omega
 cases i with
 |zero=>
  refine aH.fJ hT fG hm 60 hv (kD h0) p4 p8 eO aj2 ag ag ?_
  simp only[ah.all,aA,bq,bw,Int.toNat_zero]
  rw[wa,wb,w1,w2,w3]
  refine⟨fun h1=>⟨aa,fun h2=>⟨aa,fun s' hv=>fin s' hv⟩,fun h2 s' hv=>fin s' (dQ hv ?_ rfl)⟩,fun h1=>⟨fun h2=>⟨aa,fun s' hv=>fin s' (dQ hv ?_ rfl)⟩,fun h2 s' hv=>fin s' (dQ hv ?_ rfl)⟩⟩
  ·rw[jF (A:=B) aa];rfl
  ·rw[jF (A:=A) aa];rfl
  ·rw[jF (A:=A) aa,jF (A:=B) aa];rfl
 |succ i=>
  refine aH.fJ hT fG hm 60 hv (kD h0) p4 p8 eO aoi ag ag ?_
  simp only[ah.all,aA,bq,bw,bn]
  rw[wa,wb,w1,w2,w3]
  refine⟨fun h1=>⟨aa,fun h2=>⟨aa,fun s' hv=>fin s' hv⟩,fun h2 s' hv=>fin s' (dQ hv ?_ rfl)⟩,fun h1=>⟨fun h2=>⟨aa,fun s' hv=>fin s' (dQ hv ?_ rfl)⟩,fun h2 s' hv=>fin s' (dQ hv ?_ rfl)⟩⟩
  ·rw[jF (A:=B) aa];rfl
  ·rw[jF (A:=A) aa];rfl
  ·rw[jF (A:=A) aa,jF (A:=B) aa];rfl
include h0 in
theorem aeO {c i:Nat} {o:Nat->Nat} {s':aK} (hi:i<2^41) (hv:bA eO s'=some (mW A B c i,mU o i))
  (fin:∀s',(∃ρ,Le c0 ρ s' ⟨aB eO [.mag A,.mag B,.own 7 1 0 (i+1),.int .u64 (c/4294967296:Nat),.int .i64 i],pL (i+1) (cH o i (c%4294967296)),8⟩)->Q .normal s'):au P c0 iP.ntmps (part (part jw [1,0,0]) [1,1]) s' Q:=by
 have hd:(c:Int).fdiv (2^min (Int.toNat 32) IntKind.u64.bits)=((c/4294967296:Nat):Int):=by rw[mM];omega
 cases i with
 |zero=>
  refine au.fJ hT fG hm 60 hv (kD h0) p4 p8 eO ag4 ag ?_
  rw[hd]
  simp only[ah.all,aA]
  refine⟨⟨aa,aa,aa⟩,aa,fun s' hv=>fin s' ?_⟩
  refine dH (vs:=[.mag A,.mag B,.own 7 1 0 1,.int .u64 (c/4294967296:Nat),.int .i64 0]) (ps:=pL 1 (cH o 0 (c%4294967296))) (nx:=8) [(7,16392)] hv h0 rfl ⟨aM,aM,⟨rfl,bW rfl rfl rfl⟩,aM,aM,trivial⟩
   ⟨⟨_,_,rfl,rfl,fS rfl fun j hj=>?_⟩,trivial⟩
  have:j=0:=aa
  subst this
  simp[nth,aD,kY,j3]
 |succ i=>
  refine au.fJ hT fG hm 60 hv (kD h0) p4 p8 eO ako ag ?_
  rw[hd]
  simp only[ah.all,aA]
  refine⟨⟨aa,aa⟩,aa,fun s' hv=>fin s' ?_⟩
  refine dH (vs:=[.mag A,.mag B,.own 7 1 0 (i+1+1),.int .u64 (c/4294967296:Nat),.int .i64 ((i+1:Nat):Int)]) (ps:=pL (i+1+1) (cH o (i+1) (c%4294967296))) (nx:=8) [(7,16392)] hv h0 rfl ⟨aM,aM,⟨rfl,bW rfl rfl rfl⟩,aM,aM,trivial⟩
   ⟨⟨_,_,rfl,rfl,fS rfl fun j hj=>?_⟩,trivial⟩
  by_cases h:j<i+1
  ·rw[if_pos h];unfold aD;rw[ga aa]
  ·have:j=i+1:=aa
   subst this
   simp[nth,aD,kY,j3]
end fadd
theorem al5 {c i:Nat} {o:Nat->Nat} {c0:Ctx} {Q:ax->aK->Prop} {A B:Nat} (yes:∀s',(i<nl A\/i<nl B\/c≠0)->bA eO s'=some (mW A B c i,mU o i)->Q .normal s')
  (no:∀s',nl A<=i->nl B<=i->c=0->bA eO s'=some (mW A B c i,mU o i)->Q (.exit 0) s'):au P c0 iP.ntmps (part jw [0]) ⟨aB eO (mW A B c i),mU o i,8⟩ Q:=by
 cases i with
 |zero=>
  refine au.bC hT fG hm 60 eO Vv ag ?_
  refine⟨fun h=>⟨fun _=>⟨⟨h,rfl⟩,fun _ s' hv=>yes s' (.inl (by have:=of_decide_eq_true h;omega)) hv,fun hf=>by simp at hf⟩,fun hf=>by simp at hf⟩,
   fun h=>⟨fun h2=>⟨⟨h,h2⟩,fun _ s' hv=>yes s' (.inr (.inl (by have:=of_decide_eq_true (iS h2);omega))) hv,fun hf=>by simp at hf⟩,
    fun h2=>⟨⟨h,h2⟩,fun h3 s' hv=>yes s' (.inr (.inr ?_)) hv,fun h3 s' hv=>no s' ?_ ?_ ?_ hv⟩⟩⟩
  ·have:=iS h3
   simp at this;exact this
  ·have:=of_decide_eq_false h;omega
  ·have:=of_decide_eq_false (iS h2);omega
  ·have:=iS h3
   simp at this;exact this
 |succ i=>
  refine au.bC hT fG hm 60 eO acw ag ?_
  refine⟨fun h=>⟨fun _=>⟨⟨h,rfl⟩,fun _ s' hv=>yes s' (.inl (by have:=of_decide_eq_true h;omega)) hv,fun hf=>by simp at hf⟩,fun hf=>by simp at hf⟩,
   fun h=>⟨fun h2=>⟨⟨h,h2⟩,fun _ s' hv=>yes s' (.inr (.inl (by have:=of_decide_eq_true (iS h2);omega))) hv,fun hf=>by simp at hf⟩,
    fun h2=>⟨⟨h,h2⟩,fun h3 s' hv=>yes s' (.inr (.inr ?_)) hv,fun h3 s' hv=>no s' ?_ ?_ ?_ hv⟩⟩⟩
  ·have:=iS h3
   simp at this;exact this
  ·have:=of_decide_eq_false h;omega
  ·have:=of_decide_eq_false (iS h2);omega
  ·have:=iS h3
   simp at this;exact this
theorem amO {A B:Nat} (hA:nl A<2^40) (hB:nl B<2^40) (K:Nat):aQ P FC K [.mag A,.mag B] [] (aJ (.mag (A+B)) []):=by
 refine j9 hT Vn rfl aX rfl (fun _ c0 h0=>.down ?_) K []
 refine au.hole [1,1,1,0,1] ag (aH.bC hT fG hm 60 eO aiC ag fun s' hv=>cO ?_)
 refine au.iZ (i:=0) (y:=jw) ag (fun p:Nat×Nat×(Nat->Nat)=>⟨aB eO (mW A B p.2.1 p.1),mU p.2.2 p.1,8⟩)
  (fun p=>(p.1<=max (nl A) (nl B)\/(p.1=max (nl A) (nl B)+1/\p.2.1=0/\2^(32*max (nl A) (nl B))<=A+B))/\p.2.1<=1/\(∀j,j<p.1->p.2.2 j<2^32)/\val p.1 p.2.2+p.2.1*2^(32*p.1)=val p.1 (aF A)+val p.1 (aF B))
  (fun p=>max (nl A) (nl B)+1-p.1) (0,0,fun _=>0) (o4 hv (kD h0) p4 p8) ⟨by simp,by simp,fun j hj=>by simp only at hj;omega,by simp[val]⟩ ?_
 rintro⟨i,c,o⟩ ⟨hi,hc,ho,hval⟩
 simp only at hi hc ho hval
 have hAv:max (nl A) (nl B)<=i->val i (aF A)+val i (aF B)=A+B:=fun h=>by
  rw[qN (dF.1 aa),qN (dF.1 aa)]
 -- a round
 have body:∀{s':aK},(i<nl A\/i<nl B\/c≠0)->bA eO s'=some (mW A B c i,mU o i)->∀{QF:ax->aK->Prop},
   au P c0 iP.ntmps (part jw [1]) s' (dM (fun s'=>∃k:Nat×Nat×(Nat->Nat),(∃ρ,Le c0 ρ s' ⟨aB eO (mW A B k.2.1 k.1),mU k.2.2 k.1,8⟩)/\
    ((k.1<=max (nl A) (nl B)\/(k.1=max (nl A) (nl B)+1/\k.2.1=0/\2^(32*max (nl A) (nl B))<=A+B))/\k.2.1<=1/\(∀j,j<k.1->k.2.2 j<2^32)/\val k.1 k.2.2+k.2.1*2^(32*k.1)=val k.1 (aF A)+val k.1 (aF B))/\
    max (nl A) (nl B)+1-k.1<max (nl A) (nl B)+1-i) QF):=by
  intro s' hcont hv QF
  have hi':i<=max (nl A) (nl B):=aa
  have la:=dL (N:=A) (i:=i)
  have lb:=dL (N:=B) (i:=i)
  refine au.hole [0] ag ?_
  show au P c0 iP.ntmps (part jw [1,0]) s' _
  refine au.qL (i:=1) (y:=part jw [1,0,0]) ag ?_
  refine au.hole [1,1] ag (WA h0 hc hv fun s' hv=>cO (aeO h0 aa hv fun s' hle=>cO ?_))
  show aH P c0 iP.ntmps [part jw [1,1]] s' _
  refine aH.weak rfl hle (aH.bC hT fG hm 60 eO aoS ag fun s' hv=>cO ?_)
  have hs:=IS (B:=2^(32*i)) (c:=c) (z:=aF A i) (y:=aF B i) rfl hval
  refine⟨(i+1,(c+aF A i+aF B i)/4294967296,cH o i ((c+aF A i+aF B i)%4294967296)),o4 (dQ hv ?_ rfl) (kD h0) p4 p8,⟨?_,by simp only;omega,fun j hj=>?_,?_⟩,by simp only;omega⟩
  ·rw[fm (a:=(i:Int)+1) (n:=i+1) aa aa];rfl
  ·simp only
   by_cases h:i<max (nl A) (nl B)
   ·exact .inl aa
   ·have e:i=max (nl A) (nl B):=aa
    have lA:=jF (A:=A) (i:=i) aa
    have lB:=jF (A:=B) (i:=i) aa
    refine .inr ⟨aa,by rw[lA,lB];omega,?_⟩
    rw[hAv aa]at hval
    have hc1:c=1:=aa
    rw[hc1,Nat.one_mul,e]at hval
    omega
  ·simp only at hj ⊢
   unfold cH
   split
   ·omega
   ·exact ho j aa
  ·simp only
   rw[r7,val,val,iG]
   omega
 -- the end
 have fin:∀{s':aK},nl A<=i->nl B<=i->c=0->bA eO s'=some (mW A B c i,mU o i)->aH P c0 iP.ntmps (behind (ay iP) [1,1,1,0,1]) s' (eo c0 (Fin T iP (.mag (A+B)))):=by
  intro s' h1 h2 h3 hv
  have hsum:val i o=A+B:=by rw[hAv aa,h3]at hval;omega
  cases i with
  |zero=>
   have:A+B=0:=by rw[<-hsum];rfl
   refine aH.kO hT fG hm 60 hv (kD h0) p4 p8 akA ag ag ?_
   rw[this]
   exact lJ
  |succ i=>
   refine aH.kO hT fG hm 60 hv (kD h0) p4 p8 amW ag ag ?_
   refine me ?_ fun j hj=>?_
   ·have l1:nl (A+B)<=i+1:=dF.2 (by rw[<-hsum];exact gp ho)
    have l2:¬nl (A+B)<=i:=by
     intro h
     rcases hi with hi|⟨hi,_,hi2⟩
     ·have:=iH (show A<=A+B by omega)
      have:=iH (show B<=A+B by omega)
      omega
     ·rw[dF]at h
      rw[show max (nl A) (nl B)=i by omega]at hi2
      omega
    omega
   ·rw[<-hsum,qb ho hj];rfl
 refine au.hole [0] ag (show au P c0 iP.ntmps (part jw [0]) _ _ from al5 (fun s' h hv=>cO ?_) fun s' h1 h2 h3 hv=>sY (fO (cO (fin h1 h2 h3 hv))))
 show aH P c0 iP.ntmps [part jw [1]] s' _
 exact body h hv
def OZ:Spec:=oD (fun A B=>.mag (A+B)) LH
theorem Xn:aW P OZ FC:=qe fun h=>amO h.1 h.2
end Go.Am.B
