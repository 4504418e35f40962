/- ref01. -/
import Derived.Test.YtppeigelbecpbaaGreatB22
set_option linter.unusedVariables false
namespace Go.Am.B
open Go Go.Am.N AV
theorem YG:aT P DF iH (aA iH):=aY Proofs.Tryz.func149 ag ag ag
abbrev ek:List Nat:=[0,1,5,6,7]
abbrev yY (A B c i:Nat):List AV:=[.mag A,.mag B,.own 7 1 0 i,.int .u64 c,.int .i64 i]
abbrev pC (i:Nat) (o:Nat->Nat):aF:=[(7,⟨true,true,1,i,aD o⟩)]
noncomputable abbrev jg:Code:=part (aA iH) [1,1,1,0,1,0,0]
theorem ak5 {A B:Nat}:aH T eJ [] 60 ek (before (aA iH) [1,1,1,0,1]) ⟨aQ 0 [.mag A,.mag B],[],0⟩=
  some (ah.leaf au.normal ([mag A,mag B,nil,int IntKind.u64 (0:Int),int IntKind.i64 (0:Int)],[])):=ag
theorem aj1 {A B c:Nat}:aH T eJ [12,18,21] 60 ek [part jg [0]] ⟨aC ek [.mag A,.mag B,.nil,.int .u64 c,.int .i64 0],[],8⟩=
  let c3:Bool:=bif false then true else decide ((0:Int)<(↑(nl B):Int));let c2:Bool:=decide ((0:Int)<(↑(nl A):Int));let c1:List AV×aF:=([mag A,mag B,nil,int IntKind.u64 (↑c:Int),int IntKind.i64 (0:Int)],[]);let c5:ah (List AV×aF):=ah.fork true (ah.leaf au.normal c1) (ah.leaf (au.exit 0) c1);let c4:ah (List AV×aF):=ah.fork (bif false then true else(↑c:Int)!=(0:Int)) (ah.leaf au.normal c1) (ah.leaf (au.exit 0) c1);some (ah.fork c2 (ah.fork true (ah.aj [c2=true,true=true] c5) (ah.aj [c2=true,true=false] c4)) (ah.fork c3 (ah.aj [c2=false,c3=true] c5) (ah.aj [c2=false,c3=false] c4))):=ag
theorem XV {A B c i:Nat} {o:Nat->Nat}:aH T eJ [12,18,21] 60 ek [part jg [0]] ⟨aC ek (yY A B c i),pC i o,8⟩=
  let c6:Int:=(↑i:Int);let c3:Bool:=bif false then true else decide (c6<(↑(nl B):Int));let c2:Bool:=decide (c6<(↑(nl A):Int));let c1:List AV×aF:=([mag A,mag B,own 7 1 0 i,int IntKind.u64 (↑c:Int),int IntKind.i64 c6],[(7,ak.mk true true 1 i fun a=>int IntKind.u32 (↑(o a):Int))]);let c5:ah (List AV×aF):=ah.fork true (ah.leaf au.normal c1) (ah.leaf (au.exit 0) c1);let c4:ah (List AV×aF):=ah.fork (bif false then true else(↑c:Int)!=(0:Int)) (ah.leaf au.normal c1) (ah.leaf (au.exit 0) c1);some (ah.fork c2 (ah.fork true (ah.aj [c2=true,true=true] c5) (ah.aj [c2=true,true=false] c4)) (ah.fork c3 (ah.aj [c2=false,c3=true] c5) (ah.aj [c2=false,c3=false] c4))):=ag
theorem ZJ {A B c:Nat}:aH T eJ [27,38] 60 ek (before (part jg [1,0,0]) [1,1]) ⟨aC ek [.mag A,.mag B,.nil,.int .u64 c,.int .i64 0],[],8⟩=
  let c5:Prop:=(0:Int)<=(0:Int);let c4:Int:=(↑(nl B):Int);let c2:List AV:=[int IntKind.i64 (0:Int)];let c1:Nat:=Int.toNat (0:Int);let c6:Int:=IntKind.u64.wrap (↑(aG B c1):Int);let c3:Int:=IntKind.u64.wrap ((↑c:Int)+IntKind.u64.wrap (↑(aG A c1):Int));some (ah.fork (decide ((0:Int)<(↑(nl A):Int))) (ah.aj [c5/\c1<nl A] (ah.fork (decide ((0:Int)<c4)) (ah.aj [c5/\c1<nl B] (ah.leaf au.normal (mag A::mag B::nil::int IntKind.u64 (IntKind.u64.wrap (c3+c6))::c2,[]))) (ah.leaf au.normal (mag A::mag B::nil::int IntKind.u64 c3::c2,[])))) (ah.fork (decide ((0:Int)<c4)) (ah.aj [c5/\c1<nl B] (ah.leaf au.normal (mag A::mag B::nil::int IntKind.u64 (IntKind.u64.wrap ((↑c:Int)+c6))::c2,[]))) (ah.leaf au.normal (mag A::mag B::nil::int IntKind.u64 (↑c:Int)::c2,[])))):=ag
theorem alJ {A B c i:Nat} {o:Nat->Nat}:aH T eJ [27,38] 60 ek (before (part jg [1,0,0]) [1,1]) ⟨aC ek (yY A B c i),pC i o,8⟩=
  let c7:Int:=(↑(nl B):Int);let c3:AV:=own 7 1 0 i;let c2:Int:=(↑i:Int);let c1:Nat×ak:=(7,ak.mk true true 1 i fun a=>int IntKind.u32 (↑(o a):Int));let c8:Prop:=(0:Int)<=c2/\c2.toNat<nl B;let c6:Int:=IntKind.u64.wrap (↑(aG B c2.toNat):Int);let c5:List AV:=[int IntKind.i64 c2];let c4:Int:=IntKind.u64.wrap ((↑c:Int)+IntKind.u64.wrap (↑(aG A c2.toNat):Int));some (ah.fork (decide (c2<(↑(nl A):Int))) (ah.aj [(0:Int)<=c2/\c2.toNat<nl A] (ah.fork (decide (c2<c7)) (ah.aj [c8] (ah.leaf au.normal (mag A::mag B::c3::int IntKind.u64 (IntKind.u64.wrap (c4+c6))::c5,[c1]))) (ah.leaf au.normal (mag A::mag B::c3::int IntKind.u64 c4::c5,[c1])))) (ah.fork (decide (c2<c7)) (ah.aj [c8] (ah.leaf au.normal (mag A::mag B::c3::int IntKind.u64 (IntKind.u64.wrap ((↑c:Int)+c6))::c5,[c1]))) (ah.leaf au.normal (mag A::mag B::c3::int IntKind.u64 (↑c:Int)::c5,[c1])))):=ag
theorem aeq {A B c:Nat}:aH T eJ [] 60 ek [part (part jg [1,0,0]) [1,1]] ⟨aC ek [.mag A,.mag B,.nil,.int .u64 c,.int .i64 0],[],8⟩=
  some (ah.aj [(1:Nat)*1<=2^24,(0:Nat)<1/\1*((4:Nat)+1)*2<=2^47] (ah.aj [(0:Int)<=(32:Int)] (ah.leaf au.normal ([mag A,mag B,own 16392 1 0 1,int IntKind.u64 ((↑c:Int).fdiv ((2:Int)^min (Int.toNat (32:Int)) IntKind.u64.bits)),int IntKind.i64 (0:Int)],[(16392,ak.mk true true 1 1 fun i=>nth [int IntKind.u32 (IntKind.u32.wrap (↑c:Int))] (int IntKind.u32 (0:Int)) (i+0))])))):=ag
theorem alo {A B c i:Nat} {o:Nat->Nat}:aH T eJ [] 60 ek [part (part jg [1,0,0]) [1,1]] ⟨aC ek (yY A B c i),pC i o,8⟩=
  some (ah.aj [(1:Nat)*1<=2^24,(i+1)*((4:Nat)+1)*2<=2^47] (ah.aj [(0:Int)<=(32:Int)] (ah.leaf au.normal ([mag A,mag B,own 16392 1 0 (i+1),int IntKind.u64 ((↑c:Int).fdiv ((2:Int)^min (Int.toNat (32:Int)) IntKind.u64.bits)),int IntKind.i64 (↑i:Int)],[(16392,ak.mk true true 1 (i+1) fun i_1=>if i_1<i then aD o i_1 else nth [int IntKind.u32 (IntKind.u32.wrap (↑c:Int))] (int IntKind.u32 (0:Int)) (i_1-i+0))])))):=ag
theorem abp {A B c i j:Nat} {o:Nat->Nat}:aH T eJ [] 60 ek [part jg [1,1]] ⟨aC ek [.mag A,.mag B,.own 7 1 0 i,.int .u64 c,.int .i64 j],pC i o,8⟩=
  some (ah.leaf au.normal ([mag A,mag B,own 7 1 0 i,int IntKind.u64 (↑c:Int),int IntKind.i64 (IntKind.i64.wrap ((↑j:Int)+(1:Int)))],[(7,ak.mk true true 1 i fun a=>int IntKind.u32 (↑(o a):Int))])):=ag
theorem abV {A B c:Nat}:cw T eJ [] 60 iH (behind (aA iH) [1,1,1,0,1]) ⟨aC ek [.mag A,.mag B,.nil,.int .u64 c,.int .i64 0],[],8⟩=
  some (ah.leaf au.ret [nil]):=ag
theorem ajj {A B c i:Nat} {o:Nat->Nat}:cw T eJ [] 60 iH (behind (aA iH) [1,1,1,0,1]) ⟨aC ek (yY A B c i),pC i o,8⟩=
  some (ah.leaf au.ret [aq 1 i fun i=>int IntKind.u32 (↑(o (i+0)):Int)]):=ag
theorem jH {A i:Nat} (h:nl A<=i):aG A i=0:=by
 unfold aG
 rw[Nat.div_eq_of_lt (dz.1 h)]
def mF (A B c:Nat):Nat->List AV
 |0=>[.mag A,.mag B,.nil,.int .u64 c,.int .i64 0]
 |i+1=>yY A B c (i+1)
def mZ (o:Nat->Nat):Nat->aF
 |0=>[]
 |i+1=>pC (i+1) o
theorem qi {A B c i:Nat}:jF 8 (mF A B c i)=true:=by cases i<;>rfl
theorem qZ {o:Nat->Nat} {i:Nat}:gN 8 (mZ o i):=by
 cases i
 ·trivial
 ·exact⟨⟨aa,fun _ _=>rfl⟩,trivial⟩
section fadd
variable {c0:Ctx} (h0:c0.k0=bB) {A B:Nat} {Q:au->aM->Prop}
include h0 in
theorem Uy {c i:Nat} {o:Nat->Nat} {s':aM} (hc:c<=1) (hv:bt ek s'=some (mF A B c i,mZ o i))
  (fin:∀s',bt ek s'=some (mF A B (c+aG A i+aG B i) i,mZ o i)->Q .normal s'):aI P c0 iH.ntmps (before (part jg [1,0,0]) [1,1]) s' Q:=by
 have la:=dG (N:=A) (i:=i)
 have lb:=dG (N:=B) (i:=i)
 have wa:IntKind.u64.wrap (aG A i:Int)=((aG A i:Nat):Int):=cu aa aa
 have wb:IntKind.u64.wrap (aG B i:Int)=((aG B i:Nat):Int):=cu aa aa
 have w1:IntKind.u64.wrap ((c:Int)+((aG A i:Nat):Int))=((c+aG A i:Nat):Int):=by rw[cu aa aa];omega
 have w2:IntKind.u64.wrap ((c:Int)+((aG B i:Nat):Int))=((c+aG B i:Nat):Int):=by rw[cu aa aa];omega
 have w3:IntKind.u64.wrap (((c+aG A i:Nat):Int)+((aG B i:Nat):Int))=((c+aG A i+aG B i:Nat):Int):=by rw[cu aa aa];omega
 cases i with
 |zero=>
  refine aI.fh hT eZ hm 60 hv (kA h0) qi qZ ek ZJ ag ag ?_
  simp only[ah.all,az,aZ,bk,Int.toNat_zero]
  rw[wa,wb,w1,w2,w3]
  refine⟨fun h1=>⟨aa,fun h2=>⟨aa,fun s' hv=>fin s' hv⟩,fun h2 s' hv=>fin s' (dJ hv ?_ rfl)⟩,fun h1=>⟨fun h2=>⟨aa,fun s' hv=>fin s' (dJ hv ?_ rfl)⟩,fun h2 s' hv=>fin s' (dJ hv ?_ rfl)⟩⟩
  ·rw[jH (A:=B) aa];rfl
  ·rw[jH (A:=A) aa];rfl
  ·rw[jH (A:=A) aa,jH (A:=B) aa];rfl
 |succ i=>
  refine aI.fh hT eZ hm 60 hv (kA h0) qi qZ ek alJ ag ag ?_
  simp only[ah.all,az,aZ,bk,aW]
  rw[wa,wb,w1,w2,w3]
  refine⟨fun h1=>⟨aa,fun h2=>⟨aa,fun s' hv=>fin s' hv⟩,fun h2 s' hv=>fin s' (dJ hv ?_ rfl)⟩,fun h1=>⟨fun h2=>⟨aa,fun s' hv=>fin s' (dJ hv ?_ rfl)⟩,fun h2 s' hv=>fin s' (dJ hv ?_ rfl)⟩⟩
  ·rw[jH (A:=B) aa];rfl
  ·rw[jH (A:=A) aa];rfl
  ·rw[jH (A:=A) aa,jH (A:=B) aa];rfl
include h0 in
theorem Yq {c i:Nat} {o:Nat->Nat} {s':aM} (hi:i<2^41) (hv:bt ek s'=some (mF A B c i,mZ o i))
  (fin:∀s',(∃ρ,Le c0 ρ s' ⟨aC ek [.mag A,.mag B,.own 7 1 0 (i+1),.int .u64 (c/4294967296:Nat),.int .i64 i],pC (i+1) (cH o i (c%4294967296)),8⟩)->Q .normal s'):ax P c0 iH.ntmps (part (part jg [1,0,0]) [1,1]) s' Q:=by
 have hd:(c:Int).fdiv (2^min (Int.toNat 32) IntKind.u64.bits)=((c/4294967296:Nat):Int):=by rw[lM];omega
 cases i with
 |zero=>
  refine ax.fh hT eZ hm 60 hv (kA h0) qi qZ ek aeq ag ?_
  rw[hd]
  simp only[ah.all,az]
  refine⟨⟨aa,aa,aa⟩,aa,fun s' hv=>fin s' ?_⟩
  refine dB (vs:=[.mag A,.mag B,.own 7 1 0 1,.int .u64 (c/4294967296:Nat),.int .i64 0]) (ps:=pC 1 (cH o 0 (c%4294967296))) (nx:=8) [(7,16392)] hv h0 rfl ⟨⟨rfl,aN rfl⟩,⟨rfl,aN rfl⟩,⟨rfl,cD rfl rfl rfl⟩,⟨rfl,aN rfl⟩,⟨rfl,aN rfl⟩,trivial⟩
   ⟨⟨_,_,rfl,rfl,fF rfl fun j hj=>?_⟩,trivial⟩
  have:j=0:=aa
  subst this
  simp[nth,aD,j0,jN]
 |succ i=>
  refine ax.fh hT eZ hm 60 hv (kA h0) qi qZ ek alo ag ?_
  rw[hd]
  simp only[ah.all,az]
  refine⟨⟨aa,aa⟩,aa,fun s' hv=>fin s' ?_⟩
  refine dB (vs:=[.mag A,.mag B,.own 7 1 0 (i+1+1),.int .u64 (c/4294967296:Nat),.int .i64 ((i+1:Nat):Int)]) (ps:=pC (i+1+1) (cH o (i+1) (c%4294967296))) (nx:=8) [(7,16392)] hv h0 rfl ⟨⟨rfl,aN rfl⟩,⟨rfl,aN rfl⟩,⟨rfl,cD rfl rfl rfl⟩,⟨rfl,aN rfl⟩,⟨rfl,aN rfl⟩,trivial⟩
   ⟨⟨_,_,rfl,rfl,fF rfl fun j hj=>?_⟩,trivial⟩
  by_cases h:j<i+1
  ·rw[if_pos h];unfold aD;rw[fL aa]
  ·have:j=i+1:=aa
   subst this
   simp[nth,aD,j0,jN]
end fadd
theorem ad8 {c i:Nat} {o:Nat->Nat} {c0:Ctx} {Q:au->aM->Prop} {A B:Nat} (yes:∀s',(i<nl A\/i<nl B\/c≠0)->bt ek s'=some (mF A B c i,mZ o i)->Q .normal s')
  (no:∀s',nl A<=i->nl B<=i->c=0->bt ek s'=some (mF A B c i,mZ o i)->Q (.exit 0) s'):ax P c0 iH.ntmps (part jg [0]) ⟨aC ek (mF A B c i),mZ o i,8⟩ Q:=by
 cases i with
 |zero=>
  refine ax.bA hT eZ hm 60 ek aj1 ag ?_
  refine⟨fun h=>⟨fun _=>⟨⟨h,rfl⟩,fun _ s' hv=>yes s' (.inl (by have:=of_decide_eq_true h;omega)) hv,fun hf=>by simp at hf⟩,fun hf=>by simp at hf⟩,
   fun h=>⟨fun h2=>⟨⟨h,h2⟩,fun _ s' hv=>yes s' (.inr (.inl (by have:=of_decide_eq_true (iF h2);omega))) hv,fun hf=>by simp at hf⟩,
    fun h2=>⟨⟨h,h2⟩,fun h3 s' hv=>yes s' (.inr (.inr ?_)) hv,fun h3 s' hv=>no s' ?_ ?_ ?_ hv⟩⟩⟩
  ·have:=iF h3
   simp at this;exact this
  ·have:=of_decide_eq_false h;omega
  ·have:=of_decide_eq_false (iF h2);omega
  ·have:=iF h3
   simp at this;exact this
 |succ i=>
  refine ax.bA hT eZ hm 60 ek XV ag ?_
  refine⟨fun h=>⟨fun _=>⟨⟨h,rfl⟩,fun _ s' hv=>yes s' (.inl (by have:=of_decide_eq_true h;omega)) hv,fun hf=>by simp at hf⟩,fun hf=>by simp at hf⟩,
   fun h=>⟨fun h2=>⟨⟨h,h2⟩,fun _ s' hv=>yes s' (.inr (.inl (by have:=of_decide_eq_true (iF h2);omega))) hv,fun hf=>by simp at hf⟩,
    fun h2=>⟨⟨h,h2⟩,fun h3 s' hv=>yes s' (.inr (.inr ?_)) hv,fun h3 s' hv=>no s' ?_ ?_ ?_ hv⟩⟩⟩
  ·have:=iF h3
   simp at this;exact this
  ·have:=of_decide_eq_false h;omega
  ·have:=of_decide_eq_false (iF h2);omega
  ·have:=iF h3
   simp at this;exact this
theorem aa8 {A B:Nat} (hA:nl A<2^40) (hB:nl B<2^40) (K:Nat):aE P DF K [.mag A,.mag B] [] (aK (.mag (A+B)) []):=by
 refine jM hT YG rfl aX rfl (fun _ c0 h0=>.down ?_) K []
 refine ax.hole [1,1,1,0,1] ag (aI.bA hT eZ hm 60 ek ak5 ag fun s' hv=>cJ ?_)
 refine ax.iw (i:=0) (y:=jg) ag (fun p:Nat×Nat×(Nat->Nat)=>⟨aC ek (mF A B p.2.1 p.1),mZ p.2.2 p.1,8⟩)
  (fun p=>(p.1<=max (nl A) (nl B)\/(p.1=max (nl A) (nl B)+1/\p.2.1=0/\2^(32*max (nl A) (nl B))<=A+B))/\p.2.1<=1/\(∀j,j<p.1->p.2.2 j<2^32)/\val p.1 p.2.2+p.2.1*2^(32*p.1)=val p.1 (aG A)+val p.1 (aG B))
  (fun p=>max (nl A) (nl B)+1-p.1) (0,0,fun _=>0) (nS hv (kA h0) qi qZ) ⟨by simp,by simp,fun j hj=>by simp only at hj;omega,by simp[val]⟩ ?_
 rintro⟨i,c,o⟩ ⟨hi,hc,ho,hval⟩
 simp only at hi hc ho hval
 have hAv:max (nl A) (nl B)<=i->val i (aG A)+val i (aG B)=A+B:=fun h=>by
  rw[qq (dz.1 aa),qq (dz.1 aa)]
 -- a round
 have body:∀{s':aM},(i<nl A\/i<nl B\/c≠0)->bt ek s'=some (mF A B c i,mZ o i)->∀{QF:au->aM->Prop},
   ax P c0 iH.ntmps (part jg [1]) s' (dH (fun s'=>∃k:Nat×Nat×(Nat->Nat),(∃ρ,Le c0 ρ s' ⟨aC ek (mF A B k.2.1 k.1),mZ k.2.2 k.1,8⟩)/\
    ((k.1<=max (nl A) (nl B)\/(k.1=max (nl A) (nl B)+1/\k.2.1=0/\2^(32*max (nl A) (nl B))<=A+B))/\k.2.1<=1/\(∀j,j<k.1->k.2.2 j<2^32)/\val k.1 k.2.2+k.2.1*2^(32*k.1)=val k.1 (aG A)+val k.1 (aG B))/\
    max (nl A) (nl B)+1-k.1<max (nl A) (nl B)+1-i) QF):=by
  intro s' hcont hv QF
  have hi':i<=max (nl A) (nl B):=aa
  have la:=dG (N:=A) (i:=i)
  have lb:=dG (N:=B) (i:=i)
  refine ax.hole [0] ag ?_
  show ax P c0 iH.ntmps (part jg [1,0]) s' _
  refine ax.qh (i:=1) (y:=part jg [1,0,0]) ag ?_
  refine ax.hole [1,1] ag (Uy h0 hc hv fun s' hv=>cJ (Yq h0 aa hv fun s' hle=>cJ ?_))
  show aI P c0 iH.ntmps [part jg [1,1]] s' _
  refine aI.weak rfl hle (aI.bA hT eZ hm 60 ek abp ag fun s' hv=>cJ ?_)
  have hs:=I4 (B:=2^(32*i)) (c:=c) (z:=aG A i) (y:=aG B i) rfl hval
  refine⟨(i+1,(c+aG A i+aG B i)/4294967296,cH o i ((c+aG A i+aG B i)%4294967296)),nS (dJ hv ?_ rfl) (kA h0) qi qZ,⟨?_,by simp only;omega,fun j hj=>?_,?_⟩,by simp only;omega⟩
  ·rw[eC (a:=(i:Int)+1) (n:=i+1) aa aa];rfl
  ·simp only
   by_cases h:i<max (nl A) (nl B)
   ·exact .inl aa
   ·have e:i=max (nl A) (nl B):=aa
    have lA:=jH (A:=A) (i:=i) aa
    have lB:=jH (A:=B) (i:=i) aa
    refine .inr ⟨aa,by rw[lA,lB];omega,?_⟩
    rw[hAv aa]at hval
    have hc1:c=1:=aa
    rw[hc1,Nat.one_mul,e]at hval
    omega
  ·simp only at hj ⊢
   unfold cH
   split
   ·omega
   ·exact ho j aa
  ·simp only
   rw[th,val,val,gY]
   omega
 -- the end
 have fin:∀{s':aM},nl A<=i->nl B<=i->c=0->bt ek s'=some (mF A B c i,mZ o i)->aI P c0 iH.ntmps (behind (aA iH) [1,1,1,0,1]) s' (dP c0 (Fin T iH (.mag (A+B)))):=by
  intro s' h1 h2 h3 hv
  have hsum:val i o=A+B:=by rw[hAv aa,h3]at hval;omega
  cases i with
  |zero=>
   have:A+B=0:=by rw[<-hsum];rfl
   refine aI.jZ hT eZ hm 60 hv (kA h0) qi qZ abV ag ag ?_
   rw[this]
   exact lH
  |succ i=>
   refine aI.jZ hT eZ hm 60 hv (kA h0) qi qZ ajj ag ag ?_
   refine lO ?_ fun j hj=>?_
   ·have l1:nl (A+B)<=i+1:=dz.2 (by rw[<-hsum];exact fO ho)
    have l2:¬nl (A+B)<=i:=by
     intro h
     rcases hi with hi|⟨hi,_,hi2⟩
     ·have:=gV (show A<=A+B by omega)
      have:=gV (show B<=A+B by omega)
      omega
     ·rw[dz]at h
      rw[show max (nl A) (nl B)=i by omega]at hi2
      omega
    omega
   ·rw[<-hsum,qN ho hj];rfl
 refine ax.hole [0] ag (show ax P c0 iH.ntmps (part jg [0]) _ _ from ad8 (fun s' h hv=>cJ ?_) fun s' h1 h2 h3 hv=>tI (fC (cJ (fin h1 h2 h3 hv))))
 show aI P c0 iH.ntmps [part jg [1]] s' _
 exact body h hv
def SG:Spec:=nD (fun A B=>.mag (A+B)) G7
theorem WO:∀K args pre r,SG K args pre=some r->aE P DF K args pre r:=pM fun h=>aa8 h.1 h.2
end Go.Am.B
