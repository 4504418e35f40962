/- ref01: Add, minus, Sub, Mul, byLimb. -/
import Derived.Test.YtppeigelbecpbaaGreatB22
set_option linter.unusedVariables false
namespace Go.Am.B
open Go Go.Am.N AV
theorem Zs:aN P qH fy (au fy):=aO O4 (by kernel_rfl) (by kernel_rfl) (by kernel_rfl)
abbrev cQ:List Nat:=[0,1,5,6,7]
abbrev sw (A B c i:Nat):List AV:=[.mag A,.mag B,.own 7 1 0 i,.int .u64 c,.int .i64 i]
abbrev j0 (i:Nat) (o:Nat→Nat):aA:=[(7,⟨true,true,1,i,ax o⟩)]
noncomputable abbrev gb:Code:=part (au fy) [1,1,1,0,1,0,0]
theorem RH {A B:Nat}:aJ T dn [] 60 cQ (before (au fy) [1,1,1,0,1]) ⟨aM 0 [.mag A,.mag B],[],0⟩=
  some (aa.leaf ah.normal ([mag A,mag B,nil,int IntKind.u64 (0:Int),int IntKind.i64 (0:Int)],[])):=by kernel_rfl
theorem UF {A B c:Nat}:aJ T dn [12,18,21] 60 cQ [part gb [0]] ⟨aD cQ [.mag A,.mag B,.nil,.int .u64 c,.int .i64 0],[],8⟩=
  let c3:Bool:=bif false then true else decide ((0:Int)<(↑(nl B):Int));let c2:Bool:=decide ((0:Int)<(↑(nl A):Int));let c1:List AV×aA:=([mag A,mag B,nil,int IntKind.u64 (↑c:Int),int IntKind.i64 (0:Int)],[]);let c5:aa (List AV×aA):=aa.fork true (aa.leaf ah.normal c1) (aa.leaf (ah.exit 0) c1);let c4:aa (List AV×aA):=aa.fork (bif false then true else(↑c:Int)!=(0:Int)) (aa.leaf ah.normal c1) (aa.leaf (ah.exit 0) c1);some (aa.fork c2 (aa.fork true (aa.ag [c2=true,true=true] c5) (aa.ag [c2=true,true=false] c4)) (aa.fork c3 (aa.ag [c2=false,c3=true] c5) (aa.ag [c2=false,c3=false] c4))):=by kernel_rfl
theorem WG {A B c i:Nat} {o:Nat→Nat}:aJ T dn [12,18,21] 60 cQ [part gb [0]] ⟨aD cQ (sw A B c i),j0 i o,8⟩=
  let c6:Int:=(↑i:Int);let c3:Bool:=bif false then true else decide (c6<(↑(nl B):Int));let c2:Bool:=decide (c6<(↑(nl A):Int));let c1:List AV×aA:=([mag A,mag B,own 7 1 0 i,int IntKind.u64 (↑c:Int),int IntKind.i64 c6],[((7:Nat),ak.mk true true 1 i fun a↦int IntKind.u32 (↑(o a):Int))]);let c5:aa (List AV×aA):=aa.fork true (aa.leaf ah.normal c1) (aa.leaf (ah.exit 0) c1);let c4:aa (List AV×aA):=aa.fork (bif false then true else(↑c:Int)!=(0:Int)) (aa.leaf ah.normal c1) (aa.leaf (ah.exit 0) c1);some (aa.fork c2 (aa.fork true (aa.ag [c2=true,true=true] c5) (aa.ag [c2=true,true=false] c4)) (aa.fork c3 (aa.ag [c2=false,c3=true] c5) (aa.ag [c2=false,c3=false] c4))):=by kernel_rfl
theorem XT {A B c:Nat}:aJ T dn [27,38] 60 cQ (before (part gb [1,0,0]) [1,1]) ⟨aD cQ [.mag A,.mag B,.nil,.int .u64 c,.int .i64 0],[],8⟩=
  let c5:Prop:=(0:Int)≤(0:Int);let c4:Int:=(↑(nl B):Int);let c2:List AV:=[int IntKind.i64 (0:Int)];let c1:Nat:=Int.toNat (0:Int);let c6:Int:=IntKind.u64.wrap (↑(ay B c1):Int);let c3:Int:=IntKind.u64.wrap ((↑c:Int)+IntKind.u64.wrap (↑(ay A c1):Int));some (aa.fork (decide ((0:Int)<(↑(nl A):Int))) (aa.ag [c5∧c1<nl A] (aa.fork (decide ((0:Int)<c4)) (aa.ag [c5∧c1<nl B] (aa.leaf ah.normal (mag A::mag B::nil::int IntKind.u64 (IntKind.u64.wrap (c3+c6))::c2,[]))) (aa.leaf ah.normal (mag A::mag B::nil::int IntKind.u64 c3::c2,[])))) (aa.fork (decide ((0:Int)<c4)) (aa.ag [c5∧c1<nl B] (aa.leaf ah.normal (mag A::mag B::nil::int IntKind.u64 (IntKind.u64.wrap ((↑c:Int)+c6))::c2,[]))) (aa.leaf ah.normal (mag A::mag B::nil::int IntKind.u64 (↑c:Int)::c2,[])))):=by kernel_rfl
theorem Km {A B c i:Nat} {o:Nat→Nat}:aJ T dn [27,38] 60 cQ (before (part gb [1,0,0]) [1,1]) ⟨aD cQ (sw A B c i),j0 i o,8⟩=
  let c7:Int:=(↑(nl B):Int);let c3:AV:=own 7 1 0 i;let c2:Int:=(↑i:Int);let c1:Nat×ak:=((7:Nat),ak.mk true true 1 i fun a↦int IntKind.u32 (↑(o a):Int));let c8:Prop:=(0:Int)≤c2∧c2.toNat<nl B;let c6:Int:=IntKind.u64.wrap (↑(ay B c2.toNat):Int);let c5:List AV:=[int IntKind.i64 c2];let c4:Int:=IntKind.u64.wrap ((↑c:Int)+IntKind.u64.wrap (↑(ay A c2.toNat):Int));some (aa.fork (decide (c2<(↑(nl A):Int))) (aa.ag [(0:Int)≤c2∧c2.toNat<nl A] (aa.fork (decide (c2<c7)) (aa.ag [c8] (aa.leaf ah.normal (mag A::mag B::c3::int IntKind.u64 (IntKind.u64.wrap (c4+c6))::c5,[c1]))) (aa.leaf ah.normal (mag A::mag B::c3::int IntKind.u64 c4::c5,[c1])))) (aa.fork (decide (c2<c7)) (aa.ag [c8] (aa.leaf ah.normal (mag A::mag B::c3::int IntKind.u64 (IntKind.u64.wrap ((↑c:Int)+c6))::c5,[c1]))) (aa.leaf ah.normal (mag A::mag B::c3::int IntKind.u64 (↑c:Int)::c5,[c1])))):=by kernel_rfl
theorem VK {A B c:Nat}:aJ T dn [] 60 cQ [part (part gb [1,0,0]) [1,1]] ⟨aD cQ [.mag A,.mag B,.nil,.int .u64 c,.int .i64 0],[],8⟩=
  some (aa.ag [(1:Nat)*1≤2^24,(0:Nat)<1∧1*((4:Nat)+1)*2≤2^47] (aa.ag [(0:Int)≤(32:Int)] (aa.leaf ah.normal ([mag A,mag B,own 16392 1 0 1,int IntKind.u64 ((↑c:Int).fdiv ((2:Int)^min (Int.toNat (32:Int)) IntKind.u64.bits)),int IntKind.i64 (0:Int)],[((16392:Nat),ak.mk true true 1 1 fun i↦nth [int IntKind.u32 (IntKind.u32.wrap (↑c:Int))] (int IntKind.u32 (0:Int)) (i+0))])))):=by kernel_rfl
theorem So {A B c i:Nat} {o:Nat→Nat}:aJ T dn [] 60 cQ [part (part gb [1,0,0]) [1,1]] ⟨aD cQ (sw A B c i),j0 i o,8⟩=
  some (aa.ag [(1:Nat)*1≤2^24,(i+1)*((4:Nat)+1)*2≤2^47] (aa.ag [(0:Int)≤(32:Int)] (aa.leaf ah.normal ([mag A,mag B,own 16392 1 0 (i+1),int IntKind.u64 ((↑c:Int).fdiv ((2:Int)^min (Int.toNat (32:Int)) IntKind.u64.bits)),int IntKind.i64 (↑i:Int)],[((16392:Nat),ak.mk true true 1 (i+1) fun i_1↦if i_1<i then ax o i_1 else nth [int IntKind.u32 (IntKind.u32.wrap (↑c:Int))] (int IntKind.u32 (0:Int)) (i_1-i+0))])))):=by kernel_rfl
theorem WU {A B c i j:Nat} {o:Nat→Nat}:aJ T dn [] 60 cQ [part gb [1,1]] ⟨aD cQ [.mag A,.mag B,.own 7 1 0 i,.int .u64 c,.int .i64 j],j0 i o,8⟩=
  some (aa.leaf ah.normal ([mag A,mag B,own 7 1 0 i,int IntKind.u64 (↑c:Int),int IntKind.i64 (IntKind.i64.wrap ((↑j:Int)+(1:Int)))],[((7:Nat),ak.mk true true 1 i fun a↦int IntKind.u32 (↑(o a):Int))])):=by kernel_rfl
theorem YQ {A B c:Nat}:b7 T dn [] 60 fy (behind (au fy) [1,1,1,0,1]) ⟨aD cQ [.mag A,.mag B,.nil,.int .u64 c,.int .i64 0],[],8⟩=
  some (aa.leaf ah.ret [nil]):=by kernel_rfl
theorem P2 {A B c i:Nat} {o:Nat→Nat}:b7 T dn [] 60 fy (behind (au fy) [1,1,1,0,1]) ⟨aD cQ (sw A B c i),j0 i o,8⟩=
  some (aa.leaf ah.ret [aq 1 i fun i↦int IntKind.u32 (↑(o (i+0)):Int)]):=by kernel_rfl
theorem gB {A i:Nat} (h:nl A≤i):ay A i=0:=by
 unfold ay
 rw[Nat.div_eq_of_lt (cq.1 h)]
def jq (A B c:Nat):Nat→List AV
 |0=>[.mag A,.mag B,.nil,.int .u64 c,.int .i64 0]
 |i+1=>sw A B c (i+1)
def js (o:Nat→Nat):Nat→aA
 |0=>[]
 |i+1=>j0 (i+1) o
theorem l5 {A B c i:Nat}:gy 8 (jq A B c i)=true:=by cases i<;>rfl
theorem l6 {o:Nat→Nat} {i:Nat}:ff 8 (js o i):=by
 cases i
 ·trivial
 ·exact⟨⟨by omega,fun _ _=>rfl⟩,trivial⟩
section fadd
variable {c0:Ctx} (h0:c0.k0=aS) {A B:Nat} {Q:ah→aE→Prop}
include h0 in
theorem J8 {c i:Nat} {o:Nat→Nat} {s':aE} (hc:c≤1) (hv:aR cQ s'=some (jq A B c i,js o i))
  (fin:∀s',aR cQ s'=some (jq A B (c+ay A i+ay B i) i,js o i)→Q .normal s'):aC P c0 fy.ntmps (before (part gb [1,0,0]) [1,1]) s' Q:=by
 have la:=cA (N:=A) (i:=i)
 have lb:=cA (N:=B) (i:=i)
 have wa:IntKind.u64.wrap (ay A i:Int)=((ay A i:Nat):Int):=bA (by omega) (by omega)
 have wb:IntKind.u64.wrap (ay B i:Int)=((ay B i:Nat):Int):=bA (by omega) (by omega)
 have w1:IntKind.u64.wrap ((c:Int)+((ay A i:Nat):Int))=((c+ay A i:Nat):Int):=by rw[bA (by omega) (by omega)];omega
 have w2:IntKind.u64.wrap ((c:Int)+((ay B i:Nat):Int))=((c+ay B i:Nat):Int):=by rw[bA (by omega) (by omega)];omega
 have w3:IntKind.u64.wrap (((c+ay A i:Nat):Int)+((ay B i:Nat):Int))=((c+ay A i+ay B i:Nat):Int):=by rw[bA (by omega) (by omega)];omega
 cases i with
 |zero=>
  refine aC.dB hT dr hm 60 hv (hG h0) l5 l6 cQ XT (by kernel_rfl) (by kernel_rfl) ?_
  simp only[aa.all,az,decide_eq_true_eq,decide_eq_false_iff_not,Int.toNat_zero]
  rw[wa,wb,w1,w2,w3]
  refine⟨fun h1=>⟨by omega,fun h2=>⟨by omega,fun s' hv=>fin s' hv⟩,fun h2 s' hv=>fin s' (cC hv ?_ rfl)⟩,fun h1=>⟨fun h2=>⟨by omega,fun s' hv=>fin s' (cC hv ?_ rfl)⟩,fun h2 s' hv=>fin s' (cC hv ?_ rfl)⟩⟩
  ·rw[gB (A:=B) (by omega)];rfl
  ·rw[gB (A:=A) (by omega)];rfl
  ·rw[gB (A:=A) (by omega),gB (A:=B) (by omega)];rfl
 |succ i=>
  refine aC.dB hT dr hm 60 hv (hG h0) l5 l6 cQ Km (by kernel_rfl) (by kernel_rfl) ?_
  simp only[aa.all,az,decide_eq_true_eq,decide_eq_false_iff_not,Int.toNat_natCast]
  rw[wa,wb,w1,w2,w3]
  refine⟨fun h1=>⟨by omega,fun h2=>⟨by omega,fun s' hv=>fin s' hv⟩,fun h2 s' hv=>fin s' (cC hv ?_ rfl)⟩,fun h1=>⟨fun h2=>⟨by omega,fun s' hv=>fin s' (cC hv ?_ rfl)⟩,fun h2 s' hv=>fin s' (cC hv ?_ rfl)⟩⟩
  ·rw[gB (A:=B) (by omega)];rfl
  ·rw[gB (A:=A) (by omega)];rfl
  ·rw[gB (A:=A) (by omega),gB (A:=B) (by omega)];rfl
include h0 in
theorem TP {c i:Nat} {o:Nat→Nat} {s':aE} (hi:i<2^41) (hv:aR cQ s'=some (jq A B c i,js o i))
  (fin:∀s',(∃ρ,Le c0 ρ s' ⟨aD cQ [.mag A,.mag B,.own 7 1 0 (i+1),.int .u64 (c/4294967296:Nat),.int .i64 i],j0 (i+1) (bG o i (c%4294967296)),8⟩)→Q .normal s'):aj P c0 fy.ntmps (part (part gb [1,0,0]) [1,1]) s' Q:=by
 have hd:(c:Int).fdiv (2^min (Int.toNat 32) IntKind.u64.bits)=((c/4294967296:Nat):Int):=by rw[ja];omega
 cases i with
 |zero=>
  refine aj.dB hT dr hm 60 hv (hG h0) l5 l6 cQ VK (by kernel_rfl) ?_
  rw[hd]
  simp only[aa.all,az]
  refine⟨⟨by omega,by omega,by omega⟩,by omega,fun s' hv=>fin s' ?_⟩
  refine cu (vs:=[.mag A,.mag B,.own 7 1 0 1,.int .u64 (c/4294967296:Nat),.int .i64 0]) (ps:=j0 1 (bG o 0 (c%4294967296))) (nx:=8) [(7,16392)] hv h0 rfl ⟨⟨rfl,aF rfl⟩,⟨rfl,aF rfl⟩,⟨rfl,ct rfl rfl rfl⟩,⟨rfl,aF rfl⟩,⟨rfl,aF rfl⟩,trivial⟩
   ⟨⟨_,_,rfl,rfl,dP rfl fun j hj=>?_⟩,trivial⟩
  have:j=0:=by omega
  subst this
  simp[nth,ax,gX,gN]
 |succ i=>
  refine aj.dB hT dr hm 60 hv (hG h0) l5 l6 cQ So (by kernel_rfl) ?_
  rw[hd]
  simp only[aa.all,az]
  refine⟨⟨by omega,by omega⟩,by omega,fun s' hv=>fin s' ?_⟩
  refine cu (vs:=[.mag A,.mag B,.own 7 1 0 (i+1+1),.int .u64 (c/4294967296:Nat),.int .i64 ((i+1:Nat):Int)]) (ps:=j0 (i+1+1) (bG o (i+1) (c%4294967296))) (nx:=8) [(7,16392)] hv h0 rfl ⟨⟨rfl,aF rfl⟩,⟨rfl,aF rfl⟩,⟨rfl,ct rfl rfl rfl⟩,⟨rfl,aF rfl⟩,⟨rfl,aF rfl⟩,trivial⟩
   ⟨⟨_,_,rfl,rfl,dP rfl fun j hj=>?_⟩,trivial⟩
  by_cases h:j<i+1
  ·rw[if_pos h];unfold ax;rw[dX (by omega)]
  ·have:j=i+1:=by omega
   subst this
   simp[nth,ax,gX,gN]
end fadd
theorem Rz {c i:Nat} {o:Nat→Nat} {c0:Ctx} {Q:ah→aE→Prop} {A B:Nat} (yes:∀s',(i<nl A∨i<nl B∨c≠0)→aR cQ s'=some (jq A B c i,js o i)→Q .normal s')
  (no:∀s',nl A≤i→nl B≤i→c=0→aR cQ s'=some (jq A B c i,js o i)→Q (.exit 0) s'):aj P c0 fy.ntmps (part gb [0]) ⟨aD cQ (jq A B c i),js o i,8⟩ Q:=by
 cases i with
 |zero=>
  refine aj.aV hT dr hm 60 cQ UF (by kernel_rfl) ?_
  refine⟨fun h=>⟨fun _=>⟨⟨h,rfl⟩,fun _ s' hv=>yes s' (.inl (by have:=of_decide_eq_true h;omega)) hv,fun hf=>by simp at hf⟩,fun hf=>by simp at hf⟩,
   fun h=>⟨fun h2=>⟨⟨h,h2⟩,fun _ s' hv=>yes s' (.inr (.inl (by have:=of_decide_eq_true (fE h2);omega))) hv,fun hf=>by simp at hf⟩,
    fun h2=>⟨⟨h,h2⟩,fun h3 s' hv=>yes s' (.inr (.inr ?_)) hv,fun h3 s' hv=>no s' ?_ ?_ ?_ hv⟩⟩⟩
  ·have:=fE h3
   simp at this;exact this
  ·have:=of_decide_eq_false h;omega
  ·have:=of_decide_eq_false (fE h2);omega
  ·have:=fE h3
   simp at this;exact this
 |succ i=>
  refine aj.aV hT dr hm 60 cQ WG (by kernel_rfl) ?_
  refine⟨fun h=>⟨fun _=>⟨⟨h,rfl⟩,fun _ s' hv=>yes s' (.inl (by have:=of_decide_eq_true h;omega)) hv,fun hf=>by simp at hf⟩,fun hf=>by simp at hf⟩,
   fun h=>⟨fun h2=>⟨⟨h,h2⟩,fun _ s' hv=>yes s' (.inr (.inl (by have:=of_decide_eq_true (fE h2);omega))) hv,fun hf=>by simp at hf⟩,
    fun h2=>⟨⟨h,h2⟩,fun h3 s' hv=>yes s' (.inr (.inr ?_)) hv,fun h3 s' hv=>no s' ?_ ?_ ?_ hv⟩⟩⟩
  ·have:=fE h3
   simp at this;exact this
  ·have:=of_decide_eq_false h;omega
  ·have:=of_decide_eq_false (fE h2);omega
  ·have:=fE h3
   simp at this;exact this
theorem Sb {A B:Nat} (hA:nl A<2^40) (hB:nl B<2^40) (K:Nat):aB P qH K [.mag A,.mag B] [] (aG (.mag (A+B)) []):=by
 refine gH hT Zs rfl (of_decide_eq_true (by kernel_rfl)) rfl (fun _ c0 h0=>.down ?_) K []
 refine aj.hole [1,1,1,0,1] (by kernel_rfl) (aC.aV hT dr hm 60 cQ RH (by kernel_rfl) fun s' hv=>bK ?_)
 refine aj.fU (i:=0) (y:=gb) (by kernel_rfl) (fun p:Nat×Nat×(Nat→Nat)=>⟨aD cQ (jq A B p.2.1 p.1),js p.2.2 p.1,8⟩)
  (fun p=>(p.1≤max (nl A) (nl B)∨(p.1=max (nl A) (nl B)+1∧p.2.1=0∧2^(32*max (nl A) (nl B))≤A+B))∧p.2.1≤1∧(∀j,j<p.1→p.2.2 j<2^32)∧val p.1 p.2.2+p.2.1*2^(32*p.1)=val p.1 (ay A)+val p.1 (ay B))
  (fun p=>max (nl A) (nl B)+1-p.1) (0,0,fun _=>0) (jN hv (hG h0) l5 l6) ⟨by simp,by simp,fun j hj=>by simp only at hj;omega,by simp[val]⟩ ?_
 rintro⟨i,c,o⟩ ⟨hi,hc,ho,hval⟩
 simp only at hi hc ho hval
 have hAv:max (nl A) (nl B)≤i→val i (ay A)+val i (ay B)=A+B:=fun h=>by
  rw[lW (cq.1 (by omega)),lW (cq.1 (by omega))]
 -- a round
 have body:∀{s':aE},(i<nl A∨i<nl B∨c≠0)→aR cQ s'=some (jq A B c i,js o i)→∀{QF:ah→aE→Prop},
   aj P c0 fy.ntmps (part gb [1]) s' (cK (fun s'=>∃k:Nat×Nat×(Nat→Nat),(∃ρ,Le c0 ρ s' ⟨aD cQ (jq A B k.2.1 k.1),js k.2.2 k.1,8⟩)∧
    ((k.1≤max (nl A) (nl B)∨(k.1=max (nl A) (nl B)+1∧k.2.1=0∧2^(32*max (nl A) (nl B))≤A+B))∧k.2.1≤1∧(∀j,j<k.1→k.2.2 j<2^32)∧val k.1 k.2.2+k.2.1*2^(32*k.1)=val k.1 (ay A)+val k.1 (ay B))∧
    max (nl A) (nl B)+1-k.1<max (nl A) (nl B)+1-i) QF):=by
  intro s' hcont hv QF
  have hi':i≤max (nl A) (nl B):=by omega
  have la:=cA (N:=A) (i:=i)
  have lb:=cA (N:=B) (i:=i)
  refine aj.hole [0] (by kernel_rfl) ?_
  show aj P c0 fy.ntmps (part gb [1,0]) s' _
  refine aj.mq (i:=1) (y:=part gb [1,0,0]) (by kernel_rfl) ?_
  refine aj.hole [1,1] (by kernel_rfl) (J8 h0 hc hv fun s' hv=>bK (TP h0 (by omega) hv fun s' hle=>bK ?_))
  show aC P c0 fy.ntmps [part gb [1,1]] s' _
  refine aC.weak rfl hle (aC.aV hT dr hm 60 cQ WU (by kernel_rfl) fun s' hv=>bK ?_)
  have hs:=y9 (B:=2^(32*i)) (c:=c) (z:=ay A i) (y:=ay B i) rfl hval
  refine⟨(i+1,(c+ay A i+ay B i)/4294967296,bG o i ((c+ay A i+ay B i)%4294967296)),jN (cC hv ?_ rfl) (hG h0) l5 l6,⟨?_,by simp only;omega,fun j hj=>?_,?_⟩,by simp only;omega⟩
  ·rw[cY (a:=(i:Int)+1) (n:=i+1) (by omega) (by omega)];rfl
  ·simp only
   by_cases h:i<max (nl A) (nl B)
   ·exact .inl (by omega)
   ·have e:i=max (nl A) (nl B):=by omega
    have lA:=gB (A:=A) (i:=i) (by omega)
    have lB:=gB (A:=B) (i:=i) (by omega)
    refine .inr ⟨by omega,by rw[lA,lB];omega,?_⟩
    rw[hAv (by omega)]at hval
    have hc1:c=1:=by omega
    rw[hc1,Nat.one_mul,e]at hval
    omega
  ·simp only at hj ⊢
   unfold bG
   split
   ·omega
   ·exact ho j (by omega)
  ·simp only
   rw[mS,val,val,fm]
   omega
 -- the end
 have fin:∀{s':aE},nl A≤i→nl B≤i→c=0→aR cQ s'=some (jq A B c i,js o i)→aC P c0 fy.ntmps (behind (au fy) [1,1,1,0,1]) s' (cR c0 (Fin T fy (.mag (A+B)))):=by
  intro s' h1 h2 h3 hv
  have hsum:val i o=A+B:=by rw[hAv (by omega),h3]at hval;omega
  cases i with
  |zero=>
   have:A+B=0:=by rw[←hsum];rfl
   refine aC.g8 hT dr hm 60 hv (hG h0) l5 l6 YQ (by kernel_rfl) (by kernel_rfl) ?_
   rw[this]
   exact ir
  |succ i=>
   refine aC.g8 hT dr hm 60 hv (hG h0) l5 l6 P2 (by kernel_rfl) (by kernel_rfl) ?_
   refine iQ ?_ fun j hj=>?_
   ·have l1:nl (A+B)≤i+1:=cq.2 (by rw[←hsum];exact ec ho)
    have l2:¬nl (A+B)≤i:=by
     intro h
     rcases hi with hi|⟨hi,_,hi2⟩
     ·have:=fA (show A≤A+B by omega)
      have:=fA (show B≤A+B by omega)
      omega
     ·rw[cq]at h
      rw[show max (nl A) (nl B)=i by omega]at hi2
      omega
    omega
   ·rw[←hsum,l8 ho hj];rfl
 refine aj.hole [0] (by kernel_rfl) (show aj P c0 fy.ntmps (part gb [0]) _ _ from Rz (fun s' h hv=>bK ?_) fun s' h1 h2 h3 hv=>nr (dM (bK (fin h1 h2 h3 hv))))
 show aC P c0 fy.ntmps [part gb [1]] s' _
 exact body h hv
def CF:Spec:=jQ (fun A B=>.mag (A+B)) AD
theorem Ya:∀K args pre r,CF K args pre=some r→aB P qH K args pre r:=lS fun h=>Sb h.1 h.2
end Go.Am.B
