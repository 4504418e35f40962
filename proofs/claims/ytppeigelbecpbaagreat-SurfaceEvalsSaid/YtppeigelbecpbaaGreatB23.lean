/- ref01: Add, minus, Sub, Mul, byLimb. -/
import Derived.Test.YtppeigelbecpbaaGreatB22
set_option linter.unusedVariables false
namespace Go.Am.B
open Go Go.Am.N AV
theorem adB:aO P yV fK (aq fK):=aP Sv (by kernel_rfl) (by kernel_rfl) (by kernel_rfl)
abbrev dh:List Nat:=[0,1,5,6,7]
abbrev tG (A B c i:Nat):List AV:=[.mag A,.mag B,.own 7 1 0 i,.int .u64 c,.int .i64 i]
abbrev mb (i:Nat) (o:Nat→Nat):aA:=[(7,⟨true,true,1,i,au o⟩)]
noncomputable abbrev gF:Code:=part (aq fK) [1,1,1,0,1,0,0]
theorem ZN {A B:Nat}:aG T dI [] 60 dh (before (aq fK) [1,1,1,0,1]) ⟨aM 0 [.mag A,.mag B],[],0⟩=
  some (aa.leaf aj.normal ([mag A,mag B,nil,int IntKind.u64 (0:Int),int IntKind.i64 (0:Int)],[])):=by kernel_rfl
theorem ab2 {A B c:Nat}:aG T dI [12,18,21] 60 dh [part gF [0]] ⟨aB dh [.mag A,.mag B,.nil,.int .u64 c,.int .i64 0],[],8⟩=
  let c3:Bool:=bif false then true else decide ((0:Int)<(↑(nl B):Int));let c2:Bool:=decide ((0:Int)<(↑(nl A):Int));let c1:List AV×aA:=([mag A,mag B,nil,int IntKind.u64 (↑c:Int),int IntKind.i64 (0:Int)],[]);let c5:aa (List AV×aA):=aa.fork true (aa.leaf aj.normal c1) (aa.leaf (aj.exit 0) c1);let c4:aa (List AV×aA):=aa.fork (bif false then true else(↑c:Int)!=(0:Int)) (aa.leaf aj.normal c1) (aa.leaf (aj.exit 0) c1);some (aa.fork c2 (aa.fork true (aa.af [c2=true,true=true] c5) (aa.af [c2=true,true=false] c4)) (aa.fork c3 (aa.af [c2=false,c3=true] c5) (aa.af [c2=false,c3=false] c4))):=by kernel_rfl
theorem OY {A B c i:Nat} {o:Nat→Nat}:aG T dI [12,18,21] 60 dh [part gF [0]] ⟨aB dh (tG A B c i),mb i o,8⟩=
  let c6:Int:=(↑i:Int);let c3:Bool:=bif false then true else decide (c6<(↑(nl B):Int));let c2:Bool:=decide (c6<(↑(nl A):Int));let c1:List AV×aA:=([mag A,mag B,own 7 1 0 i,int IntKind.u64 (↑c:Int),int IntKind.i64 c6],[((7:Nat),ah.mk true true 1 i fun a↦int IntKind.u32 (↑(o a):Int))]);let c5:aa (List AV×aA):=aa.fork true (aa.leaf aj.normal c1) (aa.leaf (aj.exit 0) c1);let c4:aa (List AV×aA):=aa.fork (bif false then true else(↑c:Int)!=(0:Int)) (aa.leaf aj.normal c1) (aa.leaf (aj.exit 0) c1);some (aa.fork c2 (aa.fork true (aa.af [c2=true,true=true] c5) (aa.af [c2=true,true=false] c4)) (aa.fork c3 (aa.af [c2=false,c3=true] c5) (aa.af [c2=false,c3=false] c4))):=by kernel_rfl
theorem Tj {A B c:Nat}:aG T dI [27,38] 60 dh (before (part gF [1,0,0]) [1,1]) ⟨aB dh [.mag A,.mag B,.nil,.int .u64 c,.int .i64 0],[],8⟩=
  let c5:Prop:=(0:Int)≤(0:Int);let c4:Int:=(↑(nl B):Int);let c2:List AV:=[int IntKind.i64 (0:Int)];let c1:Nat:=Int.toNat (0:Int);let c6:Int:=IntKind.u64.wrap (↑(ay B c1):Int);let c3:Int:=IntKind.u64.wrap ((↑c:Int)+IntKind.u64.wrap (↑(ay A c1):Int));some (aa.fork (decide ((0:Int)<(↑(nl A):Int))) (aa.af [c5∧c1<nl A] (aa.fork (decide ((0:Int)<c4)) (aa.af [c5∧c1<nl B] (aa.leaf aj.normal (mag A::mag B::nil::int IntKind.u64 (IntKind.u64.wrap (c3+c6))::c2,[]))) (aa.leaf aj.normal (mag A::mag B::nil::int IntKind.u64 c3::c2,[])))) (aa.fork (decide ((0:Int)<c4)) (aa.af [c5∧c1<nl B] (aa.leaf aj.normal (mag A::mag B::nil::int IntKind.u64 (IntKind.u64.wrap ((↑c:Int)+c6))::c2,[]))) (aa.leaf aj.normal (mag A::mag B::nil::int IntKind.u64 (↑c:Int)::c2,[])))):=by kernel_rfl
theorem Zj {A B c i:Nat} {o:Nat→Nat}:aG T dI [27,38] 60 dh (before (part gF [1,0,0]) [1,1]) ⟨aB dh (tG A B c i),mb i o,8⟩=
  let c7:Int:=(↑(nl B):Int);let c3:AV:=own 7 1 0 i;let c2:Int:=(↑i:Int);let c1:Nat×ah:=((7:Nat),ah.mk true true 1 i fun a↦int IntKind.u32 (↑(o a):Int));let c8:Prop:=(0:Int)≤c2∧c2.toNat<nl B;let c6:Int:=IntKind.u64.wrap (↑(ay B c2.toNat):Int);let c5:List AV:=[int IntKind.i64 c2];let c4:Int:=IntKind.u64.wrap ((↑c:Int)+IntKind.u64.wrap (↑(ay A c2.toNat):Int));some (aa.fork (decide (c2<(↑(nl A):Int))) (aa.af [(0:Int)≤c2∧c2.toNat<nl A] (aa.fork (decide (c2<c7)) (aa.af [c8] (aa.leaf aj.normal (mag A::mag B::c3::int IntKind.u64 (IntKind.u64.wrap (c4+c6))::c5,[c1]))) (aa.leaf aj.normal (mag A::mag B::c3::int IntKind.u64 c4::c5,[c1])))) (aa.fork (decide (c2<c7)) (aa.af [c8] (aa.leaf aj.normal (mag A::mag B::c3::int IntKind.u64 (IntKind.u64.wrap ((↑c:Int)+c6))::c5,[c1]))) (aa.leaf aj.normal (mag A::mag B::c3::int IntKind.u64 (↑c:Int)::c5,[c1])))):=by kernel_rfl
theorem QW {A B c:Nat}:aG T dI [] 60 dh [part (part gF [1,0,0]) [1,1]] ⟨aB dh [.mag A,.mag B,.nil,.int .u64 c,.int .i64 0],[],8⟩=
  some (aa.af [(1:Nat)*1≤2^24,(0:Nat)<1∧1*((4:Nat)+1)*2≤2^47] (aa.af [(0:Int)≤(32:Int)] (aa.leaf aj.normal ([mag A,mag B,own 16392 1 0 1,int IntKind.u64 ((↑c:Int).fdiv ((2:Int)^min (Int.toNat (32:Int)) IntKind.u64.bits)),int IntKind.i64 (0:Int)],[((16392:Nat),ah.mk true true 1 1 fun i↦nth [int IntKind.u32 (IntKind.u32.wrap (↑c:Int))] (int IntKind.u32 (0:Int)) (i+0))])))):=by kernel_rfl
theorem Up {A B c i:Nat} {o:Nat→Nat}:aG T dI [] 60 dh [part (part gF [1,0,0]) [1,1]] ⟨aB dh (tG A B c i),mb i o,8⟩=
  some (aa.af [(1:Nat)*1≤2^24,(i+1)*((4:Nat)+1)*2≤2^47] (aa.af [(0:Int)≤(32:Int)] (aa.leaf aj.normal ([mag A,mag B,own 16392 1 0 (i+1),int IntKind.u64 ((↑c:Int).fdiv ((2:Int)^min (Int.toNat (32:Int)) IntKind.u64.bits)),int IntKind.i64 (↑i:Int)],[((16392:Nat),ah.mk true true 1 (i+1) fun i_1↦if i_1<i then au o i_1 else nth [int IntKind.u32 (IntKind.u32.wrap (↑c:Int))] (int IntKind.u32 (0:Int)) (i_1-i+0))])))):=by kernel_rfl
theorem OH {A B c i j:Nat} {o:Nat→Nat}:aG T dI [] 60 dh [part gF [1,1]] ⟨aB dh [.mag A,.mag B,.own 7 1 0 i,.int .u64 c,.int .i64 j],mb i o,8⟩=
  some (aa.leaf aj.normal ([mag A,mag B,own 7 1 0 i,int IntKind.u64 (↑c:Int),int IntKind.i64 (IntKind.i64.wrap ((↑j:Int)+(1:Int)))],[((7:Nat),ah.mk true true 1 i fun a↦int IntKind.u32 (↑(o a):Int))])):=by kernel_rfl
theorem S8 {A B c:Nat}:bZ T dI [] 60 fK (behind (aq fK) [1,1,1,0,1]) ⟨aB dh [.mag A,.mag B,.nil,.int .u64 c,.int .i64 0],[],8⟩=
  some (aa.leaf aj.ret [nil]):=by kernel_rfl
theorem YV {A B c i:Nat} {o:Nat→Nat}:bZ T dI [] 60 fK (behind (aq fK) [1,1,1,0,1]) ⟨aB dh (tG A B c i),mb i o,8⟩=
  some (aa.leaf aj.ret [ag 1 i fun i↦int IntKind.u32 (↑(o (i+0)):Int)]):=by kernel_rfl
theorem gQ {A i:Nat} (h:nl A≤i):ay A i=0:=by
 unfold ay
 rw[Nat.div_eq_of_lt (cI.1 h)]
def jY (A B c:Nat):Nat→List AV
 |0=>[.mag A,.mag B,.nil,.int .u64 c,.int .i64 0]
 |i+1=>tG A B c (i+1)
def j7 (o:Nat→Nat):Nat→aA
 |0=>[]
 |i+1=>mb (i+1) o
theorem nK {A B c i:Nat}:g9 8 (jY A B c i)=true:=by cases i<;>rfl
theorem mC {o:Nat→Nat} {i:Nat}:fA 8 (j7 o i):=by
 cases i
 ·trivial
 ·exact⟨⟨by omega,fun _ _=>rfl⟩,trivial⟩
section fadd
variable {c0:Ctx} (h0:c0.k0=aY) {A B:Nat} {Q:aj→aE→Prop}
include h0 in
theorem U7 {c i:Nat} {o:Nat→Nat} {s':aE} (hc:c≤1) (hv:aU dh s'=some (jY A B c i,j7 o i))
  (fin:∀s',aU dh s'=some (jY A B (c+ay A i+ay B i) i,j7 o i)→Q .normal s'):aC P c0 fK.ntmps (before (part gF [1,0,0]) [1,1]) s' Q:=by
 have la:=cM (N:=A) (i:=i)
 have lb:=cM (N:=B) (i:=i)
 have wa:IntKind.u64.wrap (ay A i:Int)=((ay A i:Nat):Int):=bH (by omega) (by omega)
 have wb:IntKind.u64.wrap (ay B i:Int)=((ay B i:Nat):Int):=bH (by omega) (by omega)
 have w1:IntKind.u64.wrap ((c:Int)+((ay A i:Nat):Int))=((c+ay A i:Nat):Int):=by rw[bH (by omega) (by omega)];omega
 have w2:IntKind.u64.wrap ((c:Int)+((ay B i:Nat):Int))=((c+ay B i:Nat):Int):=by rw[bH (by omega) (by omega)];omega
 have w3:IntKind.u64.wrap (((c+ay A i:Nat):Int)+((ay B i:Nat):Int))=((c+ay A i+ay B i:Nat):Int):=by rw[bH (by omega) (by omega)];omega
 cases i with
 |zero=>
  refine aC.dS hT dP hm 60 hv (iJ h0) nK mC dh Tj (by kernel_rfl) (by kernel_rfl) ?_
  simp only[aa.all,ax,decide_eq_true_eq,decide_eq_false_iff_not,Int.toNat_zero]
  rw[wa,wb,w1,w2,w3]
  refine⟨fun h1=>⟨by omega,fun h2=>⟨by omega,fun s' hv=>fin s' hv⟩,fun h2 s' hv=>fin s' (cO hv ?_ rfl)⟩,fun h1=>⟨fun h2=>⟨by omega,fun s' hv=>fin s' (cO hv ?_ rfl)⟩,fun h2 s' hv=>fin s' (cO hv ?_ rfl)⟩⟩
  ·rw[gQ (A:=B) (by omega)];rfl
  ·rw[gQ (A:=A) (by omega)];rfl
  ·rw[gQ (A:=A) (by omega),gQ (A:=B) (by omega)];rfl
 |succ i=>
  refine aC.dS hT dP hm 60 hv (iJ h0) nK mC dh Zj (by kernel_rfl) (by kernel_rfl) ?_
  simp only[aa.all,ax,decide_eq_true_eq,decide_eq_false_iff_not,Int.toNat_natCast]
  rw[wa,wb,w1,w2,w3]
  refine⟨fun h1=>⟨by omega,fun h2=>⟨by omega,fun s' hv=>fin s' hv⟩,fun h2 s' hv=>fin s' (cO hv ?_ rfl)⟩,fun h1=>⟨fun h2=>⟨by omega,fun s' hv=>fin s' (cO hv ?_ rfl)⟩,fun h2 s' hv=>fin s' (cO hv ?_ rfl)⟩⟩
  ·rw[gQ (A:=B) (by omega)];rfl
  ·rw[gQ (A:=A) (by omega)];rfl
  ·rw[gQ (A:=A) (by omega),gQ (A:=B) (by omega)];rfl
include h0 in
theorem XD {c i:Nat} {o:Nat→Nat} {s':aE} (hi:i<2^41) (hv:aU dh s'=some (jY A B c i,j7 o i))
  (fin:∀s',(∃ρ,Le c0 ρ s' ⟨aB dh [.mag A,.mag B,.own 7 1 0 (i+1),.int .u64 (c/4294967296:Nat),.int .i64 i],mb (i+1) (bP o i (c%4294967296)),8⟩)→Q .normal s'):ak P c0 fK.ntmps (part (part gF [1,0,0]) [1,1]) s' Q:=by
 have hd:(c:Int).fdiv (2^min (Int.toNat 32) IntKind.u64.bits)=((c/4294967296:Nat):Int):=by rw[jw];omega
 cases i with
 |zero=>
  refine ak.dS hT dP hm 60 hv (iJ h0) nK mC dh QW (by kernel_rfl) ?_
  rw[hd]
  simp only[aa.all,ax]
  refine⟨⟨by omega,by omega,by omega⟩,by omega,fun s' hv=>fin s' ?_⟩
  refine cK (vs:=[.mag A,.mag B,.own 7 1 0 1,.int .u64 (c/4294967296:Nat),.int .i64 0]) (ps:=mb 1 (bP o 0 (c%4294967296))) (nx:=8) [(7,16392)] hv h0 rfl ⟨⟨rfl,aH rfl⟩,⟨rfl,aH rfl⟩,⟨rfl,bR rfl rfl rfl⟩,⟨rfl,aH rfl⟩,⟨rfl,aH rfl⟩,trivial⟩
   ⟨⟨_,_,rfl,rfl,eo rfl fun j hj=>?_⟩,trivial⟩
  have:j=0:=by omega
  subst this
  simp[nth,au,iH,ij]
 |succ i=>
  refine ak.dS hT dP hm 60 hv (iJ h0) nK mC dh Up (by kernel_rfl) ?_
  rw[hd]
  simp only[aa.all,ax]
  refine⟨⟨by omega,by omega⟩,by omega,fun s' hv=>fin s' ?_⟩
  refine cK (vs:=[.mag A,.mag B,.own 7 1 0 (i+1+1),.int .u64 (c/4294967296:Nat),.int .i64 ((i+1:Nat):Int)]) (ps:=mb (i+1+1) (bP o (i+1) (c%4294967296))) (nx:=8) [(7,16392)] hv h0 rfl ⟨⟨rfl,aH rfl⟩,⟨rfl,aH rfl⟩,⟨rfl,bR rfl rfl rfl⟩,⟨rfl,aH rfl⟩,⟨rfl,aH rfl⟩,trivial⟩
   ⟨⟨_,_,rfl,rfl,eo rfl fun j hj=>?_⟩,trivial⟩
  by_cases h:j<i+1
  ·rw[if_pos h];unfold au;rw[ew (by omega)]
  ·have:j=i+1:=by omega
   subst this
   simp[nth,au,iH,ij]
end fadd
theorem P9 {c i:Nat} {o:Nat→Nat} {c0:Ctx} {Q:aj→aE→Prop} {A B:Nat} (yes:∀s',(i<nl A∨i<nl B∨c≠0)→aU dh s'=some (jY A B c i,j7 o i)→Q .normal s')
  (no:∀s',nl A≤i→nl B≤i→c=0→aU dh s'=some (jY A B c i,j7 o i)→Q (.exit 0) s'):ak P c0 fK.ntmps (part gF [0]) ⟨aB dh (jY A B c i),j7 o i,8⟩ Q:=by
 cases i with
 |zero=>
  refine ak.bf hT dP hm 60 dh ab2 (by kernel_rfl) ?_
  refine⟨fun h=>⟨fun _=>⟨⟨h,rfl⟩,fun _ s' hv=>yes s' (.inl (by have:=of_decide_eq_true h;omega)) hv,fun hf=>by simp at hf⟩,fun hf=>by simp at hf⟩,
   fun h=>⟨fun h2=>⟨⟨h,h2⟩,fun _ s' hv=>yes s' (.inr (.inl (by have:=of_decide_eq_true (ga h2);omega))) hv,fun hf=>by simp at hf⟩,
    fun h2=>⟨⟨h,h2⟩,fun h3 s' hv=>yes s' (.inr (.inr ?_)) hv,fun h3 s' hv=>no s' ?_ ?_ ?_ hv⟩⟩⟩
  ·have:=ga h3
   simp at this;exact this
  ·have:=of_decide_eq_false h;omega
  ·have:=of_decide_eq_false (ga h2);omega
  ·have:=ga h3
   simp at this;exact this
 |succ i=>
  refine ak.bf hT dP hm 60 dh OY (by kernel_rfl) ?_
  refine⟨fun h=>⟨fun _=>⟨⟨h,rfl⟩,fun _ s' hv=>yes s' (.inl (by have:=of_decide_eq_true h;omega)) hv,fun hf=>by simp at hf⟩,fun hf=>by simp at hf⟩,
   fun h=>⟨fun h2=>⟨⟨h,h2⟩,fun _ s' hv=>yes s' (.inr (.inl (by have:=of_decide_eq_true (ga h2);omega))) hv,fun hf=>by simp at hf⟩,
    fun h2=>⟨⟨h,h2⟩,fun h3 s' hv=>yes s' (.inr (.inr ?_)) hv,fun h3 s' hv=>no s' ?_ ?_ ?_ hv⟩⟩⟩
  ·have:=ga h3
   simp at this;exact this
  ·have:=of_decide_eq_false h;omega
  ·have:=of_decide_eq_false (ga h2);omega
  ·have:=ga h3
   simp at this;exact this
theorem acY {A B:Nat} (hA:nl A<2^40) (hB:nl B<2^40) (K:Nat):az P yV K [.mag A,.mag B] [] (aF (.mag (A+B)) []):=by
 refine iG hT adB rfl (of_decide_eq_true (by kernel_rfl)) rfl (fun _ c0 h0=>.down ?_) K []
 refine ak.hole [1,1,1,0,1] (by kernel_rfl) (aC.bf hT dP hm 60 dh ZN (by kernel_rfl) fun s' hv=>bX ?_)
 refine ak.gk (i:=0) (y:=gF) (by kernel_rfl) (fun p:Nat×Nat×(Nat→Nat)=>⟨aB dh (jY A B p.2.1 p.1),j7 p.2.2 p.1,8⟩)
  (fun p=>(p.1≤max (nl A) (nl B)∨(p.1=max (nl A) (nl B)+1∧p.2.1=0∧2^(32*max (nl A) (nl B))≤A+B))∧p.2.1≤1∧(∀j,j<p.1→p.2.2 j<2^32)∧val p.1 p.2.2+p.2.1*2^(32*p.1)=val p.1 (ay A)+val p.1 (ay B))
  (fun p=>max (nl A) (nl B)+1-p.1) (0,0,fun _=>0) (kJ hv (iJ h0) nK mC) ⟨by simp,by simp,fun j hj=>by simp only at hj;omega,by simp[val]⟩ ?_
 rintro⟨i,c,o⟩ ⟨hi,hc,ho,hval⟩
 simp only at hi hc ho hval
 have hAv:max (nl A) (nl B)≤i→val i (ay A)+val i (ay B)=A+B:=fun h=>by
  rw[mA (cI.1 (by omega)),mA (cI.1 (by omega))]
 -- a round
 have body:∀{s':aE},(i<nl A∨i<nl B∨c≠0)→aU dh s'=some (jY A B c i,j7 o i)→∀{QF:aj→aE→Prop},
   ak P c0 fK.ntmps (part gF [1]) s' (cX (fun s'=>∃k:Nat×Nat×(Nat→Nat),(∃ρ,Le c0 ρ s' ⟨aB dh (jY A B k.2.1 k.1),j7 k.2.2 k.1,8⟩)∧
    ((k.1≤max (nl A) (nl B)∨(k.1=max (nl A) (nl B)+1∧k.2.1=0∧2^(32*max (nl A) (nl B))≤A+B))∧k.2.1≤1∧(∀j,j<k.1→k.2.2 j<2^32)∧val k.1 k.2.2+k.2.1*2^(32*k.1)=val k.1 (ay A)+val k.1 (ay B))∧
    max (nl A) (nl B)+1-k.1<max (nl A) (nl B)+1-i) QF):=by
  intro s' hcont hv QF
  have hi':i≤max (nl A) (nl B):=by omega
  have la:=cM (N:=A) (i:=i)
  have lb:=cM (N:=B) (i:=i)
  refine ak.hole [0] (by kernel_rfl) ?_
  show ak P c0 fK.ntmps (part gF [1,0]) s' _
  refine ak.nE (i:=1) (y:=part gF [1,0,0]) (by kernel_rfl) ?_
  refine ak.hole [1,1] (by kernel_rfl) (U7 h0 hc hv fun s' hv=>bX (XD h0 (by omega) hv fun s' hle=>bX ?_))
  show aC P c0 fK.ntmps [part gF [1,1]] s' _
  refine aC.weak rfl hle (aC.bf hT dP hm 60 dh OH (by kernel_rfl) fun s' hv=>bX ?_)
  have hs:=DO (B:=2^(32*i)) (c:=c) (z:=ay A i) (y:=ay B i) rfl hval
  refine⟨(i+1,(c+ay A i+ay B i)/4294967296,bP o i ((c+ay A i+ay B i)%4294967296)),kJ (cO hv ?_ rfl) (iJ h0) nK mC,⟨?_,by simp only;omega,fun j hj=>?_,?_⟩,by simp only;omega⟩
  ·rw[dx (a:=(i:Int)+1) (n:=i+1) (by omega) (by omega)];rfl
  ·simp only
   by_cases h:i<max (nl A) (nl B)
   ·exact .inl (by omega)
   ·have e:i=max (nl A) (nl B):=by omega
    have lA:=gQ (A:=A) (i:=i) (by omega)
    have lB:=gQ (A:=B) (i:=i) (by omega)
    refine .inr ⟨by omega,by rw[lA,lB];omega,?_⟩
    rw[hAv (by omega)]at hval
    have hc1:c=1:=by omega
    rw[hc1,Nat.one_mul,e]at hval
    omega
  ·simp only at hj ⊢
   unfold bP
   split
   ·omega
   ·exact ho j (by omega)
  ·simp only
   rw[n9,val,val,fQ]
   omega
 -- the end
 have fin:∀{s':aE},nl A≤i→nl B≤i→c=0→aU dh s'=some (jY A B c i,j7 o i)→aC P c0 fK.ntmps (behind (aq fK) [1,1,1,0,1]) s' (dm c0 (Fin T fK (.mag (A+B)))):=by
  intro s' h1 h2 h3 hv
  have hsum:val i o=A+B:=by rw[hAv (by omega),h3]at hval;omega
  cases i with
  |zero=>
   have:A+B=0:=by rw[←hsum];rfl
   refine aC.iM hT dP hm 60 hv (iJ h0) nK mC S8 (by kernel_rfl) (by kernel_rfl) ?_
   rw[this]
   exact jf
  |succ i=>
   refine aC.iM hT dP hm 60 hv (iJ h0) nK mC YV (by kernel_rfl) (by kernel_rfl) ?_
   refine jL ?_ fun j hj=>?_
   ·have l1:nl (A+B)≤i+1:=cI.2 (by rw[←hsum];exact ey ho)
    have l2:¬nl (A+B)≤i:=by
     intro h
     rcases hi with hi|⟨hi,_,hi2⟩
     ·have:=fO (show A≤A+B by omega)
      have:=fO (show B≤A+B by omega)
      omega
     ·rw[cI]at h
      rw[show max (nl A) (nl B)=i by omega]at hi2
      omega
    omega
   ·rw[←hsum,nI ho hj];rfl
 refine ak.hole [0] (by kernel_rfl) (show ak P c0 fK.ntmps (part gF [0]) _ _ from P9 (fun s' h hv=>bX ?_) fun s' h1 h2 h3 hv=>oN (ef (bX (fin h1 h2 h3 hv))))
 show aC P c0 fK.ntmps [part gF [1]] s' _
 exact body h hv
def Fx:Spec:=kq (fun A B=>.mag (A+B)) Dh
theorem Ud:∀K args pre r,Fx K args pre=some r→az P yV K args pre r:=mD fun h=>acY h.1 h.2
end Go.Am.B
