/- ref01: Add, minus, Sub, Mul, byLimb. -/
import Derived.Test.YtppeigelbecpbaaGreatB22
set_option linter.unusedVariables false
namespace Go.Am.B
open Go Go.Am.N AV
theorem Wz:aP P Au gC (au gC):=aQ agh (by kernel_rfl) (by kernel_rfl) (by kernel_rfl)
abbrev dO:List Nat:=[0,1,5,6,7]
abbrev wF (A B c i:Nat):List AV:=[.mag A,.mag B,.own 7 1 0 i,.int .u64 c,.int .i64 i]
abbrev ny (i:Nat) (o:Nat→Nat):aC:=[(7,⟨true,true,1,i,ay o⟩)]
noncomputable abbrev iE:Code:=part (au gC) [1,1,1,0,1,0,0]
theorem abY {A B:Nat}:aH T eo [] 60 dO (before (au gC) [1,1,1,0,1]) ⟨aN 0 [.mag A,.mag B],[],0⟩=
  some (aa.leaf aj.normal ([mag A,mag B,nil,int IntKind.u64 (0:Int),int IntKind.i64 (0:Int)],[])):=by kernel_rfl
theorem aaL {A B c:Nat}:aH T eo [12,18,21] 60 dO [part iE [0]] ⟨aB dO [.mag A,.mag B,.nil,.int .u64 c,.int .i64 0],[],8⟩=
  let c3:Bool:=bif false then true else decide ((0:Int)<(↑(nl B):Int));let c2:Bool:=decide ((0:Int)<(↑(nl A):Int));let c1:List AV×aC:=([mag A,mag B,nil,int IntKind.u64 (↑c:Int),int IntKind.i64 (0:Int)],[]);let c5:aa (List AV×aC):=aa.fork true (aa.leaf aj.normal c1) (aa.leaf (aj.exit 0) c1);let c4:aa (List AV×aC):=aa.fork (bif false then true else(↑c:Int)!=(0:Int)) (aa.leaf aj.normal c1) (aa.leaf (aj.exit 0) c1);some (aa.fork c2 (aa.fork true (aa.ag [c2=true,true=true] c5) (aa.ag [c2=true,true=false] c4)) (aa.fork c3 (aa.ag [c2=false,c3=true] c5) (aa.ag [c2=false,c3=false] c4))):=by kernel_rfl
theorem ac6 {A B c i:Nat} {o:Nat→Nat}:aH T eo [12,18,21] 60 dO [part iE [0]] ⟨aB dO (wF A B c i),ny i o,8⟩=
  let c6:Int:=(↑i:Int);let c3:Bool:=bif false then true else decide (c6<(↑(nl B):Int));let c2:Bool:=decide (c6<(↑(nl A):Int));let c1:List AV×aC:=([mag A,mag B,own 7 1 0 i,int IntKind.u64 (↑c:Int),int IntKind.i64 c6],[((7:Nat),ah.mk true true 1 i fun a↦int IntKind.u32 (↑(o a):Int))]);let c5:aa (List AV×aC):=aa.fork true (aa.leaf aj.normal c1) (aa.leaf (aj.exit 0) c1);let c4:aa (List AV×aC):=aa.fork (bif false then true else(↑c:Int)!=(0:Int)) (aa.leaf aj.normal c1) (aa.leaf (aj.exit 0) c1);some (aa.fork c2 (aa.fork true (aa.ag [c2=true,true=true] c5) (aa.ag [c2=true,true=false] c4)) (aa.fork c3 (aa.ag [c2=false,c3=true] c5) (aa.ag [c2=false,c3=false] c4))):=by kernel_rfl
theorem aeP {A B c:Nat}:aH T eo [27,38] 60 dO (before (part iE [1,0,0]) [1,1]) ⟨aB dO [.mag A,.mag B,.nil,.int .u64 c,.int .i64 0],[],8⟩=
  let c5:Prop:=(0:Int)≤(0:Int);let c4:Int:=(↑(nl B):Int);let c2:List AV:=[int IntKind.i64 (0:Int)];let c1:Nat:=Int.toNat (0:Int);let c6:Int:=IntKind.u64.wrap (↑(az B c1):Int);let c3:Int:=IntKind.u64.wrap ((↑c:Int)+IntKind.u64.wrap (↑(az A c1):Int));some (aa.fork (decide ((0:Int)<(↑(nl A):Int))) (aa.ag [c5∧c1<nl A] (aa.fork (decide ((0:Int)<c4)) (aa.ag [c5∧c1<nl B] (aa.leaf aj.normal (mag A::mag B::nil::int IntKind.u64 (IntKind.u64.wrap (c3+c6))::c2,[]))) (aa.leaf aj.normal (mag A::mag B::nil::int IntKind.u64 c3::c2,[])))) (aa.fork (decide ((0:Int)<c4)) (aa.ag [c5∧c1<nl B] (aa.leaf aj.normal (mag A::mag B::nil::int IntKind.u64 (IntKind.u64.wrap ((↑c:Int)+c6))::c2,[]))) (aa.leaf aj.normal (mag A::mag B::nil::int IntKind.u64 (↑c:Int)::c2,[])))):=by kernel_rfl
theorem afS {A B c i:Nat} {o:Nat→Nat}:aH T eo [27,38] 60 dO (before (part iE [1,0,0]) [1,1]) ⟨aB dO (wF A B c i),ny i o,8⟩=
  let c7:Int:=(↑(nl B):Int);let c3:AV:=own 7 1 0 i;let c2:Int:=(↑i:Int);let c1:Nat×ah:=((7:Nat),ah.mk true true 1 i fun a↦int IntKind.u32 (↑(o a):Int));let c8:Prop:=(0:Int)≤c2∧c2.toNat<nl B;let c6:Int:=IntKind.u64.wrap (↑(az B c2.toNat):Int);let c5:List AV:=[int IntKind.i64 c2];let c4:Int:=IntKind.u64.wrap ((↑c:Int)+IntKind.u64.wrap (↑(az A c2.toNat):Int));some (aa.fork (decide (c2<(↑(nl A):Int))) (aa.ag [(0:Int)≤c2∧c2.toNat<nl A] (aa.fork (decide (c2<c7)) (aa.ag [c8] (aa.leaf aj.normal (mag A::mag B::c3::int IntKind.u64 (IntKind.u64.wrap (c4+c6))::c5,[c1]))) (aa.leaf aj.normal (mag A::mag B::c3::int IntKind.u64 c4::c5,[c1])))) (aa.fork (decide (c2<c7)) (aa.ag [c8] (aa.leaf aj.normal (mag A::mag B::c3::int IntKind.u64 (IntKind.u64.wrap ((↑c:Int)+c6))::c5,[c1]))) (aa.leaf aj.normal (mag A::mag B::c3::int IntKind.u64 (↑c:Int)::c5,[c1])))):=by kernel_rfl
theorem Vc {A B c:Nat}:aH T eo [] 60 dO [part (part iE [1,0,0]) [1,1]] ⟨aB dO [.mag A,.mag B,.nil,.int .u64 c,.int .i64 0],[],8⟩=
  some (aa.ag [(1:Nat)*1≤2^24,(0:Nat)<1∧1*((4:Nat)+1)*2≤2^47] (aa.ag [(0:Int)≤(32:Int)] (aa.leaf aj.normal ([mag A,mag B,own 16392 1 0 1,int IntKind.u64 ((↑c:Int).fdiv ((2:Int)^min (Int.toNat (32:Int)) IntKind.u64.bits)),int IntKind.i64 (0:Int)],[((16392:Nat),ah.mk true true 1 1 fun i↦nth [int IntKind.u32 (IntKind.u32.wrap (↑c:Int))] (int IntKind.u32 (0:Int)) (i+0))])))):=by kernel_rfl
theorem afG {A B c i:Nat} {o:Nat→Nat}:aH T eo [] 60 dO [part (part iE [1,0,0]) [1,1]] ⟨aB dO (wF A B c i),ny i o,8⟩=
  some (aa.ag [(1:Nat)*1≤2^24,(i+1)*((4:Nat)+1)*2≤2^47] (aa.ag [(0:Int)≤(32:Int)] (aa.leaf aj.normal ([mag A,mag B,own 16392 1 0 (i+1),int IntKind.u64 ((↑c:Int).fdiv ((2:Int)^min (Int.toNat (32:Int)) IntKind.u64.bits)),int IntKind.i64 (↑i:Int)],[((16392:Nat),ah.mk true true 1 (i+1) fun i_1↦if i_1<i then ay o i_1 else nth [int IntKind.u32 (IntKind.u32.wrap (↑c:Int))] (int IntKind.u32 (0:Int)) (i_1-i+0))])))):=by kernel_rfl
theorem aiB {A B c i j:Nat} {o:Nat→Nat}:aH T eo [] 60 dO [part iE [1,1]] ⟨aB dO [.mag A,.mag B,.own 7 1 0 i,.int .u64 c,.int .i64 j],ny i o,8⟩=
  some (aa.leaf aj.normal ([mag A,mag B,own 7 1 0 i,int IntKind.u64 (↑c:Int),int IntKind.i64 (IntKind.i64.wrap ((↑j:Int)+(1:Int)))],[((7:Nat),ah.mk true true 1 i fun a↦int IntKind.u32 (↑(o a):Int))])):=by kernel_rfl
theorem aao {A B c:Nat}:cm T eo [] 60 gC (behind (au gC) [1,1,1,0,1]) ⟨aB dO [.mag A,.mag B,.nil,.int .u64 c,.int .i64 0],[],8⟩=
  some (aa.leaf aj.ret [nil]):=by kernel_rfl
theorem ae3 {A B c i:Nat} {o:Nat→Nat}:cm T eo [] 60 gC (behind (au gC) [1,1,1,0,1]) ⟨aB dO (wF A B c i),ny i o,8⟩=
  some (aa.leaf aj.ret [ak 1 i fun i↦int IntKind.u32 (↑(o (i+0)):Int)]):=by kernel_rfl
theorem iM {A i:Nat} (h:nl A≤i):az A i=0:=by
 unfold az
 rw[Nat.div_eq_of_lt (cT.1 h)]
def lZ (A B c:Nat):Nat→List AV
 |0=>[.mag A,.mag B,.nil,.int .u64 c,.int .i64 0]
 |i+1=>wF A B c (i+1)
def lV (o:Nat→Nat):Nat→aC
 |0=>[]
 |i+1=>ny (i+1) o
theorem o6 {A B c i:Nat}:iX 8 (lZ A B c i)=true:=by cases i<;>rfl
theorem oO {o:Nat→Nat} {i:Nat}:gv 8 (lV o i):=by
 cases i
 ·trivial
 ·exact⟨⟨by omega,fun _ _=>rfl⟩,trivial⟩
section fadd
variable {c0:Ctx} (h0:c0.k0=aW) {A B:Nat} {Q:aj→aF→Prop}
include h0 in
theorem akG {c i:Nat} {o:Nat→Nat} {s':aF} (hc:c≤1) (hv:aX dO s'=some (lZ A B c i,lV o i))
  (fin:∀s',aX dO s'=some (lZ A B (c+az A i+az B i) i,lV o i)→Q .normal s'):aD P c0 gC.ntmps (before (part iE [1,0,0]) [1,1]) s' Q:=by
 have la:=dg (N:=A) (i:=i)
 have lb:=dg (N:=B) (i:=i)
 have wa:IntKind.u64.wrap (az A i:Int)=((az A i:Nat):Int):=bL (by omega) (by omega)
 have wb:IntKind.u64.wrap (az B i:Int)=((az B i:Nat):Int):=bL (by omega) (by omega)
 have w1:IntKind.u64.wrap ((c:Int)+((az A i:Nat):Int))=((c+az A i:Nat):Int):=by rw[bL (by omega) (by omega)];omega
 have w2:IntKind.u64.wrap ((c:Int)+((az B i:Nat):Int))=((c+az B i:Nat):Int):=by rw[bL (by omega) (by omega)];omega
 have w3:IntKind.u64.wrap (((c+az A i:Nat):Int)+((az B i:Nat):Int))=((c+az A i+az B i:Nat):Int):=by rw[bL (by omega) (by omega)];omega
 cases i with
 |zero=>
  refine aD.eH hT eF hm 60 hv (jk h0) o6 oO dO aeP (by kernel_rfl) (by kernel_rfl) ?_
  simp only[aa.all,ax,decide_eq_true_eq,decide_eq_false_iff_not,Int.toNat_zero]
  rw[wa,wb,w1,w2,w3]
  refine⟨fun h1=>⟨by omega,fun h2=>⟨by omega,fun s' hv=>fin s' hv⟩,fun h2 s' hv=>fin s' (dw hv ?_ rfl)⟩,fun h1=>⟨fun h2=>⟨by omega,fun s' hv=>fin s' (dw hv ?_ rfl)⟩,fun h2 s' hv=>fin s' (dw hv ?_ rfl)⟩⟩
  ·rw[iM (A:=B) (by omega)];rfl
  ·rw[iM (A:=A) (by omega)];rfl
  ·rw[iM (A:=A) (by omega),iM (A:=B) (by omega)];rfl
 |succ i=>
  refine aD.eH hT eF hm 60 hv (jk h0) o6 oO dO afS (by kernel_rfl) (by kernel_rfl) ?_
  simp only[aa.all,ax,decide_eq_true_eq,decide_eq_false_iff_not,Int.toNat_natCast]
  rw[wa,wb,w1,w2,w3]
  refine⟨fun h1=>⟨by omega,fun h2=>⟨by omega,fun s' hv=>fin s' hv⟩,fun h2 s' hv=>fin s' (dw hv ?_ rfl)⟩,fun h1=>⟨fun h2=>⟨by omega,fun s' hv=>fin s' (dw hv ?_ rfl)⟩,fun h2 s' hv=>fin s' (dw hv ?_ rfl)⟩⟩
  ·rw[iM (A:=B) (by omega)];rfl
  ·rw[iM (A:=A) (by omega)];rfl
  ·rw[iM (A:=A) (by omega),iM (A:=B) (by omega)];rfl
include h0 in
theorem aj9 {c i:Nat} {o:Nat→Nat} {s':aF} (hi:i<2^41) (hv:aX dO s'=some (lZ A B c i,lV o i))
  (fin:∀s',(∃ρ,Le c0 ρ s' ⟨aB dO [.mag A,.mag B,.own 7 1 0 (i+1),.int .u64 (c/4294967296:Nat),.int .i64 i],ny (i+1) (bT o i (c%4294967296)),8⟩)→Q .normal s'):aq P c0 gC.ntmps (part (part iE [1,0,0]) [1,1]) s' Q:=by
 have hd:(c:Int).fdiv (2^min (Int.toNat 32) IntKind.u64.bits)=((c/4294967296:Nat):Int):=by rw[kW];omega
 cases i with
 |zero=>
  refine aq.eH hT eF hm 60 hv (jk h0) o6 oO dO Vc (by kernel_rfl) ?_
  rw[hd]
  simp only[aa.all,ax]
  refine⟨⟨by omega,by omega,by omega⟩,by omega,fun s' hv=>fin s' ?_⟩
  refine cW (vs:=[.mag A,.mag B,.own 7 1 0 1,.int .u64 (c/4294967296:Nat),.int .i64 0]) (ps:=ny 1 (bT o 0 (c%4294967296))) (nx:=8) [(7,16392)] hv h0 rfl ⟨⟨rfl,aI rfl⟩,⟨rfl,aI rfl⟩,⟨rfl,cy rfl rfl rfl⟩,⟨rfl,aI rfl⟩,⟨rfl,aI rfl⟩,trivial⟩
   ⟨⟨_,_,rfl,rfl,fe rfl fun j hj=>?_⟩,trivial⟩
  have:j=0:=by omega
  subst this
  simp[nth,ay,jM,jj]
 |succ i=>
  refine aq.eH hT eF hm 60 hv (jk h0) o6 oO dO afG (by kernel_rfl) ?_
  rw[hd]
  simp only[aa.all,ax]
  refine⟨⟨by omega,by omega⟩,by omega,fun s' hv=>fin s' ?_⟩
  refine cW (vs:=[.mag A,.mag B,.own 7 1 0 (i+1+1),.int .u64 (c/4294967296:Nat),.int .i64 ((i+1:Nat):Int)]) (ps:=ny (i+1+1) (bT o (i+1) (c%4294967296))) (nx:=8) [(7,16392)] hv h0 rfl ⟨⟨rfl,aI rfl⟩,⟨rfl,aI rfl⟩,⟨rfl,cy rfl rfl rfl⟩,⟨rfl,aI rfl⟩,⟨rfl,aI rfl⟩,trivial⟩
   ⟨⟨_,_,rfl,rfl,fe rfl fun j hj=>?_⟩,trivial⟩
  by_cases h:j<i+1
  ·rw[if_pos h];unfold ay;rw[ff (by omega)]
  ·have:j=i+1:=by omega
   subst this
   simp[nth,ay,jM,jj]
end fadd
theorem X8 {c i:Nat} {o:Nat→Nat} {c0:Ctx} {Q:aj→aF→Prop} {A B:Nat} (yes:∀s',(i<nl A∨i<nl B∨c≠0)→aX dO s'=some (lZ A B c i,lV o i)→Q .normal s')
  (no:∀s',nl A≤i→nl B≤i→c=0→aX dO s'=some (lZ A B c i,lV o i)→Q (.exit 0) s'):aq P c0 gC.ntmps (part iE [0]) ⟨aB dO (lZ A B c i),lV o i,8⟩ Q:=by
 cases i with
 |zero=>
  refine aq.bf hT eF hm 60 dO aaL (by kernel_rfl) ?_
  refine⟨fun h=>⟨fun _=>⟨⟨h,rfl⟩,fun _ s' hv=>yes s' (.inl (by have:=of_decide_eq_true h;omega)) hv,fun hf=>by simp at hf⟩,fun hf=>by simp at hf⟩,
   fun h=>⟨fun h2=>⟨⟨h,h2⟩,fun _ s' hv=>yes s' (.inr (.inl (by have:=of_decide_eq_true (gL h2);omega))) hv,fun hf=>by simp at hf⟩,
    fun h2=>⟨⟨h,h2⟩,fun h3 s' hv=>yes s' (.inr (.inr ?_)) hv,fun h3 s' hv=>no s' ?_ ?_ ?_ hv⟩⟩⟩
  ·have:=gL h3
   simp at this;exact this
  ·have:=of_decide_eq_false h;omega
  ·have:=of_decide_eq_false (gL h2);omega
  ·have:=gL h3
   simp at this;exact this
 |succ i=>
  refine aq.bf hT eF hm 60 dO ac6 (by kernel_rfl) ?_
  refine⟨fun h=>⟨fun _=>⟨⟨h,rfl⟩,fun _ s' hv=>yes s' (.inl (by have:=of_decide_eq_true h;omega)) hv,fun hf=>by simp at hf⟩,fun hf=>by simp at hf⟩,
   fun h=>⟨fun h2=>⟨⟨h,h2⟩,fun _ s' hv=>yes s' (.inr (.inl (by have:=of_decide_eq_true (gL h2);omega))) hv,fun hf=>by simp at hf⟩,
    fun h2=>⟨⟨h,h2⟩,fun h3 s' hv=>yes s' (.inr (.inr ?_)) hv,fun h3 s' hv=>no s' ?_ ?_ ?_ hv⟩⟩⟩
  ·have:=gL h3
   simp at this;exact this
  ·have:=of_decide_eq_false h;omega
  ·have:=of_decide_eq_false (gL h2);omega
  ·have:=gL h3
   simp at this;exact this
theorem afm {A B:Nat} (hA:nl A<2^40) (hB:nl B<2^40) (K:Nat):aA P Au K [.mag A,.mag B] [] (aK (.mag (A+B)) []):=by
 refine jq hT Wz rfl (of_decide_eq_true (by kernel_rfl)) rfl (fun _ c0 h0=>.down ?_) K []
 refine aq.hole [1,1,1,0,1] (by kernel_rfl) (aD.bf hT eF hm 60 dO abY (by kernel_rfl) fun s' hv=>bZ ?_)
 refine aq.ig (i:=0) (y:=iE) (by kernel_rfl) (fun p:Nat×Nat×(Nat→Nat)=>⟨aB dO (lZ A B p.2.1 p.1),lV p.2.2 p.1,8⟩)
  (fun p=>(p.1≤max (nl A) (nl B)∨(p.1=max (nl A) (nl B)+1∧p.2.1=0∧2^(32*max (nl A) (nl B))≤A+B))∧p.2.1≤1∧(∀j,j<p.1→p.2.2 j<2^32)∧val p.1 p.2.2+p.2.1*2^(32*p.1)=val p.1 (az A)+val p.1 (az B))
  (fun p=>max (nl A) (nl B)+1-p.1) (0,0,fun _=>0) (mz hv (jk h0) o6 oO) ⟨by simp,by simp,fun j hj=>by simp only at hj;omega,by simp[val]⟩ ?_
 rintro⟨i,c,o⟩ ⟨hi,hc,ho,hval⟩
 simp only at hi hc ho hval
 have hAv:max (nl A) (nl B)≤i→val i (az A)+val i (az B)=A+B:=fun h=>by
  rw[o8 (cT.1 (by omega)),o8 (cT.1 (by omega))]
 -- a round
 have body:∀{s':aF},(i<nl A∨i<nl B∨c≠0)→aX dO s'=some (lZ A B c i,lV o i)→∀{QF:aj→aF→Prop},
   aq P c0 gC.ntmps (part iE [1]) s' (dA (fun s'=>∃k:Nat×Nat×(Nat→Nat),(∃ρ,Le c0 ρ s' ⟨aB dO (lZ A B k.2.1 k.1),lV k.2.2 k.1,8⟩)∧
    ((k.1≤max (nl A) (nl B)∨(k.1=max (nl A) (nl B)+1∧k.2.1=0∧2^(32*max (nl A) (nl B))≤A+B))∧k.2.1≤1∧(∀j,j<k.1→k.2.2 j<2^32)∧val k.1 k.2.2+k.2.1*2^(32*k.1)=val k.1 (az A)+val k.1 (az B))∧
    max (nl A) (nl B)+1-k.1<max (nl A) (nl B)+1-i) QF):=by
  intro s' hcont hv QF
  have hi':i≤max (nl A) (nl B):=by omega
  have la:=dg (N:=A) (i:=i)
  have lb:=dg (N:=B) (i:=i)
  refine aq.hole [0] (by kernel_rfl) ?_
  show aq P c0 gC.ntmps (part iE [1,0]) s' _
  refine aq.oL (i:=1) (y:=part iE [1,0,0]) (by kernel_rfl) ?_
  refine aq.hole [1,1] (by kernel_rfl) (akG h0 hc hv fun s' hv=>bZ (aj9 h0 (by omega) hv fun s' hle=>bZ ?_))
  show aD P c0 gC.ntmps [part iE [1,1]] s' _
  refine aD.weak rfl hle (aD.bf hT eF hm 60 dO aiB (by kernel_rfl) fun s' hv=>bZ ?_)
  have hs:=Fp (B:=2^(32*i)) (c:=c) (z:=az A i) (y:=az B i) rfl hval
  refine⟨(i+1,(c+az A i+az B i)/4294967296,bT o i ((c+az A i+az B i)%4294967296)),mz (dw hv ?_ rfl) (jk h0) o6 oO,⟨?_,by simp only;omega,fun j hj=>?_,?_⟩,by simp only;omega⟩
  ·rw[ec (a:=(i:Int)+1) (n:=i+1) (by omega) (by omega)];rfl
  ·simp only
   by_cases h:i<max (nl A) (nl B)
   ·exact .inl (by omega)
   ·have e:i=max (nl A) (nl B):=by omega
    have lA:=iM (A:=A) (i:=i) (by omega)
    have lB:=iM (A:=B) (i:=i) (by omega)
    refine .inr ⟨by omega,by rw[lA,lB];omega,?_⟩
    rw[hAv (by omega)]at hval
    have hc1:c=1:=by omega
    rw[hc1,Nat.one_mul,e]at hval
    omega
  ·simp only at hj ⊢
   unfold bT
   split
   ·omega
   ·exact ho j (by omega)
  ·simp only
   rw[q9,val,val,gG]
   omega
 -- the end
 have fin:∀{s':aF},nl A≤i→nl B≤i→c=0→aX dO s'=some (lZ A B c i,lV o i)→aD P c0 gC.ntmps (behind (au gC) [1,1,1,0,1]) s' (dQ c0 (Fin T gC (.mag (A+B)))):=by
  intro s' h1 h2 h3 hv
  have hsum:val i o=A+B:=by rw[hAv (by omega),h3]at hval;omega
  cases i with
  |zero=>
   have:A+B=0:=by rw[←hsum];rfl
   refine aD.jx hT eF hm 60 hv (jk h0) o6 oO aao (by kernel_rfl) (by kernel_rfl) ?_
   rw[this]
   exact jV
  |succ i=>
   refine aD.jx hT eF hm 60 hv (jk h0) o6 oO ae3 (by kernel_rfl) (by kernel_rfl) ?_
   refine kz ?_ fun j hj=>?_
   ·have l1:nl (A+B)≤i+1:=cT.2 (by rw[←hsum];exact fy ho)
    have l2:¬nl (A+B)≤i:=by
     intro h
     rcases hi with hi|⟨hi,_,hi2⟩
     ·have:=gE (show A≤A+B by omega)
      have:=gE (show B≤A+B by omega)
      omega
     ·rw[cT]at h
      rw[show max (nl A) (nl B)=i by omega]at hi2
      omega
    omega
   ·rw[←hsum,o9 ho hj];rfl
 refine aq.hole [0] (by kernel_rfl) (show aq P c0 gC.ntmps (part iE [0]) _ _ from X8 (fun s' h hv=>bZ ?_) fun s' h1 h2 h3 hv=>qm (eL (bZ (fin h1 h2 h3 hv))))
 show aD P c0 gC.ntmps [part iE [1]] s' _
 exact body h hv
def Kp:Spec:=mu (fun A B=>.mag (A+B)) Iu
theorem air:∀K args pre r,Kp K args pre=some r→aA P Au K args pre r:=pE fun h=>afm h.1 h.2
end Go.Am.B
