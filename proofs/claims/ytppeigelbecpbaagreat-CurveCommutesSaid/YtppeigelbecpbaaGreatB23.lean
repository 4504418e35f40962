/- ref01: Add, minus, Sub, Mul, byLimb. -/
import Derived.Test.YtppeigelbecpbaaGreatB22
set_option linter.unusedVariables false
namespace Go.Am.B
open Go Go.Am.N AV
theorem Zu:aO P wT gF (au gF):=aQ acK (by kernel_rfl) (by kernel_rfl) (by kernel_rfl)
abbrev dQ:List Nat:=[0,1,5,6,7]
abbrev A3 (A B c i:Nat):List AV:=[.mag A,.mag B,.own 7 1 0 i,.int .u64 c,.int .i64 i]
abbrev og (i:Nat) (o:Nat→Nat):aC:=[(7,⟨true,true,1,i,ay o⟩)]
noncomputable abbrev iu:Code:=part (au gF) [1,1,1,0,1,0,0]
theorem Tg {A B:Nat}:aH T eu [] 60 dQ (before (au gF) [1,1,1,0,1]) ⟨aN 0 [.mag A,.mag B],[],0⟩=
  some (aa.leaf aj.normal ([mag A,mag B,nil,int IntKind.u64 (0:Int),int IntKind.i64 (0:Int)],[])):=by kernel_rfl
theorem Tm {A B c:Nat}:aH T eu [12,18,21] 60 dQ [part iu [0]] ⟨aA dQ [.mag A,.mag B,.nil,.int .u64 c,.int .i64 0],[],8⟩=
  let c3:Bool:=bif false then true else decide ((0:Int)<(↑(nl B):Int));let c2:Bool:=decide ((0:Int)<(↑(nl A):Int));let c1:List AV×aC:=([mag A,mag B,nil,int IntKind.u64 (↑c:Int),int IntKind.i64 (0:Int)],[]);let c5:aa (List AV×aC):=aa.fork true (aa.leaf aj.normal c1) (aa.leaf (aj.exit 0) c1);let c4:aa (List AV×aC):=aa.fork (bif false then true else(↑c:Int)!=(0:Int)) (aa.leaf aj.normal c1) (aa.leaf (aj.exit 0) c1);some (aa.fork c2 (aa.fork true (aa.ag [c2=true,true=true] c5) (aa.ag [c2=true,true=false] c4)) (aa.fork c3 (aa.ag [c2=false,c3=true] c5) (aa.ag [c2=false,c3=false] c4))):=by kernel_rfl
theorem Th {A B c i:Nat} {o:Nat→Nat}:aH T eu [12,18,21] 60 dQ [part iu [0]] ⟨aA dQ (A3 A B c i),og i o,8⟩=
  let c6:Int:=(↑i:Int);let c3:Bool:=bif false then true else decide (c6<(↑(nl B):Int));let c2:Bool:=decide (c6<(↑(nl A):Int));let c1:List AV×aC:=([mag A,mag B,own 7 1 0 i,int IntKind.u64 (↑c:Int),int IntKind.i64 c6],[((7:Nat),ah.mk true true 1 i fun a↦int IntKind.u32 (↑(o a):Int))]);let c5:aa (List AV×aC):=aa.fork true (aa.leaf aj.normal c1) (aa.leaf (aj.exit 0) c1);let c4:aa (List AV×aC):=aa.fork (bif false then true else(↑c:Int)!=(0:Int)) (aa.leaf aj.normal c1) (aa.leaf (aj.exit 0) c1);some (aa.fork c2 (aa.fork true (aa.ag [c2=true,true=true] c5) (aa.ag [c2=true,true=false] c4)) (aa.fork c3 (aa.ag [c2=false,c3=true] c5) (aa.ag [c2=false,c3=false] c4))):=by kernel_rfl
theorem SK {A B c:Nat}:aH T eu [27,38] 60 dQ (before (part iu [1,0,0]) [1,1]) ⟨aA dQ [.mag A,.mag B,.nil,.int .u64 c,.int .i64 0],[],8⟩=
  let c5:Prop:=(0:Int)≤(0:Int);let c4:Int:=(↑(nl B):Int);let c2:List AV:=[int IntKind.i64 (0:Int)];let c1:Nat:=Int.toNat (0:Int);let c6:Int:=IntKind.u64.wrap (↑(az B c1):Int);let c3:Int:=IntKind.u64.wrap ((↑c:Int)+IntKind.u64.wrap (↑(az A c1):Int));some (aa.fork (decide ((0:Int)<(↑(nl A):Int))) (aa.ag [c5∧c1<nl A] (aa.fork (decide ((0:Int)<c4)) (aa.ag [c5∧c1<nl B] (aa.leaf aj.normal (mag A::mag B::nil::int IntKind.u64 (IntKind.u64.wrap (c3+c6))::c2,[]))) (aa.leaf aj.normal (mag A::mag B::nil::int IntKind.u64 c3::c2,[])))) (aa.fork (decide ((0:Int)<c4)) (aa.ag [c5∧c1<nl B] (aa.leaf aj.normal (mag A::mag B::nil::int IntKind.u64 (IntKind.u64.wrap ((↑c:Int)+c6))::c2,[]))) (aa.leaf aj.normal (mag A::mag B::nil::int IntKind.u64 (↑c:Int)::c2,[])))):=by kernel_rfl
theorem ahp {A B c i:Nat} {o:Nat→Nat}:aH T eu [27,38] 60 dQ (before (part iu [1,0,0]) [1,1]) ⟨aA dQ (A3 A B c i),og i o,8⟩=
  let c7:Int:=(↑(nl B):Int);let c3:AV:=own 7 1 0 i;let c2:Int:=(↑i:Int);let c1:Nat×ah:=((7:Nat),ah.mk true true 1 i fun a↦int IntKind.u32 (↑(o a):Int));let c8:Prop:=(0:Int)≤c2∧c2.toNat<nl B;let c6:Int:=IntKind.u64.wrap (↑(az B c2.toNat):Int);let c5:List AV:=[int IntKind.i64 c2];let c4:Int:=IntKind.u64.wrap ((↑c:Int)+IntKind.u64.wrap (↑(az A c2.toNat):Int));some (aa.fork (decide (c2<(↑(nl A):Int))) (aa.ag [(0:Int)≤c2∧c2.toNat<nl A] (aa.fork (decide (c2<c7)) (aa.ag [c8] (aa.leaf aj.normal (mag A::mag B::c3::int IntKind.u64 (IntKind.u64.wrap (c4+c6))::c5,[c1]))) (aa.leaf aj.normal (mag A::mag B::c3::int IntKind.u64 c4::c5,[c1])))) (aa.fork (decide (c2<c7)) (aa.ag [c8] (aa.leaf aj.normal (mag A::mag B::c3::int IntKind.u64 (IntKind.u64.wrap ((↑c:Int)+c6))::c5,[c1]))) (aa.leaf aj.normal (mag A::mag B::c3::int IntKind.u64 (↑c:Int)::c5,[c1])))):=by kernel_rfl
theorem Y2 {A B c:Nat}:aH T eu [] 60 dQ [part (part iu [1,0,0]) [1,1]] ⟨aA dQ [.mag A,.mag B,.nil,.int .u64 c,.int .i64 0],[],8⟩=
  some (aa.ag [(1:Nat)*1≤2^24,(0:Nat)<1∧1*((4:Nat)+1)*2≤2^47] (aa.ag [(0:Int)≤(32:Int)] (aa.leaf aj.normal ([mag A,mag B,own 16392 1 0 1,int IntKind.u64 ((↑c:Int).fdiv ((2:Int)^min (Int.toNat (32:Int)) IntKind.u64.bits)),int IntKind.i64 (0:Int)],[((16392:Nat),ah.mk true true 1 1 fun i↦nth [int IntKind.u32 (IntKind.u32.wrap (↑c:Int))] (int IntKind.u32 (0:Int)) (i+0))])))):=by kernel_rfl
theorem adq {A B c i:Nat} {o:Nat→Nat}:aH T eu [] 60 dQ [part (part iu [1,0,0]) [1,1]] ⟨aA dQ (A3 A B c i),og i o,8⟩=
  some (aa.ag [(1:Nat)*1≤2^24,(i+1)*((4:Nat)+1)*2≤2^47] (aa.ag [(0:Int)≤(32:Int)] (aa.leaf aj.normal ([mag A,mag B,own 16392 1 0 (i+1),int IntKind.u64 ((↑c:Int).fdiv ((2:Int)^min (Int.toNat (32:Int)) IntKind.u64.bits)),int IntKind.i64 (↑i:Int)],[((16392:Nat),ah.mk true true 1 (i+1) fun i_1↦if i_1<i then ay o i_1 else nth [int IntKind.u32 (IntKind.u32.wrap (↑c:Int))] (int IntKind.u32 (0:Int)) (i_1-i+0))])))):=by kernel_rfl
theorem aja {A B c i j:Nat} {o:Nat→Nat}:aH T eu [] 60 dQ [part iu [1,1]] ⟨aA dQ [.mag A,.mag B,.own 7 1 0 i,.int .u64 c,.int .i64 j],og i o,8⟩=
  some (aa.leaf aj.normal ([mag A,mag B,own 7 1 0 i,int IntKind.u64 (↑c:Int),int IntKind.i64 (IntKind.i64.wrap ((↑j:Int)+(1:Int)))],[((7:Nat),ah.mk true true 1 i fun a↦int IntKind.u32 (↑(o a):Int))])):=by kernel_rfl
theorem aix {A B c:Nat}:cm T eu [] 60 gF (behind (au gF) [1,1,1,0,1]) ⟨aA dQ [.mag A,.mag B,.nil,.int .u64 c,.int .i64 0],[],8⟩=
  some (aa.leaf aj.ret [nil]):=by kernel_rfl
theorem UR {A B c i:Nat} {o:Nat→Nat}:cm T eu [] 60 gF (behind (au gF) [1,1,1,0,1]) ⟨aA dQ (A3 A B c i),og i o,8⟩=
  some (aa.leaf aj.ret [ak 1 i fun i↦int IntKind.u32 (↑(o (i+0)):Int)]):=by kernel_rfl
theorem iV {A i:Nat} (h:nl A≤i):az A i=0:=by
 unfold az
 rw[Nat.div_eq_of_lt (cT.1 h)]
def lX (A B c:Nat):Nat→List AV
 |0=>[.mag A,.mag B,.nil,.int .u64 c,.int .i64 0]
 |i+1=>A3 A B c (i+1)
def lS (o:Nat→Nat):Nat→aC
 |0=>[]
 |i+1=>og (i+1) o
theorem pU {A B c i:Nat}:jg 8 (lX A B c i)=true:=by cases i<;>rfl
theorem oq {o:Nat→Nat} {i:Nat}:gn 8 (lS o i):=by
 cases i
 ·trivial
 ·exact⟨⟨by omega,fun _ _=>rfl⟩,trivial⟩
section fadd
variable {c0:Ctx} (h0:c0.k0=aW) {A B:Nat} {Q:aj→aF→Prop}
include h0 in
theorem SX {c i:Nat} {o:Nat→Nat} {s':aF} (hc:c≤1) (hv:aX dQ s'=some (lX A B c i,lS o i))
  (fin:∀s',aX dQ s'=some (lX A B (c+az A i+az B i) i,lS o i)→Q .normal s'):aD P c0 gF.ntmps (before (part iu [1,0,0]) [1,1]) s' Q:=by
 have la:=de (N:=A) (i:=i)
 have lb:=de (N:=B) (i:=i)
 have wa:IntKind.u64.wrap (az A i:Int)=((az A i:Nat):Int):=bN (by omega) (by omega)
 have wb:IntKind.u64.wrap (az B i:Int)=((az B i:Nat):Int):=bN (by omega) (by omega)
 have w1:IntKind.u64.wrap ((c:Int)+((az A i:Nat):Int))=((c+az A i:Nat):Int):=by rw[bN (by omega) (by omega)];omega
 have w2:IntKind.u64.wrap ((c:Int)+((az B i:Nat):Int))=((c+az B i:Nat):Int):=by rw[bN (by omega) (by omega)];omega
 have w3:IntKind.u64.wrap (((c+az A i:Nat):Int)+((az B i:Nat):Int))=((c+az A i+az B i:Nat):Int):=by rw[bN (by omega) (by omega)];omega
 cases i with
 |zero=>
  refine aD.eH hT eA hm 60 hv (jl h0) pU oq dQ SK (by kernel_rfl) (by kernel_rfl) ?_
  simp only[aa.all,ax,decide_eq_true_eq,decide_eq_false_iff_not,Int.toNat_zero]
  rw[wa,wb,w1,w2,w3]
  refine⟨fun h1=>⟨by omega,fun h2=>⟨by omega,fun s' hv=>fin s' hv⟩,fun h2 s' hv=>fin s' (dm hv ?_ rfl)⟩,fun h1=>⟨fun h2=>⟨by omega,fun s' hv=>fin s' (dm hv ?_ rfl)⟩,fun h2 s' hv=>fin s' (dm hv ?_ rfl)⟩⟩
  ·rw[iV (A:=B) (by omega)];rfl
  ·rw[iV (A:=A) (by omega)];rfl
  ·rw[iV (A:=A) (by omega),iV (A:=B) (by omega)];rfl
 |succ i=>
  refine aD.eH hT eA hm 60 hv (jl h0) pU oq dQ ahp (by kernel_rfl) (by kernel_rfl) ?_
  simp only[aa.all,ax,decide_eq_true_eq,decide_eq_false_iff_not,Int.toNat_natCast]
  rw[wa,wb,w1,w2,w3]
  refine⟨fun h1=>⟨by omega,fun h2=>⟨by omega,fun s' hv=>fin s' hv⟩,fun h2 s' hv=>fin s' (dm hv ?_ rfl)⟩,fun h1=>⟨fun h2=>⟨by omega,fun s' hv=>fin s' (dm hv ?_ rfl)⟩,fun h2 s' hv=>fin s' (dm hv ?_ rfl)⟩⟩
  ·rw[iV (A:=B) (by omega)];rfl
  ·rw[iV (A:=A) (by omega)];rfl
  ·rw[iV (A:=A) (by omega),iV (A:=B) (by omega)];rfl
include h0 in
theorem ah2 {c i:Nat} {o:Nat→Nat} {s':aF} (hi:i<2^41) (hv:aX dQ s'=some (lX A B c i,lS o i))
  (fin:∀s',(∃ρ,Le c0 ρ s' ⟨aA dQ [.mag A,.mag B,.own 7 1 0 (i+1),.int .u64 (c/4294967296:Nat),.int .i64 i],og (i+1) (bU o i (c%4294967296)),8⟩)→Q .normal s'):aq P c0 gF.ntmps (part (part iu [1,0,0]) [1,1]) s' Q:=by
 have hd:(c:Int).fdiv (2^min (Int.toNat 32) IntKind.u64.bits)=((c/4294967296:Nat):Int):=by rw[kB];omega
 cases i with
 |zero=>
  refine aq.eH hT eA hm 60 hv (jl h0) pU oq dQ Y2 (by kernel_rfl) ?_
  rw[hd]
  simp only[aa.all,ax]
  refine⟨⟨by omega,by omega,by omega⟩,by omega,fun s' hv=>fin s' ?_⟩
  refine cX (vs:=[.mag A,.mag B,.own 7 1 0 1,.int .u64 (c/4294967296:Nat),.int .i64 0]) (ps:=og 1 (bU o 0 (c%4294967296))) (nx:=8) [(7,16392)] hv h0 rfl ⟨⟨rfl,aI rfl⟩,⟨rfl,aI rfl⟩,⟨rfl,cw rfl rfl rfl⟩,⟨rfl,aI rfl⟩,⟨rfl,aI rfl⟩,trivial⟩
   ⟨⟨_,_,rfl,rfl,e9 rfl fun j hj=>?_⟩,trivial⟩
  have:j=0:=by omega
  subst this
  simp[nth,ay,jM,jr]
 |succ i=>
  refine aq.eH hT eA hm 60 hv (jl h0) pU oq dQ adq (by kernel_rfl) ?_
  rw[hd]
  simp only[aa.all,ax]
  refine⟨⟨by omega,by omega⟩,by omega,fun s' hv=>fin s' ?_⟩
  refine cX (vs:=[.mag A,.mag B,.own 7 1 0 (i+1+1),.int .u64 (c/4294967296:Nat),.int .i64 ((i+1:Nat):Int)]) (ps:=og (i+1+1) (bU o (i+1) (c%4294967296))) (nx:=8) [(7,16392)] hv h0 rfl ⟨⟨rfl,aI rfl⟩,⟨rfl,aI rfl⟩,⟨rfl,cw rfl rfl rfl⟩,⟨rfl,aI rfl⟩,⟨rfl,aI rfl⟩,trivial⟩
   ⟨⟨_,_,rfl,rfl,e9 rfl fun j hj=>?_⟩,trivial⟩
  by_cases h:j<i+1
  ·rw[if_pos h];unfold ay;rw[fm (by omega)]
  ·have:j=i+1:=by omega
   subst this
   simp[nth,ay,jM,jr]
end fadd
theorem Xq {c i:Nat} {o:Nat→Nat} {c0:Ctx} {Q:aj→aF→Prop} {A B:Nat} (yes:∀s',(i<nl A∨i<nl B∨c≠0)→aX dQ s'=some (lX A B c i,lS o i)→Q .normal s')
  (no:∀s',nl A≤i→nl B≤i→c=0→aX dQ s'=some (lX A B c i,lS o i)→Q (.exit 0) s'):aq P c0 gF.ntmps (part iu [0]) ⟨aA dQ (lX A B c i),lS o i,8⟩ Q:=by
 cases i with
 |zero=>
  refine aq.bf hT eA hm 60 dQ Tm (by kernel_rfl) ?_
  refine⟨fun h=>⟨fun _=>⟨⟨h,rfl⟩,fun _ s' hv=>yes s' (.inl (by have:=of_decide_eq_true h;omega)) hv,fun hf=>by simp at hf⟩,fun hf=>by simp at hf⟩,
   fun h=>⟨fun h2=>⟨⟨h,h2⟩,fun _ s' hv=>yes s' (.inr (.inl (by have:=of_decide_eq_true (gL h2);omega))) hv,fun hf=>by simp at hf⟩,
    fun h2=>⟨⟨h,h2⟩,fun h3 s' hv=>yes s' (.inr (.inr ?_)) hv,fun h3 s' hv=>no s' ?_ ?_ ?_ hv⟩⟩⟩
  ·have:=gL h3
   simp at this;exact this
  ·have:=of_decide_eq_false h;omega
  ·have:=of_decide_eq_false (gL h2);omega
  ·have:=gL h3
   simp at this;exact this
 |succ i=>
  refine aq.bf hT eA hm 60 dQ Th (by kernel_rfl) ?_
  refine⟨fun h=>⟨fun _=>⟨⟨h,rfl⟩,fun _ s' hv=>yes s' (.inl (by have:=of_decide_eq_true h;omega)) hv,fun hf=>by simp at hf⟩,fun hf=>by simp at hf⟩,
   fun h=>⟨fun h2=>⟨⟨h,h2⟩,fun _ s' hv=>yes s' (.inr (.inl (by have:=of_decide_eq_true (gL h2);omega))) hv,fun hf=>by simp at hf⟩,
    fun h2=>⟨⟨h,h2⟩,fun h3 s' hv=>yes s' (.inr (.inr ?_)) hv,fun h3 s' hv=>no s' ?_ ?_ ?_ hv⟩⟩⟩
  ·have:=gL h3
   simp at this;exact this
  ·have:=of_decide_eq_false h;omega
  ·have:=of_decide_eq_false (gL h2);omega
  ·have:=gL h3
   simp at this;exact this
theorem V9 {A B:Nat} (hA:nl A<2^40) (hB:nl B<2^40) (K:Nat):aB P wT K [.mag A,.mag B] [] (aK (.mag (A+B)) []):=by
 refine jk hT Zu rfl (of_decide_eq_true (by kernel_rfl)) rfl (fun _ c0 h0=>.down ?_) K []
 refine aq.hole [1,1,1,0,1] (by kernel_rfl) (aD.bf hT eA hm 60 dQ Tg (by kernel_rfl) fun s' hv=>bY ?_)
 refine aq.g8 (i:=0) (y:=iu) (by kernel_rfl) (fun p:Nat×Nat×(Nat→Nat)=>⟨aA dQ (lX A B p.2.1 p.1),lS p.2.2 p.1,8⟩)
  (fun p=>(p.1≤max (nl A) (nl B)∨(p.1=max (nl A) (nl B)+1∧p.2.1=0∧2^(32*max (nl A) (nl B))≤A+B))∧p.2.1≤1∧(∀j,j<p.1→p.2.2 j<2^32)∧val p.1 p.2.2+p.2.1*2^(32*p.1)=val p.1 (az A)+val p.1 (az B))
  (fun p=>max (nl A) (nl B)+1-p.1) (0,0,fun _=>0) (mM hv (jl h0) pU oq) ⟨by simp,by simp,fun j hj=>by simp only at hj;omega,by simp[val]⟩ ?_
 rintro⟨i,c,o⟩ ⟨hi,hc,ho,hval⟩
 simp only at hi hc ho hval
 have hAv:max (nl A) (nl B)≤i→val i (az A)+val i (az B)=A+B:=fun h=>by
  rw[oQ (cT.1 (by omega)),oQ (cT.1 (by omega))]
 -- a round
 have body:∀{s':aF},(i<nl A∨i<nl B∨c≠0)→aX dQ s'=some (lX A B c i,lS o i)→∀{QF:aj→aF→Prop},
   aq P c0 gF.ntmps (part iu [1]) s' (dz (fun s'=>∃k:Nat×Nat×(Nat→Nat),(∃ρ,Le c0 ρ s' ⟨aA dQ (lX A B k.2.1 k.1),lS k.2.2 k.1,8⟩)∧
    ((k.1≤max (nl A) (nl B)∨(k.1=max (nl A) (nl B)+1∧k.2.1=0∧2^(32*max (nl A) (nl B))≤A+B))∧k.2.1≤1∧(∀j,j<k.1→k.2.2 j<2^32)∧val k.1 k.2.2+k.2.1*2^(32*k.1)=val k.1 (az A)+val k.1 (az B))∧
    max (nl A) (nl B)+1-k.1<max (nl A) (nl B)+1-i) QF):=by
  intro s' hcont hv QF
  have hi':i≤max (nl A) (nl B):=by omega
  have la:=de (N:=A) (i:=i)
  have lb:=de (N:=B) (i:=i)
  refine aq.hole [0] (by kernel_rfl) ?_
  show aq P c0 gF.ntmps (part iu [1,0]) s' _
  refine aq.ov (i:=1) (y:=part iu [1,0,0]) (by kernel_rfl) ?_
  refine aq.hole [1,1] (by kernel_rfl) (SX h0 hc hv fun s' hv=>bY (ah2 h0 (by omega) hv fun s' hle=>bY ?_))
  show aD P c0 gF.ntmps [part iu [1,1]] s' _
  refine aD.weak rfl hle (aD.bf hT eA hm 60 dQ aja (by kernel_rfl) fun s' hv=>bY ?_)
  have hs:=Et (B:=2^(32*i)) (c:=c) (z:=az A i) (y:=az B i) rfl hval
  refine⟨(i+1,(c+az A i+az B i)/4294967296,bU o i ((c+az A i+az B i)%4294967296)),mM (dm hv ?_ rfl) (jl h0) pU oq,⟨?_,by simp only;omega,fun j hj=>?_,?_⟩,by simp only;omega⟩
  ·rw[ef (a:=(i:Int)+1) (n:=i+1) (by omega) (by omega)];rfl
  ·simp only
   by_cases h:i<max (nl A) (nl B)
   ·exact .inl (by omega)
   ·have e:i=max (nl A) (nl B):=by omega
    have lA:=iV (A:=A) (i:=i) (by omega)
    have lB:=iV (A:=B) (i:=i) (by omega)
    refine .inr ⟨by omega,by rw[lA,lB];omega,?_⟩
    rw[hAv (by omega)]at hval
    have hc1:c=1:=by omega
    rw[hc1,Nat.one_mul,e]at hval
    omega
  ·simp only at hj ⊢
   unfold bU
   split
   ·omega
   ·exact ho j (by omega)
  ·simp only
   rw[qO,val,val,gz]
   omega
 -- the end
 have fin:∀{s':aF},nl A≤i→nl B≤i→c=0→aX dQ s'=some (lX A B c i,lS o i)→aD P c0 gF.ntmps (behind (au gF) [1,1,1,0,1]) s' (dO c0 (Fin T gF (.mag (A+B)))):=by
  intro s' h1 h2 h3 hv
  have hsum:val i o=A+B:=by rw[hAv (by omega),h3]at hval;omega
  cases i with
  |zero=>
   have:A+B=0:=by rw[←hsum];rfl
   refine aD.jz hT eA hm 60 hv (jl h0) pU oq aix (by kernel_rfl) (by kernel_rfl) ?_
   rw[this]
   exact jV
  |succ i=>
   refine aD.jz hT eA hm 60 hv (jl h0) pU oq UR (by kernel_rfl) (by kernel_rfl) ?_
   refine kG ?_ fun j hj=>?_
   ·have l1:nl (A+B)≤i+1:=cT.2 (by rw[←hsum];exact fq ho)
    have l2:¬nl (A+B)≤i:=by
     intro h
     rcases hi with hi|⟨hi,_,hi2⟩
     ·have:=gB (show A≤A+B by omega)
      have:=gB (show B≤A+B by omega)
      omega
     ·rw[cT]at h
      rw[show max (nl A) (nl B)=i by omega]at hi2
      omega
    omega
   ·rw[←hsum,pn ho hj];rfl
 refine aq.hole [0] (by kernel_rfl) (show aq P c0 gF.ntmps (part iu [0]) _ _ from Xq (fun s' h hv=>bY ?_) fun s' h1 h2 h3 hv=>rq (eV (bY (fin h1 h2 h3 hv))))
 show aD P c0 gF.ntmps [part iu [1]] s' _
 exact body h hv
def KS:Spec:=mL (fun A B=>.mag (A+B)) FE
theorem Sm:∀K args pre r,KS K args pre=some r→aB P wT K args pre r:=oO fun h=>V9 h.1 h.2
end Go.Am.B
