/- ref01: Add, minus, Sub, Mul, byLimb. -/
import Derived.Test.YtnniljlepppdpaaGreatB22
set_option linter.unusedVariables false
namespace Go.Am.B
open Go Go.Am.N AV
theorem ahM:aR P A9 iM (az iM):=aS Proofs.Tryz.func114 ag ag ag
abbrev eJ:List Nat:=[0,1,5,6,7]
abbrev xx (A B c i:Nat):List AV:=[.mag A,.mag B,.own 7 1 0 i,.int .u64 c,.int .i64 i]
abbrev pJ (i:Nat) (o:Nat->Nat):aF:=[(7,⟨true,true,1,i,aB o⟩)]
noncomputable abbrev jq:Code:=part (az iM) [1,1,1,0,1,0,0]
theorem Yq {A B:Nat}:aI T fh [] 60 eJ (before (az iM) [1,1,1,0,1]) ⟨aP 0 [.mag A,.mag B],[],0⟩=
  some (ah.leaf aq.normal ([mag A,mag B,nil,int IntKind.u64 (0:Int),int IntKind.i64 (0:Int)],[])):=ag
theorem agO {A B c:Nat}:aI T fh [12,18,21] 60 eJ [part jq [0]] ⟨aE eJ [.mag A,.mag B,.nil,.int .u64 c,.int .i64 0],[],8⟩=
  let c3:Bool:=bif false then true else decide ((0:Int)<(↑(nl B):Int));let c2:Bool:=decide ((0:Int)<(↑(nl A):Int));let c1:List AV×aF:=([mag A,mag B,nil,int IntKind.u64 (↑c:Int),int IntKind.i64 (0:Int)],[]);let c5:ah (List AV×aF):=ah.fork true (ah.leaf aq.normal c1) (ah.leaf (aq.exit 0) c1);let c4:ah (List AV×aF):=ah.fork (bif false then true else(↑c:Int)!=(0:Int)) (ah.leaf aq.normal c1) (ah.leaf (aq.exit 0) c1);some (ah.fork c2 (ah.fork true (ah.aj [c2=true,true=true] c5) (ah.aj [c2=true,true=false] c4)) (ah.fork c3 (ah.aj [c2=false,c3=true] c5) (ah.aj [c2=false,c3=false] c4))):=ag
theorem aa6 {A B c i:Nat} {o:Nat->Nat}:aI T fh [12,18,21] 60 eJ [part jq [0]] ⟨aE eJ (xx A B c i),pJ i o,8⟩=
  let c6:Int:=(↑i:Int);let c3:Bool:=bif false then true else decide (c6<(↑(nl B):Int));let c2:Bool:=decide (c6<(↑(nl A):Int));let c1:List AV×aF:=([mag A,mag B,own 7 1 0 i,int IntKind.u64 (↑c:Int),int IntKind.i64 c6],[(7,au.mk true true 1 i fun a=>int IntKind.u32 (↑(o a):Int))]);let c5:ah (List AV×aF):=ah.fork true (ah.leaf aq.normal c1) (ah.leaf (aq.exit 0) c1);let c4:ah (List AV×aF):=ah.fork (bif false then true else(↑c:Int)!=(0:Int)) (ah.leaf aq.normal c1) (ah.leaf (aq.exit 0) c1);some (ah.fork c2 (ah.fork true (ah.aj [c2=true,true=true] c5) (ah.aj [c2=true,true=false] c4)) (ah.fork c3 (ah.aj [c2=false,c3=true] c5) (ah.aj [c2=false,c3=false] c4))):=ag
theorem akl {A B c:Nat}:aI T fh [27,38] 60 eJ (before (part jq [1,0,0]) [1,1]) ⟨aE eJ [.mag A,.mag B,.nil,.int .u64 c,.int .i64 0],[],8⟩=
  let c5:Prop:=(0:Int)<=(0:Int);let c4:Int:=(↑(nl B):Int);let c2:List AV:=[int IntKind.i64 (0:Int)];let c1:Nat:=Int.toNat (0:Int);let c6:Int:=IntKind.u64.wrap (↑(aC B c1):Int);let c3:Int:=IntKind.u64.wrap ((↑c:Int)+IntKind.u64.wrap (↑(aC A c1):Int));some (ah.fork (decide ((0:Int)<(↑(nl A):Int))) (ah.aj [c5/\c1<nl A] (ah.fork (decide ((0:Int)<c4)) (ah.aj [c5/\c1<nl B] (ah.leaf aq.normal (mag A::mag B::nil::int IntKind.u64 (IntKind.u64.wrap (c3+c6))::c2,[]))) (ah.leaf aq.normal (mag A::mag B::nil::int IntKind.u64 c3::c2,[])))) (ah.fork (decide ((0:Int)<c4)) (ah.aj [c5/\c1<nl B] (ah.leaf aq.normal (mag A::mag B::nil::int IntKind.u64 (IntKind.u64.wrap ((↑c:Int)+c6))::c2,[]))) (ah.leaf aq.normal (mag A::mag B::nil::int IntKind.u64 (↑c:Int)::c2,[])))):=ag
theorem aaz {A B c i:Nat} {o:Nat->Nat}:aI T fh [27,38] 60 eJ (before (part jq [1,0,0]) [1,1]) ⟨aE eJ (xx A B c i),pJ i o,8⟩=
  let c7:Int:=(↑(nl B):Int);let c3:AV:=own 7 1 0 i;let c2:Int:=(↑i:Int);let c1:Nat×au:=(7,au.mk true true 1 i fun a=>int IntKind.u32 (↑(o a):Int));let c8:Prop:=(0:Int)<=c2/\c2.toNat<nl B;let c6:Int:=IntKind.u64.wrap (↑(aC B c2.toNat):Int);let c5:List AV:=[int IntKind.i64 c2];let c4:Int:=IntKind.u64.wrap ((↑c:Int)+IntKind.u64.wrap (↑(aC A c2.toNat):Int));some (ah.fork (decide (c2<(↑(nl A):Int))) (ah.aj [(0:Int)<=c2/\c2.toNat<nl A] (ah.fork (decide (c2<c7)) (ah.aj [c8] (ah.leaf aq.normal (mag A::mag B::c3::int IntKind.u64 (IntKind.u64.wrap (c4+c6))::c5,[c1]))) (ah.leaf aq.normal (mag A::mag B::c3::int IntKind.u64 c4::c5,[c1])))) (ah.fork (decide (c2<c7)) (ah.aj [c8] (ah.leaf aq.normal (mag A::mag B::c3::int IntKind.u64 (IntKind.u64.wrap ((↑c:Int)+c6))::c5,[c1]))) (ah.leaf aq.normal (mag A::mag B::c3::int IntKind.u64 (↑c:Int)::c5,[c1])))):=ag
theorem ab1 {A B c:Nat}:aI T fh [] 60 eJ [part (part jq [1,0,0]) [1,1]] ⟨aE eJ [.mag A,.mag B,.nil,.int .u64 c,.int .i64 0],[],8⟩=
  some (ah.aj [(1:Nat)*1<=2^24,(0:Nat)<1/\1*((4:Nat)+1)*2<=2^47] (ah.aj [(0:Int)<=(32:Int)] (ah.leaf aq.normal ([mag A,mag B,own 16392 1 0 1,int IntKind.u64 ((↑c:Int).fdiv ((2:Int)^min (Int.toNat (32:Int)) IntKind.u64.bits)),int IntKind.i64 (0:Int)],[(16392,au.mk true true 1 1 fun i=>nth [int IntKind.u32 (IntKind.u32.wrap (↑c:Int))] (int IntKind.u32 (0:Int)) (i+0))])))):=ag
theorem amv {A B c i:Nat} {o:Nat->Nat}:aI T fh [] 60 eJ [part (part jq [1,0,0]) [1,1]] ⟨aE eJ (xx A B c i),pJ i o,8⟩=
  some (ah.aj [(1:Nat)*1<=2^24,(i+1)*((4:Nat)+1)*2<=2^47] (ah.aj [(0:Int)<=(32:Int)] (ah.leaf aq.normal ([mag A,mag B,own 16392 1 0 (i+1),int IntKind.u64 ((↑c:Int).fdiv ((2:Int)^min (Int.toNat (32:Int)) IntKind.u64.bits)),int IntKind.i64 (↑i:Int)],[(16392,au.mk true true 1 (i+1) fun i_1=>if i_1<i then aB o i_1 else nth [int IntKind.u32 (IntKind.u32.wrap (↑c:Int))] (int IntKind.u32 (0:Int)) (i_1-i+0))])))):=ag
theorem ae5 {A B c i j:Nat} {o:Nat->Nat}:aI T fh [] 60 eJ [part jq [1,1]] ⟨aE eJ [.mag A,.mag B,.own 7 1 0 i,.int .u64 c,.int .i64 j],pJ i o,8⟩=
  some (ah.leaf aq.normal ([mag A,mag B,own 7 1 0 i,int IntKind.u64 (↑c:Int),int IntKind.i64 (IntKind.i64.wrap ((↑j:Int)+(1:Int)))],[(7,au.mk true true 1 i fun a=>int IntKind.u32 (↑(o a):Int))])):=ag
theorem X0 {A B c:Nat}:cJ T fh [] 60 iM (behind (az iM) [1,1,1,0,1]) ⟨aE eJ [.mag A,.mag B,.nil,.int .u64 c,.int .i64 0],[],8⟩=
  some (ah.leaf aq.ret [nil]):=ag
theorem amK {A B c i:Nat} {o:Nat->Nat}:cJ T fh [] 60 iM (behind (az iM) [1,1,1,0,1]) ⟨aE eJ (xx A B c i),pJ i o,8⟩=
  some (ah.leaf aq.ret [ak 1 i fun i=>int IntKind.u32 (↑(o (i+0)):Int)]):=ag
theorem jT {A i:Nat} (h:nl A<=i):aC A i=0:=by
 unfold aC
 rw[Nat.div_eq_of_lt (dB.1 h)]
def mU (A B c:Nat):Nat->List AV
 |0=>[.mag A,.mag B,.nil,.int .u64 c,.int .i64 0]
 |i+1=>xx A B c (i+1)
def ny (o:Nat->Nat):Nat->aF
 |0=>[]
 |i+1=>pJ (i+1) o
theorem rm {A B c i:Nat}:jV 8 (mU A B c i)=true:=by cases i<;>rfl
theorem qq {o:Nat->Nat} {i:Nat}:gW 8 (ny o i):=by
 cases i
 ·trivial
 ·exact⟨⟨aa,fun _ _=>rfl⟩,trivial⟩
section fadd
variable {c0:Ctx} (h0:c0.k0=bn) {A B:Nat} {Q:aq->aJ->Prop}
include h0 in
theorem ah2 {c i:Nat} {o:Nat->Nat} {s':aJ} (hc:c<=1) (hv:bw eJ s'=some (mU A B c i,ny o i))
  (fin:∀s',bw eJ s'=some (mU A B (c+aC A i+aC B i) i,ny o i)->Q .normal s'):aG P c0 iM.ntmps (before (part jq [1,0,0]) [1,1]) s' Q:=by
 have la:=dK (N:=A) (i:=i)
 have lb:=dK (N:=B) (i:=i)
 have wa:IntKind.u64.wrap (aC A i:Int)=((aC A i:Nat):Int):=cr aa aa
 have wb:IntKind.u64.wrap (aC B i:Int)=((aC B i:Nat):Int):=cr aa aa
 have w1:IntKind.u64.wrap ((c:Int)+((aC A i:Nat):Int))=((c+aC A i:Nat):Int):=by rw[cr aa aa];omega
 have w2:IntKind.u64.wrap ((c:Int)+((aC B i:Nat):Int))=((c+aC B i:Nat):Int):=by rw[cr aa aa];omega
 have w3:IntKind.u64.wrap (((c+aC A i:Nat):Int)+((aC B i:Nat):Int))=((c+aC A i+aC B i:Nat):Int):=by rw[cr aa aa];omega
 cases i with
 |zero=>
  refine aG.fE hT fB hm 60 hv (kD h0) rm qq eJ akl ag ag ?_
  simp only[ah.all,aA,bh,bz,Int.toNat_zero]
  rw[wa,wb,w1,w2,w3]
  refine⟨fun h1=>⟨aa,fun h2=>⟨aa,fun s' hv=>fin s' hv⟩,fun h2 s' hv=>fin s' (dP hv ?_ rfl)⟩,fun h1=>⟨fun h2=>⟨aa,fun s' hv=>fin s' (dP hv ?_ rfl)⟩,fun h2 s' hv=>fin s' (dP hv ?_ rfl)⟩⟩
  ·rw[jT (A:=B) aa];rfl
  ·rw[jT (A:=A) aa];rfl
  ·rw[jT (A:=A) aa,jT (A:=B) aa];rfl
 |succ i=>
  refine aG.fE hT fB hm 60 hv (kD h0) rm qq eJ aaz ag ag ?_
  simp only[ah.all,aA,bh,bz,aZ]
  rw[wa,wb,w1,w2,w3]
  refine⟨fun h1=>⟨aa,fun h2=>⟨aa,fun s' hv=>fin s' hv⟩,fun h2 s' hv=>fin s' (dP hv ?_ rfl)⟩,fun h1=>⟨fun h2=>⟨aa,fun s' hv=>fin s' (dP hv ?_ rfl)⟩,fun h2 s' hv=>fin s' (dP hv ?_ rfl)⟩⟩
  ·rw[jT (A:=B) aa];rfl
  ·rw[jT (A:=A) aa];rfl
  ·rw[jT (A:=A) aa,jT (A:=B) aa];rfl
include h0 in
theorem afs {c i:Nat} {o:Nat->Nat} {s':aJ} (hi:i<2^41) (hv:bw eJ s'=some (mU A B c i,ny o i))
  (fin:∀s',(∃ρ,Le c0 ρ s' ⟨aE eJ [.mag A,.mag B,.own 7 1 0 (i+1),.int .u64 (c/4294967296:Nat),.int .i64 i],pJ (i+1) (cA o i (c%4294967296)),8⟩)->Q .normal s'):ay P c0 iM.ntmps (part (part jq [1,0,0]) [1,1]) s' Q:=by
 have hd:(c:Int).fdiv (2^min (Int.toNat 32) IntKind.u64.bits)=((c/4294967296:Nat):Int):=by rw[mE];omega
 cases i with
 |zero=>
  refine ay.fE hT fB hm 60 hv (kD h0) rm qq eJ ab1 ag ?_
  rw[hd]
  simp only[ah.all,aA]
  refine⟨⟨aa,aa,aa⟩,aa,fun s' hv=>fin s' ?_⟩
  refine dF (vs:=[.mag A,.mag B,.own 7 1 0 1,.int .u64 (c/4294967296:Nat),.int .i64 0]) (ps:=pJ 1 (cA o 0 (c%4294967296))) (nx:=8) [(7,16392)] hv h0 rfl ⟨⟨rfl,aL rfl⟩,⟨rfl,aL rfl⟩,⟨rfl,cT rfl rfl rfl⟩,⟨rfl,aL rfl⟩,⟨rfl,aL rfl⟩,trivial⟩
   ⟨⟨_,_,rfl,rfl,fU rfl fun j hj=>?_⟩,trivial⟩
  have:j=0:=aa
  subst this
  simp[nth,aB,kU,j8]
 |succ i=>
  refine ay.fE hT fB hm 60 hv (kD h0) rm qq eJ amv ag ?_
  rw[hd]
  simp only[ah.all,aA]
  refine⟨⟨aa,aa⟩,aa,fun s' hv=>fin s' ?_⟩
  refine dF (vs:=[.mag A,.mag B,.own 7 1 0 (i+1+1),.int .u64 (c/4294967296:Nat),.int .i64 ((i+1:Nat):Int)]) (ps:=pJ (i+1+1) (cA o (i+1) (c%4294967296))) (nx:=8) [(7,16392)] hv h0 rfl ⟨⟨rfl,aL rfl⟩,⟨rfl,aL rfl⟩,⟨rfl,cT rfl rfl rfl⟩,⟨rfl,aL rfl⟩,⟨rfl,aL rfl⟩,trivial⟩
   ⟨⟨_,_,rfl,rfl,fU rfl fun j hj=>?_⟩,trivial⟩
  by_cases h:j<i+1
  ·rw[if_pos h];unfold aB;rw[fW aa]
  ·have:j=i+1:=aa
   subst this
   simp[nth,aB,kU,j8]
end fadd
theorem ahe {c i:Nat} {o:Nat->Nat} {c0:Ctx} {Q:aq->aJ->Prop} {A B:Nat} (yes:∀s',(i<nl A\/i<nl B\/c≠0)->bw eJ s'=some (mU A B c i,ny o i)->Q .normal s')
  (no:∀s',nl A<=i->nl B<=i->c=0->bw eJ s'=some (mU A B c i,ny o i)->Q (.exit 0) s'):ay P c0 iM.ntmps (part jq [0]) ⟨aE eJ (mU A B c i),ny o i,8⟩ Q:=by
 cases i with
 |zero=>
  refine ay.bB hT fB hm 60 eJ agO ag ?_
  refine⟨fun h=>⟨fun _=>⟨⟨h,rfl⟩,fun _ s' hv=>yes s' (.inl (by have:=of_decide_eq_true h;omega)) hv,fun hf=>by simp at hf⟩,fun hf=>by simp at hf⟩,
   fun h=>⟨fun h2=>⟨⟨h,h2⟩,fun _ s' hv=>yes s' (.inr (.inl (by have:=of_decide_eq_true (iQ h2);omega))) hv,fun hf=>by simp at hf⟩,
    fun h2=>⟨⟨h,h2⟩,fun h3 s' hv=>yes s' (.inr (.inr ?_)) hv,fun h3 s' hv=>no s' ?_ ?_ ?_ hv⟩⟩⟩
  ·have:=iQ h3
   simp at this;exact this
  ·have:=of_decide_eq_false h;omega
  ·have:=of_decide_eq_false (iQ h2);omega
  ·have:=iQ h3
   simp at this;exact this
 |succ i=>
  refine ay.bB hT fB hm 60 eJ aa6 ag ?_
  refine⟨fun h=>⟨fun _=>⟨⟨h,rfl⟩,fun _ s' hv=>yes s' (.inl (by have:=of_decide_eq_true h;omega)) hv,fun hf=>by simp at hf⟩,fun hf=>by simp at hf⟩,
   fun h=>⟨fun h2=>⟨⟨h,h2⟩,fun _ s' hv=>yes s' (.inr (.inl (by have:=of_decide_eq_true (iQ h2);omega))) hv,fun hf=>by simp at hf⟩,
    fun h2=>⟨⟨h,h2⟩,fun h3 s' hv=>yes s' (.inr (.inr ?_)) hv,fun h3 s' hv=>no s' ?_ ?_ ?_ hv⟩⟩⟩
  ·have:=iQ h3
   simp at this;exact this
  ·have:=of_decide_eq_false h;omega
  ·have:=of_decide_eq_false (iQ h2);omega
  ·have:=iQ h3
   simp at this;exact this
theorem agq {A B:Nat} (hA:nl A<2^40) (hB:nl B<2^40) (K:Nat):aD P A9 K [.mag A,.mag B] [] (aK (.mag (A+B)) []):=by
 refine kB hT ahM rfl aW rfl (fun _ c0 h0=>.down ?_) K []
 refine ay.hole [1,1,1,0,1] ag (aG.bB hT fB hm 60 eJ Yq ag fun s' hv=>cF ?_)
 refine ay.iS (i:=0) (y:=jq) ag (fun p:Nat×Nat×(Nat->Nat)=>⟨aE eJ (mU A B p.2.1 p.1),ny p.2.2 p.1,8⟩)
  (fun p=>(p.1<=max (nl A) (nl B)\/(p.1=max (nl A) (nl B)+1/\p.2.1=0/\2^(32*max (nl A) (nl B))<=A+B))/\p.2.1<=1/\(∀j,j<p.1->p.2.2 j<2^32)/\val p.1 p.2.2+p.2.1*2^(32*p.1)=val p.1 (aC A)+val p.1 (aC B))
  (fun p=>max (nl A) (nl B)+1-p.1) (0,0,fun _=>0) (nQ hv (kD h0) rm qq) ⟨by simp,by simp,fun j hj=>by simp only at hj;omega,by simp[val]⟩ ?_
 rintro⟨i,c,o⟩ ⟨hi,hc,ho,hval⟩
 simp only at hi hc ho hval
 have hAv:max (nl A) (nl B)<=i->val i (aC A)+val i (aC B)=A+B:=fun h=>by
  rw[qi (dB.1 aa),qi (dB.1 aa)]
 -- a round
 have body:∀{s':aJ},(i<nl A\/i<nl B\/c≠0)->bw eJ s'=some (mU A B c i,ny o i)->∀{QF:aq->aJ->Prop},
   ay P c0 iM.ntmps (part jq [1]) s' (dU (fun s'=>∃k:Nat×Nat×(Nat->Nat),(∃ρ,Le c0 ρ s' ⟨aE eJ (mU A B k.2.1 k.1),ny k.2.2 k.1,8⟩)/\
    ((k.1<=max (nl A) (nl B)\/(k.1=max (nl A) (nl B)+1/\k.2.1=0/\2^(32*max (nl A) (nl B))<=A+B))/\k.2.1<=1/\(∀j,j<k.1->k.2.2 j<2^32)/\val k.1 k.2.2+k.2.1*2^(32*k.1)=val k.1 (aC A)+val k.1 (aC B))/\
    max (nl A) (nl B)+1-k.1<max (nl A) (nl B)+1-i) QF):=by
  intro s' hcont hv QF
  have hi':i<=max (nl A) (nl B):=aa
  have la:=dK (N:=A) (i:=i)
  have lb:=dK (N:=B) (i:=i)
  refine ay.hole [0] ag ?_
  show ay P c0 iM.ntmps (part jq [1,0]) s' _
  refine ay.q9 (i:=1) (y:=part jq [1,0,0]) ag ?_
  refine ay.hole [1,1] ag (ah2 h0 hc hv fun s' hv=>cF (afs h0 aa hv fun s' hle=>cF ?_))
  show aG P c0 iM.ntmps [part jq [1,1]] s' _
  refine aG.weak rfl hle (aG.bB hT fB hm 60 eJ ae5 ag fun s' hv=>cF ?_)
  have hs:=JD (B:=2^(32*i)) (c:=c) (z:=aC A i) (y:=aC B i) rfl hval
  refine⟨(i+1,(c+aC A i+aC B i)/4294967296,cA o i ((c+aC A i+aC B i)%4294967296)),nQ (dP hv ?_ rfl) (kD h0) rm qq,⟨?_,by simp only;omega,fun j hj=>?_,?_⟩,by simp only;omega⟩
  ·rw[eV (a:=(i:Int)+1) (n:=i+1) aa aa];rfl
  ·simp only
   by_cases h:i<max (nl A) (nl B)
   ·exact .inl aa
   ·have e:i=max (nl A) (nl B):=aa
    have lA:=jT (A:=A) (i:=i) aa
    have lB:=jT (A:=B) (i:=i) aa
    refine .inr ⟨aa,by rw[lA,lB];omega,?_⟩
    rw[hAv aa]at hval
    have hc1:c=1:=aa
    rw[hc1,Nat.one_mul,e]at hval
    omega
  ·simp only at hj ⊢
   unfold cA
   split
   ·omega
   ·exact ho j aa
  ·simp only
   rw[rE,val,val,iy]
   omega
 -- the end
 have fin:∀{s':aJ},nl A<=i->nl B<=i->c=0->bw eJ s'=some (mU A B c i,ny o i)->aG P c0 iM.ntmps (behind (az iM) [1,1,1,0,1]) s' (ep c0 (Fin T iM (.mag (A+B)))):=by
  intro s' h1 h2 h3 hv
  have hsum:val i o=A+B:=by rw[hAv aa,h3]at hval;omega
  cases i with
  |zero=>
   have:A+B=0:=by rw[<-hsum];rfl
   refine aG.k8 hT fB hm 60 hv (kD h0) rm qq X0 ag ag ?_
   rw[this]
   exact lO
  |succ i=>
   refine aG.k8 hT fB hm 60 hv (kD h0) rm qq amK ag ag ?_
   refine mu ?_ fun j hj=>?_
   ·have l1:nl (A+B)<=i+1:=dB.2 (by rw[<-hsum];exact gh ho)
    have l2:¬nl (A+B)<=i:=by
     intro h
     rcases hi with hi|⟨hi,_,hi2⟩
     ·have:=iA (show A<=A+B by omega)
      have:=iA (show B<=A+B by omega)
      omega
     ·rw[dB]at h
      rw[show max (nl A) (nl B)=i by omega]at hi2
      omega
    omega
   ·rw[<-hsum,ry ho hj];rfl
 refine ay.hole [0] ag (show ay P c0 iM.ntmps (part jq [0]) _ _ from ahe (fun s' h hv=>cF ?_) fun s' h1 h2 h3 hv=>tZ (fN (cF (fin h1 h2 h3 hv))))
 show aG P c0 iM.ntmps [part jq [1]] s' _
 exact body h hv
def OR:Spec:=nS (fun A B=>.mag (A+B)) La
theorem acB:∀K args pre r,OR K args pre=some r->aD P A9 K args pre r:=rB fun h=>agq h.1 h.2
end Go.Am.B
