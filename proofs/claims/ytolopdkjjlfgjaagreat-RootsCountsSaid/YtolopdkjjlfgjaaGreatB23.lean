/- ref01: Add, minus, Sub, Mul, byLimb. -/
import Derived.Test.YtolopdkjjlfgjaaGreatB22
set_option linter.unusedVariables false
namespace Go.Am.B
open Go Go.Am.N AV Proofs.Tryz IntKind
theorem NO:aZ 146 f146:=bf func146
abbrev eC:List Nat:=[0,1,5,6,7]
abbrev uI (A B c i:Nat):List AV:=[.mag A,.mag B,.own 7 1 0 i,.int .u64 c,.int .i64 i]
abbrev mT (i:Nat) (o:Nat->Nat):aD:=[(7,⟨true,true,1,i,aA o⟩)]
noncomputable abbrev iQ:Code:=part (aG f146) [1,1,1,0,1,0,0]
theorem Z4 {A B:Nat}:aF T eZ [] 60 eC (before (aG f146) [1,1,1,0,1]) ⟨aQ 0 [.mag A,.mag B],[],0⟩=
  some (af.leaf aq.normal ([mag A,mag B,nil,int .u64 (0:Int),int .i64 (0:Int)],[])):=ah
theorem Q6 {A B c:Nat}:aF T eZ [12,18,21] 60 eC [part iQ [0]] ⟨aC eC [.mag A,.mag B,.nil,.int .u64 c,.int .i64 0],[],8⟩=
  let c3:Bool:=bif false then true else decide ((0:Int)<(↑(nl B):Int));let c2:Bool:=decide ((0:Int)<(↑(nl A):Int));let c1:List AV×aD:=([mag A,mag B,nil,int .u64 (↑c:Int),int .i64 (0:Int)],[]);let c5:af (List AV×aD):=af.fork true (af.leaf aq.normal c1) (af.leaf (aq.exit 0) c1);let c4:af (List AV×aD):=af.fork (bif false then true else(↑c:Int)!=0) (af.leaf aq.normal c1) (af.leaf (aq.exit 0) c1);some (af.fork c2 (af.fork true (af.aj [c2=true,true=true] c5) (af.aj [c2=true,true=false] c4)) (af.fork c3 (af.aj [c2=false,c3=true] c5) (af.aj [c2=false,c3=false] c4))):=ah
theorem Z3 {A B c i:Nat} {o:Nat->Nat}:aF T eZ [12,18,21] 60 eC [part iQ [0]] ⟨aC eC (uI A B c i),mT i o,8⟩=
  let c6:Int:=(↑i:Int);let c3:Bool:=bif false then true else decide (c6<(↑(nl B):Int));let c2:Bool:=decide (c6<(↑(nl A):Int));let c1:List AV×aD:=([mag A,mag B,own 7 1 0 i,int .u64 (↑c:Int),int .i64 c6],[(7,ax.mk true true 1 i fun a=>int .u32 (↑(o a):Int))]);let c5:af (List AV×aD):=af.fork true (af.leaf aq.normal c1) (af.leaf (aq.exit 0) c1);let c4:af (List AV×aD):=af.fork (bif false then true else(↑c:Int)!=0) (af.leaf aq.normal c1) (af.leaf (aq.exit 0) c1);some (af.fork c2 (af.fork true (af.aj [c2=true,true=true] c5) (af.aj [c2=true,true=false] c4)) (af.fork c3 (af.aj [c2=false,c3=true] c5) (af.aj [c2=false,c3=false] c4))):=ah
theorem Yf {A B c:Nat}:aF T eZ [27,38] 60 eC (before (part iQ [1,0,0]) [1,1]) ⟨aC eC [.mag A,.mag B,.nil,.int .u64 c,.int .i64 0],[],8⟩=
  let c5:Prop:=(0:Int)<=0;let c4:Int:=(↑(nl B):Int);let c2:List AV:=[int .i64 (0:Int)];let c1:Nat:=Int.toNat (0:Int);let c6:Int:=u64.wrap (↑(aB B c1):Int);let c3:Int:=u64.wrap ((↑c:Int)+u64.wrap (↑(aB A c1):Int));some (af.fork (decide ((0:Int)<(↑(nl A):Int))) (af.aj [c5/\c1<nl A] (af.fork (decide ((0:Int)<c4)) (af.aj [c5/\c1<nl B] (af.leaf aq.normal (mag A::mag B::nil::int .u64 (u64.wrap (c3+c6))::c2,[]))) (af.leaf aq.normal (mag A::mag B::nil::int .u64 c3::c2,[])))) (af.fork (decide ((0:Int)<c4)) (af.aj [c5/\c1<nl B] (af.leaf aq.normal (mag A::mag B::nil::int .u64 (u64.wrap ((↑c:Int)+c6))::c2,[]))) (af.leaf aq.normal (mag A::mag B::nil::int .u64 (↑c:Int)::c2,[])))):=ah
theorem acU {A B c i:Nat} {o:Nat->Nat}:aF T eZ [27,38] 60 eC (before (part iQ [1,0,0]) [1,1]) ⟨aC eC (uI A B c i),mT i o,8⟩=
  let c7:Int:=(↑(nl B):Int);let c3:AV:=own 7 1 0 i;let c2:Int:=(↑i:Int);let c1:Nat×ax:=(7,ax.mk true true 1 i fun a=>int .u32 (↑(o a):Int));let c8:Prop:=(0:Int)<=c2/\c2.toNat<nl B;let c6:Int:=u64.wrap (↑(aB B c2.toNat):Int);let c5:List AV:=[int .i64 c2];let c4:Int:=u64.wrap ((↑c:Int)+u64.wrap (↑(aB A c2.toNat):Int));some (af.fork (decide (c2<(↑(nl A):Int))) (af.aj [(0:Int)<=c2/\c2.toNat<nl A] (af.fork (decide (c2<c7)) (af.aj [c8] (af.leaf aq.normal (mag A::mag B::c3::int .u64 (u64.wrap (c4+c6))::c5,[c1]))) (af.leaf aq.normal (mag A::mag B::c3::int .u64 c4::c5,[c1])))) (af.fork (decide (c2<c7)) (af.aj [c8] (af.leaf aq.normal (mag A::mag B::c3::int .u64 (u64.wrap ((↑c:Int)+c6))::c5,[c1]))) (af.leaf aq.normal (mag A::mag B::c3::int .u64 (↑c:Int)::c5,[c1])))):=ah
theorem Zj {A B c:Nat}:aF T eZ [] 60 eC [part (part iQ [1,0,0]) [1,1]] ⟨aC eC [.mag A,.mag B,.nil,.int .u64 c,.int .i64 0],[],8⟩=
  some (af.aj [(1:Nat)*1<=2^24,(0:Nat)<1/\1*((4:Nat)+1)*2<=2^47] (af.aj [(0:Int)<=32] (af.leaf aq.normal ([mag A,mag B,own 16392 1 0 1,int .u64 ((↑c:Int).fdiv ((2:Int)^min (Int.toNat (32:Int)) u64.bits)),int .i64 (0:Int)],[(16392,ax.mk true true 1 1 fun i=>nth [int .u32 (u32.wrap (↑c:Int))] (int .u32 (0:Int)) (i+0))])))):=ah
theorem X8 {A B c i:Nat} {o:Nat->Nat}:aF T eZ [] 60 eC [part (part iQ [1,0,0]) [1,1]] ⟨aC eC (uI A B c i),mT i o,8⟩=
  some (af.aj [(1:Nat)*1<=2^24,(i+1)*((4:Nat)+1)*2<=2^47] (af.aj [(0:Int)<=32] (af.leaf aq.normal ([mag A,mag B,own 16392 1 0 (i+1),int .u64 ((↑c:Int).fdiv ((2:Int)^min (Int.toNat (32:Int)) u64.bits)),int .i64 (↑i:Int)],[(16392,ax.mk true true 1 (i+1) fun i_1=>if i_1<i then aA o i_1 else nth [int .u32 (u32.wrap (↑c:Int))] (int .u32 (0:Int)) (i_1-i+0))])))):=ah
theorem Zo {A B c i j:Nat} {o:Nat->Nat}:aF T eZ [] 60 eC [part iQ [1,1]] ⟨aC eC [.mag A,.mag B,.own 7 1 0 i,.int .u64 c,.int .i64 j],mT i o,8⟩=
  some (af.leaf aq.normal ([mag A,mag B,own 7 1 0 i,int .u64 (↑c:Int),int .i64 (i64.wrap ((↑j:Int)+1))],[(7,ax.mk true true 1 i fun a=>int .u32 (↑(o a):Int))])):=ah
theorem Xe {A B c:Nat}:cG T eZ [] 60 f146 (behind (aG f146) [1,1,1,0,1]) ⟨aC eC [.mag A,.mag B,.nil,.int .u64 c,.int .i64 0],[],8⟩=
  some (af.leaf aq.ret [nil]):=ah
theorem abx {A B c i:Nat} {o:Nat->Nat}:cG T eZ [] 60 f146 (behind (aG f146) [1,1,1,0,1]) ⟨aC eC (uI A B c i),mT i o,8⟩=
  some (af.leaf aq.ret [ak 1 i fun i=>int .u32 (↑(o (i+0)):Int)]):=ah
theorem iY {A i:Nat} (h:nl A<=i):aB A i=0:=by
 unfold aB
 rw[Nat.div_eq_of_lt (dI.1 h)]
def kZ (A B c:Nat):Nat->List AV
 |0=>[.mag A,.mag B,.nil,.int .u64 c,.int .i64 0]
 |i+1=>uI A B c (i+1)
def lI (o:Nat->Nat):Nat->aD
 |0=>[]
 |i+1=>mT (i+1) o
theorem oO {A B c i:Nat}:jX 8 (kZ A B c i)=true:=by cases i<;>rfl
theorem pe {o:Nat->Nat} {i:Nat}:iz 8 (lI o i):=by
 cases i
 ·trivial
 ·exact⟨⟨aa,fun _ _=>rfl⟩,trivial⟩
section fadd
variable {c0:Ctx} (h0:c0.k0=br) {A B:Nat} {Q:aq->aH->Prop}
include h0 in
theorem ab3 {c i:Nat} {o:Nat->Nat} {s':aH} (hc:c<=1) (hv:bh eC s'=some (kZ A B c i,lI o i))
  (fin:∀s',bh eC s'=some (kZ A B (c+aB A i+aB B i) i,lI o i)->Q .normal s'):aE P c0 f146.ntmps (before (part iQ [1,0,0]) [1,1]) s' Q:=by
 have la:=dP (N:=A) (i:=i)
 have lb:=dP (N:=B) (i:=i)
 have wa:u64.wrap (aB A i:Int)=((aB A i:Nat):Int):=bZ aa aa
 have wb:u64.wrap (aB B i:Int)=((aB B i:Nat):Int):=bZ aa aa
 have w1:u64.wrap ((c:Int)+((aB A i:Nat):Int))=((c+aB A i:Nat):Int):=by rw[bZ aa aa];omega
 have w2:u64.wrap ((c:Int)+((aB B i:Nat):Int))=((c+aB B i:Nat):Int):=by rw[bZ aa aa];omega
 have w3:u64.wrap (((c+aB A i:Nat):Int)+((aB B i:Nat):Int))=((c+aB A i+aB B i:Nat):Int):=by rw[bZ aa aa];omega
 cases i with
 |zero=>
  refine aE.fj hT fc hm 60 hv (jl h0) oO pe eC Yf ah ah ?_
  simp only[af.all,az,bz,bB,Int.toNat_zero]
  rw[wa,wb,w1,w2,w3]
  refine⟨fun h1=>⟨aa,fun h2=>⟨aa,fun s' hv=>fin s' hv⟩,fun h2 s' hv=>fin s' (dS hv ?_ rfl)⟩,fun h1=>⟨fun h2=>⟨aa,fun s' hv=>fin s' (dS hv ?_ rfl)⟩,fun h2 s' hv=>fin s' (dS hv ?_ rfl)⟩⟩
  ·rw[iY (A:=B) aa];rfl
  ·rw[iY (A:=A) aa];rfl
  ·rw[iY (A:=A) aa,iY (A:=B) aa];rfl
 |succ i=>
  refine aE.fj hT fc hm 60 hv (jl h0) oO pe eC acU ah ah ?_
  simp only[af.all,az,bz,bB,bw]
  rw[wa,wb,w1,w2,w3]
  refine⟨fun h1=>⟨aa,fun h2=>⟨aa,fun s' hv=>fin s' hv⟩,fun h2 s' hv=>fin s' (dS hv ?_ rfl)⟩,fun h1=>⟨fun h2=>⟨aa,fun s' hv=>fin s' (dS hv ?_ rfl)⟩,fun h2 s' hv=>fin s' (dS hv ?_ rfl)⟩⟩
  ·rw[iY (A:=B) aa];rfl
  ·rw[iY (A:=A) aa];rfl
  ·rw[iY (A:=A) aa,iY (A:=B) aa];rfl
include h0 in
theorem M6 {c i:Nat} {o:Nat->Nat} {s':aH} (hi:i<2^41) (hv:bh eC s'=some (kZ A B c i,lI o i))
  (fin:∀s',(∃ρ,Le c0 ρ s' ⟨aC eC [.mag A,.mag B,.own 7 1 0 (i+1),.int .u64 (c/4294967296:Nat),.int .i64 i],mT (i+1) (cr o i (c%4294967296)),8⟩)->Q .normal s'):au P c0 f146.ntmps (part (part iQ [1,0,0]) [1,1]) s' Q:=by
 have hd:(c:Int).fdiv (2^min (Int.toNat 32) u64.bits)=((c/4294967296:Nat):Int):=by rw[kH];omega
 cases i with
 |zero=>
  refine au.fj hT fc hm 60 hv (jl h0) oO pe eC Zj ah ?_
  rw[hd]
  simp only[af.all,az]
  refine⟨⟨aa,aa,aa⟩,aa,fun s' hv=>fin s' ?_⟩
  refine dH (vs:=[.mag A,.mag B,.own 7 1 0 1,.int .u64 (c/4294967296:Nat),.int .i64 0]) (ps:=mT 1 (cr o 0 (c%4294967296))) (nx:=8) [(7,16392)] hv h0 rfl ⟨aN,aN,⟨rfl,dB rfl rfl rfl⟩,aN,aN,trivial⟩
   ⟨⟨_,_,rfl,rfl,fG rfl fun j hj=>?_⟩,trivial⟩
  have:j=0:=aa
  subst this
  simp[nth,aA,jI,jo]
 |succ i=>
  refine au.fj hT fc hm 60 hv (jl h0) oO pe eC X8 ah ?_
  rw[hd]
  simp only[af.all,az]
  refine⟨⟨aa,aa⟩,aa,fun s' hv=>fin s' ?_⟩
  refine dH (vs:=[.mag A,.mag B,.own 7 1 0 (i+1+1),.int .u64 (c/4294967296:Nat),.int .i64 ((i+1:Nat):Int)]) (ps:=mT (i+1+1) (cr o (i+1) (c%4294967296))) (nx:=8) [(7,16392)] hv h0 rfl ⟨aN,aN,⟨rfl,dB rfl rfl rfl⟩,aN,aN,trivial⟩
   ⟨⟨_,_,rfl,rfl,fG rfl fun j hj=>?_⟩,trivial⟩
  by_cases h:j<i+1
  ·rw[if_pos h];unfold aA;rw[fO aa]
  ·have:j=i+1:=aa
   subst this
   simp[nth,aA,jI,jo]
end fadd
theorem Yw {c i:Nat} {o:Nat->Nat} {c0:Ctx} {Q:aq->aH->Prop} {A B:Nat} (yes:∀s',(i<nl A\/i<nl B\/c≠0)->bh eC s'=some (kZ A B c i,lI o i)->Q .normal s')
  (no:∀s',nl A<=i->nl B<=i->c=0->bh eC s'=some (kZ A B c i,lI o i)->Q (.exit 0) s'):au P c0 f146.ntmps (part iQ [0]) ⟨aC eC (kZ A B c i),lI o i,8⟩ Q:=by
 cases i with
 |zero=>
  refine au.bD hT fc hm 60 eC Q6 ah ?_
  refine⟨fun h=>⟨fun _=>⟨⟨h,rfl⟩,fun _ s' hv=>yes s' (.inl (by have:=of_decide_eq_true h;omega)) hv,fun hf=>by simp at hf⟩,fun hf=>by simp at hf⟩,
   fun h=>⟨fun h2=>⟨⟨h,h2⟩,fun _ s' hv=>yes s' (.inr (.inl (by have:=of_decide_eq_true (hH h2);omega))) hv,fun hf=>by simp at hf⟩,
    fun h2=>⟨⟨h,h2⟩,fun h3 s' hv=>yes s' (.inr (.inr ?_)) hv,fun h3 s' hv=>no s' ?_ ?_ ?_ hv⟩⟩⟩
  ·have:=hH h3
   simp at this;exact this
  ·have:=of_decide_eq_false h;omega
  ·have:=of_decide_eq_false (hH h2);omega
  ·have:=hH h3
   simp at this;exact this
 |succ i=>
  refine au.bD hT fc hm 60 eC Z3 ah ?_
  refine⟨fun h=>⟨fun _=>⟨⟨h,rfl⟩,fun _ s' hv=>yes s' (.inl (by have:=of_decide_eq_true h;omega)) hv,fun hf=>by simp at hf⟩,fun hf=>by simp at hf⟩,
   fun h=>⟨fun h2=>⟨⟨h,h2⟩,fun _ s' hv=>yes s' (.inr (.inl (by have:=of_decide_eq_true (hH h2);omega))) hv,fun hf=>by simp at hf⟩,
    fun h2=>⟨⟨h,h2⟩,fun h3 s' hv=>yes s' (.inr (.inr ?_)) hv,fun h3 s' hv=>no s' ?_ ?_ ?_ hv⟩⟩⟩
  ·have:=hH h3
   simp at this;exact this
  ·have:=of_decide_eq_false h;omega
  ·have:=of_decide_eq_false (hH h2);omega
  ·have:=hH h3
   simp at this;exact this
theorem PZ {A B:Nat} (hA:nl A<2^40) (hB:nl B<2^40) (K:Nat):aO P 146 K [.mag A,.mag B] [] (aJ (.mag (A+B)) []):=by
 refine js hT NO rfl aX rfl (fun _ c0 h0=>.down ?_) K []
 refine au.hole [1,1,1,0,1] ah (aE.bD hT fc hm 60 eC Z4 ah fun s' hv=>cz ?_)
 refine au.gZ (i:=0) (y:=iQ) ah (fun p:Nat×Nat×(Nat->Nat)=>⟨aC eC (kZ A B p.2.1 p.1),lI p.2.2 p.1,8⟩)
  (fun p=>(p.1<=max (nl A) (nl B)\/(p.1=max (nl A) (nl B)+1/\p.2.1=0/\2^(32*max (nl A) (nl B))<=A+B))/\p.2.1<=1/\(∀j,j<p.1->p.2.2 j<2^32)/\val p.1 p.2.2+p.2.1*2^(32*p.1)=val p.1 (aB A)+val p.1 (aB B))
  (fun p=>max (nl A) (nl B)+1-p.1) (0,0,fun _=>0) (oK hv (jl h0) oO pe) ⟨by simp,by simp,fun j hj=>by simp only at hj;omega,by simp[val]⟩ ?_
 rintro⟨i,c,o⟩ ⟨hi,hc,ho,hval⟩
 simp only at hi hc ho hval
 have hAv:max (nl A) (nl B)<=i->val i (aB A)+val i (aB B)=A+B:=fun h=>by
  rw[oq (dI.1 aa),oq (dI.1 aa)]
 -- a round
 have body:∀{s':aH},(i<nl A\/i<nl B\/c≠0)->bh eC s'=some (kZ A B c i,lI o i)->∀{QF:aq->aH->Prop},
   au P c0 f146.ntmps (part iQ [1]) s' (ew (fun s'=>∃k:Nat×Nat×(Nat->Nat),(∃ρ,Le c0 ρ s' ⟨aC eC (kZ A B k.2.1 k.1),lI k.2.2 k.1,8⟩)/\
    ((k.1<=max (nl A) (nl B)\/(k.1=max (nl A) (nl B)+1/\k.2.1=0/\2^(32*max (nl A) (nl B))<=A+B))/\k.2.1<=1/\(∀j,j<k.1->k.2.2 j<2^32)/\val k.1 k.2.2+k.2.1*2^(32*k.1)=val k.1 (aB A)+val k.1 (aB B))/\
    max (nl A) (nl B)+1-k.1<max (nl A) (nl B)+1-i) QF):=by
  intro s' hcont hv QF
  have hi':i<=max (nl A) (nl B):=aa
  have la:=dP (N:=A) (i:=i)
  have lb:=dP (N:=B) (i:=i)
  refine au.hole [0] ah ?_
  show au P c0 f146.ntmps (part iQ [1,0]) s' _
  refine au.nQ (i:=1) (y:=part iQ [1,0,0]) ah ?_
  refine au.hole [1,1] ah (ab3 h0 hc hv fun s' hv=>cz (M6 h0 aa hv fun s' hle=>cz ?_))
  show aE P c0 f146.ntmps [part iQ [1,1]] s' _
  refine aE.weak rfl hle (aE.bD hT fc hm 60 eC Zo ah fun s' hv=>cz ?_)
  have hs:=BE (B:=2^(32*i)) (c:=c) (z:=aB A i) (y:=aB B i) rfl hval
  refine⟨(i+1,(c+aB A i+aB B i)/4294967296,cr o i ((c+aB A i+aB B i)%4294967296)),oK (dS hv ?_ rfl) (jl h0) oO pe,⟨?_,by simp only;omega,fun j hj=>?_,?_⟩,by simp only;omega⟩
  ·rw[eI (a:=(i:Int)+1) (n:=i+1) aa aa];rfl
  ·simp only
   by_cases h:i<max (nl A) (nl B)
   ·exact .inl aa
   ·have e:i=max (nl A) (nl B):=aa
    have lA:=iY (A:=A) (i:=i) aa
    have lB:=iY (A:=B) (i:=i) aa
    refine .inr ⟨aa,by rw[lA,lB];omega,?_⟩
    rw[hAv aa]at hval
    have hc1:c=1:=aa
    rw[hc1,Nat.one_mul,e]at hval
    omega
  ·simp only at hj ⊢
   unfold cr
   split
   ·omega
   ·exact ho j aa
  ·simp only
   rw[pK,val,val,g7]
   omega
 -- the end
 have fin:∀{s':aH},nl A<=i->nl B<=i->c=0->bh eC s'=some (kZ A B c i,lI o i)->aE P c0 f146.ntmps (behind (aG f146) [1,1,1,0,1]) s' (fA c0 (Fin T f146 (.mag (A+B)))):=by
  intro s' h1 h2 h3 hv
  have hsum:val i o=A+B:=by rw[hAv aa,h3]at hval;omega
  cases i with
  |zero=>
   have:A+B=0:=by rw[<-hsum];rfl
   refine aE.jA hT fc hm 60 hv (jl h0) oO pe Xe ah ah ?_
   rw[this]
   exact j4
  |succ i=>
   refine aE.jA hT fc hm 60 hv (jl h0) oO pe abx ah ah ?_
   refine jM ?_ fun j hj=>?_
   ·have l1:nl (A+B)<=i+1:=dI.2 (by rw[<-hsum];exact fR ho)
    have l2:¬nl (A+B)<=i:=by
     intro h
     rcases hi with hi|⟨hi,_,hi2⟩
     ·have:=gY (show A<=A+B by omega)
      have:=gY (show B<=A+B by omega)
      omega
     ·rw[dI]at h
      rw[show max (nl A) (nl B)=i by omega]at hi2
      omega
    omega
   ·rw[<-hsum,oF ho hj];rfl
 refine au.hole [0] ah (show au P c0 f146.ntmps (part iQ [0]) _ _ from Yw (fun s' h hv=>cz ?_) fun s' h1 h2 h3 hv=>pn (fo (cz (fin h1 h2 h3 hv))))
 show aE P c0 f146.ntmps [part iQ [1]] s' _
 exact body h hv
def Fi:Spec:=lU (fun A B=>.mag (A+B)) D9
theorem Se:aY P Fi 146:=oQ fun h=>PZ h.1 h.2
end Go.Am.B
