/- ref01: Add, minus, Sub, Mul, byLimb. -/
import Derived.Test.YtgfjdngnneoeoaaGreatB22
set_option linter.unusedVariables false
namespace Go.Am.B
open Go Go.Am.N AV Proofs.Tryz IntKind
theorem Qm:aX 125 f125:=aM func125
abbrev eL:List Nat:=[0,1,5,6,7]
abbrev xe (A B c i:Nat):List AV:=[.mag A,.mag B,.own 7 1 0 i,.int .u64 c,.int .i64 i]
abbrev oy (i:Nat) (o:Nat->Nat):aD:=[(7,⟨true,true,1,i,aA o⟩)]
noncomputable abbrev jj:Code:=part (aF f125) [1,1,1,0,1,0,0]
theorem ahE {A B:Nat}:aL T fu [] 60 eL (before (aF f125) [1,1,1,0,1]) ⟨aS 0 [.mag A,.mag B],[],0⟩=
  some (ag.leaf aq.normal ([mag A,mag B,nil,int .u64 (0:Int),int .i64 (0:Int)],[])):=ah
theorem adb {A B c:Nat}:aL T fu [12,18,21] 60 eL [part jj [0]] ⟨aG eL [.mag A,.mag B,.nil,.int .u64 c,.int .i64 0],[],8⟩=
  let c3:Bool:=bif false then true else decide ((0:Int)<(↑(nl B):Int));let c2:Bool:=decide ((0:Int)<(↑(nl A):Int));let c1:List AV×aD:=([mag A,mag B,nil,int .u64 (↑c:Int),int .i64 (0:Int)],[]);let c5:ag (List AV×aD):=ag.fork true (ag.leaf aq.normal c1) (ag.leaf (aq.exit 0) c1);let c4:ag (List AV×aD):=ag.fork (bif false then true else(↑c:Int)!=0) (ag.leaf aq.normal c1) (ag.leaf (aq.exit 0) c1);some (ag.fork c2 (ag.fork true (ag.aj [c2=true,true=true] c5) (ag.aj [c2=true,true=false] c4)) (ag.fork c3 (ag.aj [c2=false,c3=true] c5) (ag.aj [c2=false,c3=false] c4))):=ah
theorem OM {A B c i:Nat} {o:Nat->Nat}:aL T fu [12,18,21] 60 eL [part jj [0]] ⟨aG eL (xe A B c i),oy i o,8⟩=
  let c6:Int:=(↑i:Int);let c3:Bool:=bif false then true else decide (c6<(↑(nl B):Int));let c2:Bool:=decide (c6<(↑(nl A):Int));let c1:List AV×aD:=([mag A,mag B,own 7 1 0 i,int .u64 (↑c:Int),int .i64 c6],[(7,az.mk true true 1 i fun a=>int .u32 (↑(o a):Int))]);let c5:ag (List AV×aD):=ag.fork true (ag.leaf aq.normal c1) (ag.leaf (aq.exit 0) c1);let c4:ag (List AV×aD):=ag.fork (bif false then true else(↑c:Int)!=0) (ag.leaf aq.normal c1) (ag.leaf (aq.exit 0) c1);some (ag.fork c2 (ag.fork true (ag.aj [c2=true,true=true] c5) (ag.aj [c2=true,true=false] c4)) (ag.fork c3 (ag.aj [c2=false,c3=true] c5) (ag.aj [c2=false,c3=false] c4))):=ah
theorem adg {A B c:Nat}:aL T fu [27,38] 60 eL (before (part jj [1,0,0]) [1,1]) ⟨aG eL [.mag A,.mag B,.nil,.int .u64 c,.int .i64 0],[],8⟩=
  let c5:Prop:=(0:Int)<=0;let c4:Int:=(↑(nl B):Int);let c2:List AV:=[int .i64 (0:Int)];let c1:Nat:=Int.toNat (0:Int);let c6:Int:=u64.wrap (↑(aB B c1):Int);let c3:Int:=u64.wrap ((↑c:Int)+u64.wrap (↑(aB A c1):Int));some (ag.fork (decide ((0:Int)<(↑(nl A):Int))) (ag.aj [c5/\c1<nl A] (ag.fork (decide ((0:Int)<c4)) (ag.aj [c5/\c1<nl B] (ag.leaf aq.normal (mag A::mag B::nil::int .u64 (u64.wrap (c3+c6))::c2,[]))) (ag.leaf aq.normal (mag A::mag B::nil::int .u64 c3::c2,[])))) (ag.fork (decide ((0:Int)<c4)) (ag.aj [c5/\c1<nl B] (ag.leaf aq.normal (mag A::mag B::nil::int .u64 (u64.wrap ((↑c:Int)+c6))::c2,[]))) (ag.leaf aq.normal (mag A::mag B::nil::int .u64 (↑c:Int)::c2,[])))):=ah
theorem Wg {A B c i:Nat} {o:Nat->Nat}:aL T fu [27,38] 60 eL (before (part jj [1,0,0]) [1,1]) ⟨aG eL (xe A B c i),oy i o,8⟩=
  let c7:Int:=(↑(nl B):Int);let c3:AV:=own 7 1 0 i;let c2:Int:=(↑i:Int);let c1:Nat×az:=(7,az.mk true true 1 i fun a=>int .u32 (↑(o a):Int));let c8:Prop:=(0:Int)<=c2/\c2.toNat<nl B;let c6:Int:=u64.wrap (↑(aB B c2.toNat):Int);let c5:List AV:=[int .i64 c2];let c4:Int:=u64.wrap ((↑c:Int)+u64.wrap (↑(aB A c2.toNat):Int));some (ag.fork (decide (c2<(↑(nl A):Int))) (ag.aj [(0:Int)<=c2/\c2.toNat<nl A] (ag.fork (decide (c2<c7)) (ag.aj [c8] (ag.leaf aq.normal (mag A::mag B::c3::int .u64 (u64.wrap (c4+c6))::c5,[c1]))) (ag.leaf aq.normal (mag A::mag B::c3::int .u64 c4::c5,[c1])))) (ag.fork (decide (c2<c7)) (ag.aj [c8] (ag.leaf aq.normal (mag A::mag B::c3::int .u64 (u64.wrap ((↑c:Int)+c6))::c5,[c1]))) (ag.leaf aq.normal (mag A::mag B::c3::int .u64 (↑c:Int)::c5,[c1])))):=ah
theorem Xw {A B c:Nat}:aL T fu [] 60 eL [part (part jj [1,0,0]) [1,1]] ⟨aG eL [.mag A,.mag B,.nil,.int .u64 c,.int .i64 0],[],8⟩=
  some (ag.aj [(1:Nat)*1<=2^24,(0:Nat)<1/\1*((4:Nat)+1)*2<=2^47] (ag.aj [(0:Int)<=32] (ag.leaf aq.normal ([mag A,mag B,own 16392 1 0 1,int .u64 ((↑c:Int).fdiv ((2:Int)^min (Int.toNat (32:Int)) u64.bits)),int .i64 (0:Int)],[(16392,az.mk true true 1 1 fun i=>nth [int .u32 (u32.wrap (↑c:Int))] (int .u32 (0:Int)) (i+0))])))):=ah
theorem O6 {A B c i:Nat} {o:Nat->Nat}:aL T fu [] 60 eL [part (part jj [1,0,0]) [1,1]] ⟨aG eL (xe A B c i),oy i o,8⟩=
  some (ag.aj [(1:Nat)*1<=2^24,(i+1)*((4:Nat)+1)*2<=2^47] (ag.aj [(0:Int)<=32] (ag.leaf aq.normal ([mag A,mag B,own 16392 1 0 (i+1),int .u64 ((↑c:Int).fdiv ((2:Int)^min (Int.toNat (32:Int)) u64.bits)),int .i64 (↑i:Int)],[(16392,az.mk true true 1 (i+1) fun i_1=>if i_1<i then aA o i_1 else nth [int .u32 (u32.wrap (↑c:Int))] (int .u32 (0:Int)) (i_1-i+0))])))):=ah
theorem QZ {A B c i j:Nat} {o:Nat->Nat}:aL T fu [] 60 eL [part jj [1,1]] ⟨aG eL [.mag A,.mag B,.own 7 1 0 i,.int .u64 c,.int .i64 j],oy i o,8⟩=
  some (ag.leaf aq.normal ([mag A,mag B,own 7 1 0 i,int .u64 (↑c:Int),int .i64 (i64.wrap ((↑j:Int)+1))],[(7,az.mk true true 1 i fun a=>int .u32 (↑(o a):Int))])):=ah
theorem UX {A B c:Nat}:cP T fu [] 60 f125 (behind (aF f125) [1,1,1,0,1]) ⟨aG eL [.mag A,.mag B,.nil,.int .u64 c,.int .i64 0],[],8⟩=
  some (ag.leaf aq.ret [nil]):=ah
theorem RI {A B c i:Nat} {o:Nat->Nat}:cP T fu [] 60 f125 (behind (aF f125) [1,1,1,0,1]) ⟨aG eL (xe A B c i),oy i o,8⟩=
  some (ag.leaf aq.ret [ak 1 i fun i=>int .u32 (↑(o (i+0)):Int)]):=ah
theorem jD {A i:Nat} (h:nl A<=i):aB A i=0:=by
 unfold aB
 rw[Nat.div_eq_of_lt (dL.1 h)]
def mH (A B c:Nat):Nat->List AV
 |0=>[.mag A,.mag B,.nil,.int .u64 c,.int .i64 0]
 |i+1=>xe A B c (i+1)
def mN (o:Nat->Nat):Nat->aD
 |0=>[]
 |i+1=>oy (i+1) o
theorem oP {A B c i:Nat}:j6 8 (mH A B c i)=true:=by cases i<;>rfl
theorem oR {o:Nat->Nat} {i:Nat}:iP 8 (mN o i):=by
 cases i
 ·trivial
 ·exact⟨⟨aa,fun _ _=>rfl⟩,trivial⟩
section fadd
variable {c0:Ctx} (h0:c0.k0=bt) {A B:Nat} {Q:aq->aK->Prop}
include h0 in
theorem ZU {c i:Nat} {o:Nat->Nat} {s':aK} (hc:c<=1) (hv:bB eL s'=some (mH A B c i,mN o i))
  (fin:∀s',bB eL s'=some (mH A B (c+aB A i+aB B i) i,mN o i)->Q .normal s'):aI P c0 f125.ntmps (before (part jj [1,0,0]) [1,1]) s' Q:=by
 have la:=dS (N:=A) (i:=i)
 have lb:=dS (N:=B) (i:=i)
 have wa:u64.wrap (aB A i:Int)=((aB A i:Nat):Int):=cw aa aa
 have wb:u64.wrap (aB B i:Int)=((aB B i:Nat):Int):=cw aa aa
 have w1:u64.wrap ((c:Int)+((aB A i:Nat):Int))=((c+aB A i:Nat):Int):=by rw[cw aa aa];omega
 have w2:u64.wrap ((c:Int)+((aB B i:Nat):Int))=((c+aB B i:Nat):Int):=by rw[cw aa aa];omega
 have w3:u64.wrap (((c+aB A i:Nat):Int)+((aB B i:Nat):Int))=((c+aB A i+aB B i:Nat):Int):=by rw[cw aa aa];omega
 cases i with
 |zero=>
  refine aI.fE hT fy hm 60 hv (jW h0) oP oR eL adg ah ah ?_
  simp only[ag.all,au,bz,bG,Int.toNat_zero]
  rw[wa,wb,w1,w2,w3]
  refine⟨fun h1=>⟨aa,fun h2=>⟨aa,fun s' hv=>fin s' hv⟩,fun h2 s' hv=>fin s' (ee hv ?_ rfl)⟩,fun h1=>⟨fun h2=>⟨aa,fun s' hv=>fin s' (ee hv ?_ rfl)⟩,fun h2 s' hv=>fin s' (ee hv ?_ rfl)⟩⟩
  ·rw[jD (A:=B) aa];rfl
  ·rw[jD (A:=A) aa];rfl
  ·rw[jD (A:=A) aa,jD (A:=B) aa];rfl
 |succ i=>
  refine aI.fE hT fy hm 60 hv (jW h0) oP oR eL Wg ah ah ?_
  simp only[ag.all,au,bz,bG,br]
  rw[wa,wb,w1,w2,w3]
  refine⟨fun h1=>⟨aa,fun h2=>⟨aa,fun s' hv=>fin s' hv⟩,fun h2 s' hv=>fin s' (ee hv ?_ rfl)⟩,fun h1=>⟨fun h2=>⟨aa,fun s' hv=>fin s' (ee hv ?_ rfl)⟩,fun h2 s' hv=>fin s' (ee hv ?_ rfl)⟩⟩
  ·rw[jD (A:=B) aa];rfl
  ·rw[jD (A:=A) aa];rfl
  ·rw[jD (A:=A) aa,jD (A:=B) aa];rfl
include h0 in
theorem W4 {c i:Nat} {o:Nat->Nat} {s':aK} (hi:i<2^41) (hv:bB eL s'=some (mH A B c i,mN o i))
  (fin:∀s',(∃ρ,Le c0 ρ s' ⟨aG eL [.mag A,.mag B,.own 7 1 0 (i+1),.int .u64 (c/4294967296:Nat),.int .i64 i],oy (i+1) (cE o i (c%4294967296)),8⟩)->Q .normal s'):ay P c0 f125.ntmps (part (part jj [1,0,0]) [1,1]) s' Q:=by
 have hd:(c:Int).fdiv (2^min (Int.toNat 32) u64.bits)=((c/4294967296:Nat):Int):=by rw[lW];omega
 cases i with
 |zero=>
  refine ay.fE hT fy hm 60 hv (jW h0) oP oR eL Xw ah ?_
  rw[hd]
  simp only[ag.all,au]
  refine⟨⟨aa,aa,aa⟩,aa,fun s' hv=>fin s' ?_⟩
  refine dI (vs:=[.mag A,.mag B,.own 7 1 0 1,.int .u64 (c/4294967296:Nat),.int .i64 0]) (ps:=oy 1 (cE o 0 (c%4294967296))) (nx:=8) [(7,16392)] hv h0 rfl ⟨aP,aP,⟨rfl,dx rfl rfl rfl⟩,aP,aP,trivial⟩
   ⟨⟨_,_,rfl,rfl,fP rfl fun j hj=>?_⟩,trivial⟩
  have:j=0:=aa
  subst this
  simp[nth,aA,kB,jP]
 |succ i=>
  refine ay.fE hT fy hm 60 hv (jW h0) oP oR eL O6 ah ?_
  rw[hd]
  simp only[ag.all,au]
  refine⟨⟨aa,aa⟩,aa,fun s' hv=>fin s' ?_⟩
  refine dI (vs:=[.mag A,.mag B,.own 7 1 0 (i+1+1),.int .u64 (c/4294967296:Nat),.int .i64 ((i+1:Nat):Int)]) (ps:=oy (i+1+1) (cE o (i+1) (c%4294967296))) (nx:=8) [(7,16392)] hv h0 rfl ⟨aP,aP,⟨rfl,dx rfl rfl rfl⟩,aP,aP,trivial⟩
   ⟨⟨_,_,rfl,rfl,fP rfl fun j hj=>?_⟩,trivial⟩
  by_cases h:j<i+1
  ·rw[if_pos h];unfold aA;rw[fS aa]
  ·have:j=i+1:=aa
   subst this
   simp[nth,aA,kB,jP]
end fadd
theorem aeS {c i:Nat} {o:Nat->Nat} {c0:Ctx} {Q:aq->aK->Prop} {A B:Nat} (yes:∀s',(i<nl A\/i<nl B\/c≠0)->bB eL s'=some (mH A B c i,mN o i)->Q .normal s')
  (no:∀s',nl A<=i->nl B<=i->c=0->bB eL s'=some (mH A B c i,mN o i)->Q (.exit 0) s'):ay P c0 f125.ntmps (part jj [0]) ⟨aG eL (mH A B c i),mN o i,8⟩ Q:=by
 cases i with
 |zero=>
  refine ay.bH hT fy hm 60 eL adb ah ?_
  refine⟨fun h=>⟨fun _=>⟨⟨h,rfl⟩,fun _ s' hv=>yes s' (.inl (by have:=of_decide_eq_true h;omega)) hv,fun hf=>by simp at hf⟩,fun hf=>by simp at hf⟩,
   fun h=>⟨fun h2=>⟨⟨h,h2⟩,fun _ s' hv=>yes s' (.inr (.inl (by have:=of_decide_eq_true (iM h2);omega))) hv,fun hf=>by simp at hf⟩,
    fun h2=>⟨⟨h,h2⟩,fun h3 s' hv=>yes s' (.inr (.inr ?_)) hv,fun h3 s' hv=>no s' ?_ ?_ ?_ hv⟩⟩⟩
  ·have:=iM h3
   simp at this;exact this
  ·have:=of_decide_eq_false h;omega
  ·have:=of_decide_eq_false (iM h2);omega
  ·have:=iM h3
   simp at this;exact this
 |succ i=>
  refine ay.bH hT fy hm 60 eL OM ah ?_
  refine⟨fun h=>⟨fun _=>⟨⟨h,rfl⟩,fun _ s' hv=>yes s' (.inl (by have:=of_decide_eq_true h;omega)) hv,fun hf=>by simp at hf⟩,fun hf=>by simp at hf⟩,
   fun h=>⟨fun h2=>⟨⟨h,h2⟩,fun _ s' hv=>yes s' (.inr (.inl (by have:=of_decide_eq_true (iM h2);omega))) hv,fun hf=>by simp at hf⟩,
    fun h2=>⟨⟨h,h2⟩,fun h3 s' hv=>yes s' (.inr (.inr ?_)) hv,fun h3 s' hv=>no s' ?_ ?_ ?_ hv⟩⟩⟩
  ·have:=iM h3
   simp at this;exact this
  ·have:=of_decide_eq_false h;omega
  ·have:=of_decide_eq_false (iM h2);omega
  ·have:=iM h3
   simp at this;exact this
theorem OV {A B:Nat} (hA:nl A<2^40) (hB:nl B<2^40) (K:Nat):aN P 125 K [.mag A,.mag B] [] (aH (.mag (A+B)) []):=by
 refine jN hT Qm rfl aW rfl (fun _ c0 h0=>.down ?_) K []
 refine ay.hole [1,1,1,0,1] ah (aI.bH hT fy hm 60 eL ahE ah fun s' hv=>cL ?_)
 refine ay.ji (i:=0) (y:=jj) ah (fun p:Nat×Nat×(Nat->Nat)=>⟨aG eL (mH A B p.2.1 p.1),mN p.2.2 p.1,8⟩)
  (fun p=>(p.1<=max (nl A) (nl B)\/(p.1=max (nl A) (nl B)+1/\p.2.1=0/\2^(32*max (nl A) (nl B))<=A+B))/\p.2.1<=1/\(∀j,j<p.1->p.2.2 j<2^32)/\val p.1 p.2.2+p.2.1*2^(32*p.1)=val p.1 (aB A)+val p.1 (aB B))
  (fun p=>max (nl A) (nl B)+1-p.1) (0,0,fun _=>0) (nQ hv (jW h0) oP oR) ⟨by simp,by simp,fun j hj=>by simp only at hj;omega,by simp[val]⟩ ?_
 rintro⟨i,c,o⟩ ⟨hi,hc,ho,hval⟩
 simp only at hi hc ho hval
 have hAv:max (nl A) (nl B)<=i->val i (aB A)+val i (aB B)=A+B:=fun h=>by
  rw[pU (dL.1 aa),pU (dL.1 aa)]
 -- a round
 have body:∀{s':aK},(i<nl A\/i<nl B\/c≠0)->bB eL s'=some (mH A B c i,mN o i)->∀{QF:aq->aK->Prop},
   ay P c0 f125.ntmps (part jj [1]) s' (ey (fun s'=>∃k:Nat×Nat×(Nat->Nat),(∃ρ,Le c0 ρ s' ⟨aG eL (mH A B k.2.1 k.1),mN k.2.2 k.1,8⟩)/\
    ((k.1<=max (nl A) (nl B)\/(k.1=max (nl A) (nl B)+1/\k.2.1=0/\2^(32*max (nl A) (nl B))<=A+B))/\k.2.1<=1/\(∀j,j<k.1->k.2.2 j<2^32)/\val k.1 k.2.2+k.2.1*2^(32*k.1)=val k.1 (aB A)+val k.1 (aB B))/\
    max (nl A) (nl B)+1-k.1<max (nl A) (nl B)+1-i) QF):=by
  intro s' hcont hv QF
  have hi':i<=max (nl A) (nl B):=aa
  have la:=dS (N:=A) (i:=i)
  have lb:=dS (N:=B) (i:=i)
  refine ay.hole [0] ah ?_
  show ay P c0 f125.ntmps (part jj [1,0]) s' _
  refine ay.o9 (i:=1) (y:=part jj [1,0,0]) ah ?_
  refine ay.hole [1,1] ah (ZU h0 hc hv fun s' hv=>cL (W4 h0 aa hv fun s' hle=>cL ?_))
  show aI P c0 f125.ntmps [part jj [1,1]] s' _
  refine aI.weak rfl hle (aI.bH hT fy hm 60 eL QZ ah fun s' hv=>cL ?_)
  have hs:=Dl (B:=2^(32*i)) (c:=c) (z:=aB A i) (y:=aB B i) rfl hval
  refine⟨(i+1,(c+aB A i+aB B i)/4294967296,cE o i ((c+aB A i+aB B i)%4294967296)),nQ (ee hv ?_ rfl) (jW h0) oP oR,⟨?_,by simp only;omega,fun j hj=>?_,?_⟩,by simp only;omega⟩
  ·rw[fe (a:=(i:Int)+1) (n:=i+1) aa aa];rfl
  ·simp only
   by_cases h:i<max (nl A) (nl B)
   ·exact .inl aa
   ·have e:i=max (nl A) (nl B):=aa
    have lA:=jD (A:=A) (i:=i) aa
    have lB:=jD (A:=B) (i:=i) aa
    refine .inr ⟨aa,by rw[lA,lB];omega,?_⟩
    rw[hAv aa]at hval
    have hc1:c=1:=aa
    rw[hc1,Nat.one_mul,e]at hval
    omega
  ·simp only at hj ⊢
   unfold cE
   split
   ·omega
   ·exact ho j aa
  ·simp only
   rw[rN,val,val,iB]
   omega
 -- the end
 have fin:∀{s':aK},nl A<=i->nl B<=i->c=0->bB eL s'=some (mH A B c i,mN o i)->aI P c0 f125.ntmps (behind (aF f125) [1,1,1,0,1]) s' (eU c0 (Fin T f125 (.mag (A+B)))):=by
  intro s' h1 h2 h3 hv
  have hsum:val i o=A+B:=by rw[hAv aa,h3]at hval;omega
  cases i with
  |zero=>
   have:A+B=0:=by rw[<-hsum];rfl
   refine aI.kA hT fy hm 60 hv (jW h0) oP oR UX ah ah ?_
   rw[this]
   exact kO
  |succ i=>
   refine aI.kA hT fy hm 60 hv (jW h0) oP oR RI ah ah ?_
   refine lz ?_ fun j hj=>?_
   ·have l1:nl (A+B)<=i+1:=dL.2 (by rw[<-hsum];exact ga ho)
    have l2:¬nl (A+B)<=i:=by
     intro h
     rcases hi with hi|⟨hi,_,hi2⟩
     ·have:=iC (show A<=A+B by omega)
      have:=iC (show B<=A+B by omega)
      omega
     ·rw[dL]at h
      rw[show max (nl A) (nl B)=i by omega]at hi2
      omega
    omega
   ·rw[<-hsum,o5 ho hj];rfl
 refine ay.hole [0] ah (show ay P c0 f125.ntmps (part jj [0]) _ _ from aeS (fun s' h hv=>cL ?_) fun s' h1 h2 h3 hv=>qq (fK (cL (fin h1 h2 h3 hv))))
 show aI P c0 f125.ntmps [part jj [1]] s' _
 exact body h hv
def Ii:Spec:=nE (fun A B=>.mag (A+B)) Cl
theorem TT:bf P Ii 125:=pq fun h=>OV h.1 h.2
end Go.Am.B
