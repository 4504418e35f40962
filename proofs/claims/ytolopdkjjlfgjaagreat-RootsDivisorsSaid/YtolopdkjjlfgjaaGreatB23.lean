/- ref01: Add, minus, Sub, Mul, byLimb. -/
import Derived.Test.YtolopdkjjlfgjaaGreatB22
set_option linter.unusedVariables false
namespace Go.Am.B
open Go Go.Am.N AV Proofs.Tryz IntKind
theorem Up:aX 146 f146:=aY func146
abbrev eV:List Nat:=[0,1,5,6,7]
abbrev xm (A B c i:Nat):List AV:=[.mag A,.mag B,.own 7 1 0 i,.int .u64 c,.int .i64 i]
abbrev nv (i:Nat) (o:Nat->Nat):aE:=[(7,⟨true,true,1,i,aA o⟩)]
noncomputable abbrev jk:Code:=part (aG f146) [1,1,1,0,1,0,0]
theorem abP {A B:Nat}:aH T fA [] 60 eV (before (aG f146) [1,1,1,0,1]) ⟨aS 0 [.mag A,.mag B],[],0⟩=
  some (af.leaf aq.normal ([mag A,mag B,nil,int .u64 (0:Int),int .i64 (0:Int)],[])):=ag
theorem aem {A B c:Nat}:aH T fA [12,18,21] 60 eV [part jk [0]] ⟨aD eV [.mag A,.mag B,.nil,.int .u64 c,.int .i64 0],[],8⟩=
  let c3:Bool:=bif false then true else decide ((0:Int)<(↑(nl B):Int));let c2:Bool:=decide ((0:Int)<(↑(nl A):Int));let c1:List AV×aE:=([mag A,mag B,nil,int .u64 (↑c:Int),int .i64 (0:Int)],[]);let c5:af (List AV×aE):=af.fork true (af.leaf aq.normal c1) (af.leaf (aq.exit 0) c1);let c4:af (List AV×aE):=af.fork (bif false then true else(↑c:Int)!=0) (af.leaf aq.normal c1) (af.leaf (aq.exit 0) c1);some (af.fork c2 (af.fork true (af.aj [c2=true,true=true] c5) (af.aj [c2=true,true=false] c4)) (af.fork c3 (af.aj [c2=false,c3=true] c5) (af.aj [c2=false,c3=false] c4))):=ag
theorem XZ {A B c i:Nat} {o:Nat->Nat}:aH T fA [12,18,21] 60 eV [part jk [0]] ⟨aD eV (xm A B c i),nv i o,8⟩=
  let c6:Int:=(↑i:Int);let c3:Bool:=bif false then true else decide (c6<(↑(nl B):Int));let c2:Bool:=decide (c6<(↑(nl A):Int));let c1:List AV×aE:=([mag A,mag B,own 7 1 0 i,int .u64 (↑c:Int),int .i64 c6],[(7,ay.mk true true 1 i fun a=>int .u32 (↑(o a):Int))]);let c5:af (List AV×aE):=af.fork true (af.leaf aq.normal c1) (af.leaf (aq.exit 0) c1);let c4:af (List AV×aE):=af.fork (bif false then true else(↑c:Int)!=0) (af.leaf aq.normal c1) (af.leaf (aq.exit 0) c1);some (af.fork c2 (af.fork true (af.aj [c2=true,true=true] c5) (af.aj [c2=true,true=false] c4)) (af.fork c3 (af.aj [c2=false,c3=true] c5) (af.aj [c2=false,c3=false] c4))):=ag
theorem adu {A B c:Nat}:aH T fA [27,38] 60 eV (before (part jk [1,0,0]) [1,1]) ⟨aD eV [.mag A,.mag B,.nil,.int .u64 c,.int .i64 0],[],8⟩=
  let c5:Prop:=(0:Int)<=0;let c4:Int:=(↑(nl B):Int);let c2:List AV:=[int .i64 (0:Int)];let c1:Nat:=Int.toNat (0:Int);let c6:Int:=u64.wrap (↑(aB B c1):Int);let c3:Int:=u64.wrap ((↑c:Int)+u64.wrap (↑(aB A c1):Int));some (af.fork (decide ((0:Int)<(↑(nl A):Int))) (af.aj [c5/\c1<nl A] (af.fork (decide ((0:Int)<c4)) (af.aj [c5/\c1<nl B] (af.leaf aq.normal (mag A::mag B::nil::int .u64 (u64.wrap (c3+c6))::c2,[]))) (af.leaf aq.normal (mag A::mag B::nil::int .u64 c3::c2,[])))) (af.fork (decide ((0:Int)<c4)) (af.aj [c5/\c1<nl B] (af.leaf aq.normal (mag A::mag B::nil::int .u64 (u64.wrap ((↑c:Int)+c6))::c2,[]))) (af.leaf aq.normal (mag A::mag B::nil::int .u64 (↑c:Int)::c2,[])))):=ag
theorem Ra {A B c i:Nat} {o:Nat->Nat}:aH T fA [27,38] 60 eV (before (part jk [1,0,0]) [1,1]) ⟨aD eV (xm A B c i),nv i o,8⟩=
  let c7:Int:=(↑(nl B):Int);let c3:AV:=own 7 1 0 i;let c2:Int:=(↑i:Int);let c1:Nat×ay:=(7,ay.mk true true 1 i fun a=>int .u32 (↑(o a):Int));let c8:Prop:=(0:Int)<=c2/\c2.toNat<nl B;let c6:Int:=u64.wrap (↑(aB B c2.toNat):Int);let c5:List AV:=[int .i64 c2];let c4:Int:=u64.wrap ((↑c:Int)+u64.wrap (↑(aB A c2.toNat):Int));some (af.fork (decide (c2<(↑(nl A):Int))) (af.aj [(0:Int)<=c2/\c2.toNat<nl A] (af.fork (decide (c2<c7)) (af.aj [c8] (af.leaf aq.normal (mag A::mag B::c3::int .u64 (u64.wrap (c4+c6))::c5,[c1]))) (af.leaf aq.normal (mag A::mag B::c3::int .u64 c4::c5,[c1])))) (af.fork (decide (c2<c7)) (af.aj [c8] (af.leaf aq.normal (mag A::mag B::c3::int .u64 (u64.wrap ((↑c:Int)+c6))::c5,[c1]))) (af.leaf aq.normal (mag A::mag B::c3::int .u64 (↑c:Int)::c5,[c1])))):=ag
theorem Oz {A B c:Nat}:aH T fA [] 60 eV [part (part jk [1,0,0]) [1,1]] ⟨aD eV [.mag A,.mag B,.nil,.int .u64 c,.int .i64 0],[],8⟩=
  some (af.aj [(1:Nat)*1<=2^24,(0:Nat)<1/\1*((4:Nat)+1)*2<=2^47] (af.aj [(0:Int)<=32] (af.leaf aq.normal ([mag A,mag B,own 16392 1 0 1,int .u64 ((↑c:Int).fdiv ((2:Int)^min (Int.toNat (32:Int)) u64.bits)),int .i64 (0:Int)],[(16392,ay.mk true true 1 1 fun i=>nth [int .u32 (u32.wrap (↑c:Int))] (int .u32 (0:Int)) (i+0))])))):=ag
theorem ael {A B c i:Nat} {o:Nat->Nat}:aH T fA [] 60 eV [part (part jk [1,0,0]) [1,1]] ⟨aD eV (xm A B c i),nv i o,8⟩=
  some (af.aj [(1:Nat)*1<=2^24,(i+1)*((4:Nat)+1)*2<=2^47] (af.aj [(0:Int)<=32] (af.leaf aq.normal ([mag A,mag B,own 16392 1 0 (i+1),int .u64 ((↑c:Int).fdiv ((2:Int)^min (Int.toNat (32:Int)) u64.bits)),int .i64 (↑i:Int)],[(16392,ay.mk true true 1 (i+1) fun i_1=>if i_1<i then aA o i_1 else nth [int .u32 (u32.wrap (↑c:Int))] (int .u32 (0:Int)) (i_1-i+0))])))):=ag
theorem P3 {A B c i j:Nat} {o:Nat->Nat}:aH T fA [] 60 eV [part jk [1,1]] ⟨aD eV [.mag A,.mag B,.own 7 1 0 i,.int .u64 c,.int .i64 j],nv i o,8⟩=
  some (af.leaf aq.normal ([mag A,mag B,own 7 1 0 i,int .u64 (↑c:Int),int .i64 (i64.wrap ((↑j:Int)+1))],[(7,ay.mk true true 1 i fun a=>int .u32 (↑(o a):Int))])):=ag
theorem Ny {A B c:Nat}:cN T fA [] 60 f146 (behind (aG f146) [1,1,1,0,1]) ⟨aD eV [.mag A,.mag B,.nil,.int .u64 c,.int .i64 0],[],8⟩=
  some (af.leaf aq.ret [nil]):=ag
theorem Qn {A B c i:Nat} {o:Nat->Nat}:cN T fA [] 60 f146 (behind (aG f146) [1,1,1,0,1]) ⟨aD eV (xm A B c i),nv i o,8⟩=
  some (af.leaf aq.ret [ak 1 i fun i=>int .u32 (↑(o (i+0)):Int)]):=ag
theorem jB {A i:Nat} (h:nl A<=i):aB A i=0:=by
 unfold aB
 rw[Nat.div_eq_of_lt (dB.1 h)]
def lT (A B c:Nat):Nat->List AV
 |0=>[.mag A,.mag B,.nil,.int .u64 c,.int .i64 0]
 |i+1=>xm A B c (i+1)
def lV (o:Nat->Nat):Nat->aE
 |0=>[]
 |i+1=>nv (i+1) o
theorem pO {A B c i:Nat}:kZ 8 (lT A B c i)=true:=by cases i<;>rfl
theorem oR {o:Nat->Nat} {i:Nat}:iZ 8 (lV o i):=by
 cases i
 ·trivial
 ·exact⟨⟨aa,fun _ _=>rfl⟩,trivial⟩
section fadd
variable {c0:Ctx} (h0:c0.k0=bt) {A B:Nat} {Q:aq->aI->Prop}
include h0 in
theorem Pb {c i:Nat} {o:Nat->Nat} {s':aI} (hc:c<=1) (hv:bk eV s'=some (lT A B c i,lV o i))
  (fin:∀s',bk eV s'=some (lT A B (c+aB A i+aB B i) i,lV o i)->Q .normal s'):aF P c0 f146.ntmps (before (part jk [1,0,0]) [1,1]) s' Q:=by
 have la:=dS (N:=A) (i:=i)
 have lb:=dS (N:=B) (i:=i)
 have wa:u64.wrap (aB A i:Int)=((aB A i:Nat):Int):=cj aa aa
 have wb:u64.wrap (aB B i:Int)=((aB B i:Nat):Int):=cj aa aa
 have w1:u64.wrap ((c:Int)+((aB A i:Nat):Int))=((c+aB A i:Nat):Int):=by rw[cj aa aa];omega
 have w2:u64.wrap ((c:Int)+((aB B i:Nat):Int))=((c+aB B i:Nat):Int):=by rw[cj aa aa];omega
 have w3:u64.wrap (((c+aB A i:Nat):Int)+((aB B i:Nat):Int))=((c+aB A i+aB B i:Nat):Int):=by rw[cj aa aa];omega
 cases i with
 |zero=>
  refine aF.fE hT fC hm 60 hv (jJ h0) pO oR eV adu ag ag ?_
  simp only[af.all,az,bz,bE,Int.toNat_zero]
  rw[wa,wb,w1,w2,w3]
  refine⟨fun h1=>⟨aa,fun h2=>⟨aa,fun s' hv=>fin s' hv⟩,fun h2 s' hv=>fin s' (ef hv ?_ rfl)⟩,fun h1=>⟨fun h2=>⟨aa,fun s' hv=>fin s' (ef hv ?_ rfl)⟩,fun h2 s' hv=>fin s' (ef hv ?_ rfl)⟩⟩
  ·rw[jB (A:=B) aa];rfl
  ·rw[jB (A:=A) aa];rfl
  ·rw[jB (A:=A) aa,jB (A:=B) aa];rfl
 |succ i=>
  refine aF.fE hT fC hm 60 hv (jJ h0) pO oR eV Ra ag ag ?_
  simp only[af.all,az,bz,bE,bu]
  rw[wa,wb,w1,w2,w3]
  refine⟨fun h1=>⟨aa,fun h2=>⟨aa,fun s' hv=>fin s' hv⟩,fun h2 s' hv=>fin s' (ef hv ?_ rfl)⟩,fun h1=>⟨fun h2=>⟨aa,fun s' hv=>fin s' (ef hv ?_ rfl)⟩,fun h2 s' hv=>fin s' (ef hv ?_ rfl)⟩⟩
  ·rw[jB (A:=B) aa];rfl
  ·rw[jB (A:=A) aa];rfl
  ·rw[jB (A:=A) aa,jB (A:=B) aa];rfl
include h0 in
theorem QM {c i:Nat} {o:Nat->Nat} {s':aI} (hi:i<2^41) (hv:bk eV s'=some (lT A B c i,lV o i))
  (fin:∀s',(∃ρ,Le c0 ρ s' ⟨aD eV [.mag A,.mag B,.own 7 1 0 (i+1),.int .u64 (c/4294967296:Nat),.int .i64 i],nv (i+1) (cy o i (c%4294967296)),8⟩)->Q .normal s'):au P c0 f146.ntmps (part (part jk [1,0,0]) [1,1]) s' Q:=by
 have hd:(c:Int).fdiv (2^min (Int.toNat 32) u64.bits)=((c/4294967296:Nat):Int):=by rw[lP];omega
 cases i with
 |zero=>
  refine au.fE hT fC hm 60 hv (jJ h0) pO oR eV Oz ag ?_
  rw[hd]
  simp only[af.all,az]
  refine⟨⟨aa,aa,aa⟩,aa,fun s' hv=>fin s' ?_⟩
  refine dD (vs:=[.mag A,.mag B,.own 7 1 0 1,.int .u64 (c/4294967296:Nat),.int .i64 0]) (ps:=nv 1 (cy o 0 (c%4294967296))) (nx:=8) [(7,16392)] hv h0 rfl ⟨aN,aN,⟨rfl,dK rfl rfl rfl⟩,aN,aN,trivial⟩
   ⟨⟨_,_,rfl,rfl,fS rfl fun j hj=>?_⟩,trivial⟩
  have:j=0:=aa
  subst this
  simp[nth,aA,j5,jX]
 |succ i=>
  refine au.fE hT fC hm 60 hv (jJ h0) pO oR eV ael ag ?_
  rw[hd]
  simp only[af.all,az]
  refine⟨⟨aa,aa⟩,aa,fun s' hv=>fin s' ?_⟩
  refine dD (vs:=[.mag A,.mag B,.own 7 1 0 (i+1+1),.int .u64 (c/4294967296:Nat),.int .i64 ((i+1:Nat):Int)]) (ps:=nv (i+1+1) (cy o (i+1) (c%4294967296))) (nx:=8) [(7,16392)] hv h0 rfl ⟨aN,aN,⟨rfl,dK rfl rfl rfl⟩,aN,aN,trivial⟩
   ⟨⟨_,_,rfl,rfl,fS rfl fun j hj=>?_⟩,trivial⟩
  by_cases h:j<i+1
  ·rw[if_pos h];unfold aA;rw[fT aa]
  ·have:j=i+1:=aa
   subst this
   simp[nth,aA,j5,jX]
end fadd
theorem RI {c i:Nat} {o:Nat->Nat} {c0:Ctx} {Q:aq->aI->Prop} {A B:Nat} (yes:∀s',(i<nl A\/i<nl B\/c≠0)->bk eV s'=some (lT A B c i,lV o i)->Q .normal s')
  (no:∀s',nl A<=i->nl B<=i->c=0->bk eV s'=some (lT A B c i,lV o i)->Q (.exit 0) s'):au P c0 f146.ntmps (part jk [0]) ⟨aD eV (lT A B c i),lV o i,8⟩ Q:=by
 cases i with
 |zero=>
  refine au.bF hT fC hm 60 eV aem ag ?_
  refine⟨fun h=>⟨fun _=>⟨⟨h,rfl⟩,fun _ s' hv=>yes s' (.inl (by have:=of_decide_eq_true h;omega)) hv,fun hf=>by simp at hf⟩,fun hf=>by simp at hf⟩,
   fun h=>⟨fun h2=>⟨⟨h,h2⟩,fun _ s' hv=>yes s' (.inr (.inl (by have:=of_decide_eq_true (iK h2);omega))) hv,fun hf=>by simp at hf⟩,
    fun h2=>⟨⟨h,h2⟩,fun h3 s' hv=>yes s' (.inr (.inr ?_)) hv,fun h3 s' hv=>no s' ?_ ?_ ?_ hv⟩⟩⟩
  ·have:=iK h3
   simp at this;exact this
  ·have:=of_decide_eq_false h;omega
  ·have:=of_decide_eq_false (iK h2);omega
  ·have:=iK h3
   simp at this;exact this
 |succ i=>
  refine au.bF hT fC hm 60 eV XZ ag ?_
  refine⟨fun h=>⟨fun _=>⟨⟨h,rfl⟩,fun _ s' hv=>yes s' (.inl (by have:=of_decide_eq_true h;omega)) hv,fun hf=>by simp at hf⟩,fun hf=>by simp at hf⟩,
   fun h=>⟨fun h2=>⟨⟨h,h2⟩,fun _ s' hv=>yes s' (.inr (.inl (by have:=of_decide_eq_true (iK h2);omega))) hv,fun hf=>by simp at hf⟩,
    fun h2=>⟨⟨h,h2⟩,fun h3 s' hv=>yes s' (.inr (.inr ?_)) hv,fun h3 s' hv=>no s' ?_ ?_ ?_ hv⟩⟩⟩
  ·have:=iK h3
   simp at this;exact this
  ·have:=of_decide_eq_false h;omega
  ·have:=of_decide_eq_false (iK h2);omega
  ·have:=iK h3
   simp at this;exact this
theorem abK {A B:Nat} (hA:nl A<2^40) (hB:nl B<2^40) (K:Nat):aO P 146 K [.mag A,.mag B] [] (aJ (.mag (A+B)) []):=by
 refine jU hT Up rfl aW rfl (fun _ c0 h0=>.down ?_) K []
 refine au.hole [1,1,1,0,1] ag (aF.bF hT fC hm 60 eV abP ag fun s' hv=>cD ?_)
 refine au.iF (i:=0) (y:=jk) ag (fun p:Nat×Nat×(Nat->Nat)=>⟨aD eV (lT A B p.2.1 p.1),lV p.2.2 p.1,8⟩)
  (fun p=>(p.1<=max (nl A) (nl B)\/(p.1=max (nl A) (nl B)+1/\p.2.1=0/\2^(32*max (nl A) (nl B))<=A+B))/\p.2.1<=1/\(∀j,j<p.1->p.2.2 j<2^32)/\val p.1 p.2.2+p.2.1*2^(32*p.1)=val p.1 (aB A)+val p.1 (aB B))
  (fun p=>max (nl A) (nl B)+1-p.1) (0,0,fun _=>0) (oP hv (jJ h0) pO oR) ⟨by simp,by simp,fun j hj=>by simp only at hj;omega,by simp[val]⟩ ?_
 rintro⟨i,c,o⟩ ⟨hi,hc,ho,hval⟩
 simp only at hi hc ho hval
 have hAv:max (nl A) (nl B)<=i->val i (aB A)+val i (aB B)=A+B:=fun h=>by
  rw[pn (dB.1 aa),pn (dB.1 aa)]
 -- a round
 have body:∀{s':aI},(i<nl A\/i<nl B\/c≠0)->bk eV s'=some (lT A B c i,lV o i)->∀{QF:aq->aI->Prop},
   au P c0 f146.ntmps (part jk [1]) s' (eR (fun s'=>∃k:Nat×Nat×(Nat->Nat),(∃ρ,Le c0 ρ s' ⟨aD eV (lT A B k.2.1 k.1),lV k.2.2 k.1,8⟩)/\
    ((k.1<=max (nl A) (nl B)\/(k.1=max (nl A) (nl B)+1/\k.2.1=0/\2^(32*max (nl A) (nl B))<=A+B))/\k.2.1<=1/\(∀j,j<k.1->k.2.2 j<2^32)/\val k.1 k.2.2+k.2.1*2^(32*k.1)=val k.1 (aB A)+val k.1 (aB B))/\
    max (nl A) (nl B)+1-k.1<max (nl A) (nl B)+1-i) QF):=by
  intro s' hcont hv QF
  have hi':i<=max (nl A) (nl B):=aa
  have la:=dS (N:=A) (i:=i)
  have lb:=dS (N:=B) (i:=i)
  refine au.hole [0] ag ?_
  show au P c0 f146.ntmps (part jk [1,0]) s' _
  refine au.pF (i:=1) (y:=part jk [1,0,0]) ag ?_
  refine au.hole [1,1] ag (Pb h0 hc hv fun s' hv=>cD (QM h0 aa hv fun s' hle=>cD ?_))
  show aF P c0 f146.ntmps [part jk [1,1]] s' _
  refine aF.weak rfl hle (aF.bF hT fC hm 60 eV P3 ag fun s' hv=>cD ?_)
  have hs:=CZ (B:=2^(32*i)) (c:=c) (z:=aB A i) (y:=aB B i) rfl hval
  refine⟨(i+1,(c+aB A i+aB B i)/4294967296,cy o i ((c+aB A i+aB B i)%4294967296)),oP (ef hv ?_ rfl) (jJ h0) pO oR,⟨?_,by simp only;omega,fun j hj=>?_,?_⟩,by simp only;omega⟩
  ·rw[fk (a:=(i:Int)+1) (n:=i+1) aa aa];rfl
  ·simp only
   by_cases h:i<max (nl A) (nl B)
   ·exact .inl aa
   ·have e:i=max (nl A) (nl B):=aa
    have lA:=jB (A:=A) (i:=i) aa
    have lB:=jB (A:=B) (i:=i) aa
    refine .inr ⟨aa,by rw[lA,lB];omega,?_⟩
    rw[hAv aa]at hval
    have hc1:c=1:=aa
    rw[hc1,Nat.one_mul,e]at hval
    omega
  ·simp only at hj ⊢
   unfold cy
   split
   ·omega
   ·exact ho j aa
  ·simp only
   rw[p8,val,val,iC]
   omega
 -- the end
 have fin:∀{s':aI},nl A<=i->nl B<=i->c=0->bk eV s'=some (lT A B c i,lV o i)->aF P c0 f146.ntmps (behind (aG f146) [1,1,1,0,1]) s' (fM c0 (Fin T f146 (.mag (A+B)))):=by
  intro s' h1 h2 h3 hv
  have hsum:val i o=A+B:=by rw[hAv aa,h3]at hval;omega
  cases i with
  |zero=>
   have:A+B=0:=by rw[<-hsum];rfl
   refine aF.j7 hT fC hm 60 hv (jJ h0) pO oR Ny ag ag ?_
   rw[this]
   exact kT
  |succ i=>
   refine aF.j7 hT fC hm 60 hv (jJ h0) pO oR Qn ag ag ?_
   refine ku ?_ fun j hj=>?_
   ·have l1:nl (A+B)<=i+1:=dB.2 (by rw[<-hsum];exact fY ho)
    have l2:¬nl (A+B)<=i:=by
     intro h
     rcases hi with hi|⟨hi,_,hi2⟩
     ·have:=hH (show A<=A+B by omega)
      have:=hH (show B<=A+B by omega)
      omega
     ·rw[dB]at h
      rw[show max (nl A) (nl B)=i by omega]at hi2
      omega
    omega
   ·rw[<-hsum,oV ho hj];rfl
 refine au.hole [0] ag (show au P c0 f146.ntmps (part jk [0]) _ _ from RI (fun s' h hv=>cD ?_) fun s' h1 h2 h3 hv=>p5 (fL (cD (fin h1 h2 h3 hv))))
 show aF P c0 f146.ntmps [part jk [1]] s' _
 exact body h hv
def LN:Spec:=mZ (fun A B=>.mag (A+B)) BC
theorem acU:bf P LN 146:=pI fun h=>abK h.1 h.2
end Go.Am.B
