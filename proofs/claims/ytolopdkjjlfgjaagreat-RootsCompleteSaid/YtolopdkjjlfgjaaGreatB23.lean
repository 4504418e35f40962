/- ref01: Add, minus, Sub, Mul, byLimb. -/
import Derived.Test.YtolopdkjjlfgjaaGreatB22
set_option linter.unusedVariables false
namespace Go.Am.B
open Go Go.Am.N AV Proofs.Tryz IntKind
theorem S9:bu 146 f146:=bz func146
abbrev fm:List Nat:=[0,1,5,6,7]
abbrev x9 (A B c i:Nat):List AV:=[.mag A,.mag B,.own 7 1 0 i,.int .u64 c,.int .i64 i]
abbrev pC (i:Nat) (o:Nat->Nat):aD:=[(7,⟨true,true,1,i,az o⟩)]
noncomputable abbrev jL:Code:=part (aG f146) [1,1,1,0,1,0,0]
theorem Po {A B:Nat}:aH T fJ [] 60 fm (before (aG f146) [1,1,1,0,1]) ⟨aV 0 [.mag A,.mag B],[],0⟩=
  some (af.leaf ak.normal ([mag A,mag B,nil,int .u64 (0:Int),int .i64 (0:Int)],[])):=ag
theorem ad0 {A B c:Nat}:aH T fJ [12,18,21] 60 fm [part jL [0]] ⟨aE fm [.mag A,.mag B,.nil,.int .u64 c,.int .i64 0],[],8⟩=
  let c3:Bool:=bif false then true else decide ((0:Int)<(↑(nl B):Int));let c2:Bool:=decide ((0:Int)<(↑(nl A):Int));let c1:List AV×aD:=([mag A,mag B,nil,int .u64 (↑c:Int),int .i64 (0:Int)],[]);let c5:af (List AV×aD):=af.fork true (af.leaf ak.normal c1) (af.leaf (ak.exit 0) c1);let c4:af (List AV×aD):=af.fork (bif false then true else(↑c:Int)!=0) (af.leaf ak.normal c1) (af.leaf (ak.exit 0) c1);some (af.fork c2 (af.fork true (af.aj [c2=true,true=true] c5) (af.aj [c2=true,true=false] c4)) (af.fork c3 (af.aj [c2=false,c3=true] c5) (af.aj [c2=false,c3=false] c4))):=ag
theorem WT {A B c i:Nat} {o:Nat->Nat}:aH T fJ [12,18,21] 60 fm [part jL [0]] ⟨aE fm (x9 A B c i),pC i o,8⟩=
  let c6:Int:=(↑i:Int);let c3:Bool:=bif false then true else decide (c6<(↑(nl B):Int));let c2:Bool:=decide (c6<(↑(nl A):Int));let c1:List AV×aD:=([mag A,mag B,own 7 1 0 i,int .u64 (↑c:Int),int .i64 c6],[(7,ay.mk true true 1 i fun a=>int .u32 (↑(o a):Int))]);let c5:af (List AV×aD):=af.fork true (af.leaf ak.normal c1) (af.leaf (ak.exit 0) c1);let c4:af (List AV×aD):=af.fork (bif false then true else(↑c:Int)!=0) (af.leaf ak.normal c1) (af.leaf (ak.exit 0) c1);some (af.fork c2 (af.fork true (af.aj [c2=true,true=true] c5) (af.aj [c2=true,true=false] c4)) (af.fork c3 (af.aj [c2=false,c3=true] c5) (af.aj [c2=false,c3=false] c4))):=ag
theorem SM {A B c:Nat}:aH T fJ [27,38] 60 fm (before (part jL [1,0,0]) [1,1]) ⟨aE fm [.mag A,.mag B,.nil,.int .u64 c,.int .i64 0],[],8⟩=
  let c5:Prop:=(0:Int)<=0;let c4:Int:=(↑(nl B):Int);let c2:List AV:=[int .i64 (0:Int)];let c1:Nat:=Int.toNat (0:Int);let c6:Int:=u64.wrap (↑(aB B c1):Int);let c3:Int:=u64.wrap ((↑c:Int)+u64.wrap (↑(aB A c1):Int));some (af.fork (decide ((0:Int)<(↑(nl A):Int))) (af.aj [c5/\c1<nl A] (af.fork (decide ((0:Int)<c4)) (af.aj [c5/\c1<nl B] (af.leaf ak.normal (mag A::mag B::nil::int .u64 (u64.wrap (c3+c6))::c2,[]))) (af.leaf ak.normal (mag A::mag B::nil::int .u64 c3::c2,[])))) (af.fork (decide ((0:Int)<c4)) (af.aj [c5/\c1<nl B] (af.leaf ak.normal (mag A::mag B::nil::int .u64 (u64.wrap ((↑c:Int)+c6))::c2,[]))) (af.leaf ak.normal (mag A::mag B::nil::int .u64 (↑c:Int)::c2,[])))):=ag
theorem Zm {A B c i:Nat} {o:Nat->Nat}:aH T fJ [27,38] 60 fm (before (part jL [1,0,0]) [1,1]) ⟨aE fm (x9 A B c i),pC i o,8⟩=
  let c7:Int:=(↑(nl B):Int);let c3:AV:=own 7 1 0 i;let c2:Int:=(↑i:Int);let c1:Nat×ay:=(7,ay.mk true true 1 i fun a=>int .u32 (↑(o a):Int));let c8:Prop:=(0:Int)<=c2/\c2.toNat<nl B;let c6:Int:=u64.wrap (↑(aB B c2.toNat):Int);let c5:List AV:=[int .i64 c2];let c4:Int:=u64.wrap ((↑c:Int)+u64.wrap (↑(aB A c2.toNat):Int));some (af.fork (decide (c2<(↑(nl A):Int))) (af.aj [(0:Int)<=c2/\c2.toNat<nl A] (af.fork (decide (c2<c7)) (af.aj [c8] (af.leaf ak.normal (mag A::mag B::c3::int .u64 (u64.wrap (c4+c6))::c5,[c1]))) (af.leaf ak.normal (mag A::mag B::c3::int .u64 c4::c5,[c1])))) (af.fork (decide (c2<c7)) (af.aj [c8] (af.leaf ak.normal (mag A::mag B::c3::int .u64 (u64.wrap ((↑c:Int)+c6))::c5,[c1]))) (af.leaf ak.normal (mag A::mag B::c3::int .u64 (↑c:Int)::c5,[c1])))):=ag
theorem Uf {A B c:Nat}:aH T fJ [] 60 fm [part (part jL [1,0,0]) [1,1]] ⟨aE fm [.mag A,.mag B,.nil,.int .u64 c,.int .i64 0],[],8⟩=
  some (af.aj [(1:Nat)*1<=2^24,(0:Nat)<1/\1*((4:Nat)+1)*2<=2^47] (af.aj [(0:Int)<=32] (af.leaf ak.normal ([mag A,mag B,own 16392 1 0 1,int .u64 ((↑c:Int).fdiv ((2:Int)^min (Int.toNat (32:Int)) u64.bits)),int .i64 (0:Int)],[(16392,ay.mk true true 1 1 fun i=>nth [int .u32 (u32.wrap (↑c:Int))] (int .u32 (0:Int)) (i+0))])))):=ag
theorem aa8 {A B c i:Nat} {o:Nat->Nat}:aH T fJ [] 60 fm [part (part jL [1,0,0]) [1,1]] ⟨aE fm (x9 A B c i),pC i o,8⟩=
  some (af.aj [(1:Nat)*1<=2^24,(i+1)*((4:Nat)+1)*2<=2^47] (af.aj [(0:Int)<=32] (af.leaf ak.normal ([mag A,mag B,own 16392 1 0 (i+1),int .u64 ((↑c:Int).fdiv ((2:Int)^min (Int.toNat (32:Int)) u64.bits)),int .i64 (↑i:Int)],[(16392,ay.mk true true 1 (i+1) fun i_1=>if i_1<i then az o i_1 else nth [int .u32 (u32.wrap (↑c:Int))] (int .u32 (0:Int)) (i_1-i+0))])))):=ag
theorem aew {A B c i j:Nat} {o:Nat->Nat}:aH T fJ [] 60 fm [part jL [1,1]] ⟨aE fm [.mag A,.mag B,.own 7 1 0 i,.int .u64 c,.int .i64 j],pC i o,8⟩=
  some (af.leaf ak.normal ([mag A,mag B,own 7 1 0 i,int .u64 (↑c:Int),int .i64 (i64.wrap ((↑j:Int)+1))],[(7,ay.mk true true 1 i fun a=>int .u32 (↑(o a):Int))])):=ag
theorem XX {A B c:Nat}:dA T fJ [] 60 f146 (behind (aG f146) [1,1,1,0,1]) ⟨aE fm [.mag A,.mag B,.nil,.int .u64 c,.int .i64 0],[],8⟩=
  some (af.leaf ak.ret [nil]):=ag
theorem acU {A B c i:Nat} {o:Nat->Nat}:dA T fJ [] 60 f146 (behind (aG f146) [1,1,1,0,1]) ⟨aE fm (x9 A B c i),pC i o,8⟩=
  some (af.leaf ak.ret [aq 1 i fun i=>int .u32 (↑(o (i+0)):Int)]):=ag
theorem jP {A i:Nat} (h:nl A<=i):aB A i=0:=by
 unfold aB
 rw[Nat.div_eq_of_lt (ec.1 h)]
def m9 (A B c:Nat):Nat->List AV
 |0=>[.mag A,.mag B,.nil,.int .u64 c,.int .i64 0]
 |i+1=>x9 A B c (i+1)
def mQ (o:Nat->Nat):Nat->aD
 |0=>[]
 |i+1=>pC (i+1) o
theorem pZ {A B c i:Nat}:lP 8 (m9 A B c i)=true:=by cases i<;>rfl
theorem pM {o:Nat->Nat} {i:Nat}:jm 8 (mQ o i):=by
 cases i
 ·trivial
 ·exact⟨⟨aa,fun _ _=>rfl⟩,trivial⟩
section fadd
variable {c0:Ctx} (h0:c0.k0=br) {A B:Nat} {Q:ak->aI->Prop}
include h0 in
theorem Tf {c i:Nat} {o:Nat->Nat} {s':aI} (hc:c<=1) (hv:bh fm s'=some (m9 A B c i,mQ o i))
  (fin:∀s',bh fm s'=some (m9 A B (c+aB A i+aB B i) i,mQ o i)->Q .normal s'):aF P c0 f146.ntmps (before (part jL [1,0,0]) [1,1]) s' Q:=by
 have la:=eA (N:=A) (i:=i)
 have lb:=eA (N:=B) (i:=i)
 have wa:u64.wrap (aB A i:Int)=((aB A i:Nat):Int):=cy aa aa
 have wb:u64.wrap (aB B i:Int)=((aB B i:Nat):Int):=cy aa aa
 have w1:u64.wrap ((c:Int)+((aB A i:Nat):Int))=((c+aB A i:Nat):Int):=by rw[cy aa aa];omega
 have w2:u64.wrap ((c:Int)+((aB B i:Nat):Int))=((c+aB B i:Nat):Int):=by rw[cy aa aa];omega
 have w3:u64.wrap (((c+aB A i:Nat):Int)+((aB B i:Nat):Int))=((c+aB A i+aB B i:Nat):Int):=by rw[cy aa aa];omega
 cases i with
 |zero=>
  refine aF.fT hT fR hm 60 hv (kg h0) pZ pM fm SM ag ag ?_
  simp only[af.all,aA,bK,bO,Int.toNat_zero]
  rw[wa,wb,w1,w2,w3]
  refine⟨fun h1=>⟨aa,fun h2=>⟨aa,fun s' hv=>fin s' hv⟩,fun h2 s' hv=>fin s' (eH hv ?_ rfl)⟩,fun h1=>⟨fun h2=>⟨aa,fun s' hv=>fin s' (eH hv ?_ rfl)⟩,fun h2 s' hv=>fin s' (eH hv ?_ rfl)⟩⟩
  ·rw[jP (A:=B) aa];rfl
  ·rw[jP (A:=A) aa];rfl
  ·rw[jP (A:=A) aa,jP (A:=B) aa];rfl
 |succ i=>
  refine aF.fT hT fR hm 60 hv (kg h0) pZ pM fm Zm ag ag ?_
  simp only[af.all,aA,bK,bO,bE]
  rw[wa,wb,w1,w2,w3]
  refine⟨fun h1=>⟨aa,fun h2=>⟨aa,fun s' hv=>fin s' hv⟩,fun h2 s' hv=>fin s' (eH hv ?_ rfl)⟩,fun h1=>⟨fun h2=>⟨aa,fun s' hv=>fin s' (eH hv ?_ rfl)⟩,fun h2 s' hv=>fin s' (eH hv ?_ rfl)⟩⟩
  ·rw[jP (A:=B) aa];rfl
  ·rw[jP (A:=A) aa];rfl
  ·rw[jP (A:=A) aa,jP (A:=B) aa];rfl
include h0 in
theorem ac5 {c i:Nat} {o:Nat->Nat} {s':aI} (hi:i<2^41) (hv:bh fm s'=some (m9 A B c i,mQ o i))
  (fin:∀s',(∃ρ,Le c0 ρ s' ⟨aE fm [.mag A,.mag B,.own 7 1 0 (i+1),.int .u64 (c/4294967296:Nat),.int .i64 i],pC (i+1) (cH o i (c%4294967296)),8⟩)->Q .normal s'):au P c0 f146.ntmps (part (part jL [1,0,0]) [1,1]) s' Q:=by
 have hd:(c:Int).fdiv (2^min (Int.toNat 32) u64.bits)=((c/4294967296:Nat):Int):=by rw[me];omega
 cases i with
 |zero=>
  refine au.fT hT fR hm 60 hv (kg h0) pZ pM fm Uf ag ?_
  rw[hd]
  simp only[af.all,aA]
  refine⟨⟨aa,aa,aa⟩,aa,fun s' hv=>fin s' ?_⟩
  refine dZ (vs:=[.mag A,.mag B,.own 7 1 0 1,.int .u64 (c/4294967296:Nat),.int .i64 0]) (ps:=pC 1 (cH o 0 (c%4294967296))) (nx:=8) [(7,16392)] hv h0 rfl ⟨aO,aO,⟨rfl,en rfl rfl rfl⟩,aO,aO,trivial⟩
   ⟨⟨_,_,rfl,rfl,gq rfl fun j hj=>?_⟩,trivial⟩
  have:j=0:=aa
  subst this
  simp[nth,az,kE,ki]
 |succ i=>
  refine au.fT hT fR hm 60 hv (kg h0) pZ pM fm aa8 ag ?_
  rw[hd]
  simp only[af.all,aA]
  refine⟨⟨aa,aa⟩,aa,fun s' hv=>fin s' ?_⟩
  refine dZ (vs:=[.mag A,.mag B,.own 7 1 0 (i+1+1),.int .u64 (c/4294967296:Nat),.int .i64 ((i+1:Nat):Int)]) (ps:=pC (i+1+1) (cH o (i+1) (c%4294967296))) (nx:=8) [(7,16392)] hv h0 rfl ⟨aO,aO,⟨rfl,en rfl rfl rfl⟩,aO,aO,trivial⟩
   ⟨⟨_,_,rfl,rfl,gq rfl fun j hj=>?_⟩,trivial⟩
  by_cases h:j<i+1
  ·rw[if_pos h];unfold az;rw[gC aa]
  ·have:j=i+1:=aa
   subst this
   simp[nth,az,kE,ki]
end fadd
theorem aeu {c i:Nat} {o:Nat->Nat} {c0:Ctx} {Q:ak->aI->Prop} {A B:Nat} (yes:∀s',(i<nl A\/i<nl B\/c≠0)->bh fm s'=some (m9 A B c i,mQ o i)->Q .normal s')
  (no:∀s',nl A<=i->nl B<=i->c=0->bh fm s'=some (m9 A B c i,mQ o i)->Q (.exit 0) s'):au P c0 f146.ntmps (part jL [0]) ⟨aE fm (m9 A B c i),mQ o i,8⟩ Q:=by
 cases i with
 |zero=>
  refine au.bJ hT fR hm 60 fm ad0 ag ?_
  refine⟨fun h=>⟨fun _=>⟨⟨h,rfl⟩,fun _ s' hv=>yes s' (.inl (by have:=of_decide_eq_true h;omega)) hv,fun hf=>by simp at hf⟩,fun hf=>by simp at hf⟩,
   fun h=>⟨fun h2=>⟨⟨h,h2⟩,fun _ s' hv=>yes s' (.inr (.inl (by have:=of_decide_eq_true (jg h2);omega))) hv,fun hf=>by simp at hf⟩,
    fun h2=>⟨⟨h,h2⟩,fun h3 s' hv=>yes s' (.inr (.inr ?_)) hv,fun h3 s' hv=>no s' ?_ ?_ ?_ hv⟩⟩⟩
  ·have:=jg h3
   simp at this;exact this
  ·have:=of_decide_eq_false h;omega
  ·have:=of_decide_eq_false (jg h2);omega
  ·have:=jg h3
   simp at this;exact this
 |succ i=>
  refine au.bJ hT fR hm 60 fm WT ag ?_
  refine⟨fun h=>⟨fun _=>⟨⟨h,rfl⟩,fun _ s' hv=>yes s' (.inl (by have:=of_decide_eq_true h;omega)) hv,fun hf=>by simp at hf⟩,fun hf=>by simp at hf⟩,
   fun h=>⟨fun h2=>⟨⟨h,h2⟩,fun _ s' hv=>yes s' (.inr (.inl (by have:=of_decide_eq_true (jg h2);omega))) hv,fun hf=>by simp at hf⟩,
    fun h2=>⟨⟨h,h2⟩,fun h3 s' hv=>yes s' (.inr (.inr ?_)) hv,fun h3 s' hv=>no s' ?_ ?_ ?_ hv⟩⟩⟩
  ·have:=jg h3
   simp at this;exact this
  ·have:=of_decide_eq_false h;omega
  ·have:=of_decide_eq_false (jg h2);omega
  ·have:=jg h3
   simp at this;exact this
theorem adO {A B:Nat} (hA:nl A<2^40) (hB:nl B<2^40) (K:Nat):aQ P 146 K [.mag A,.mag B] [] (aM (.mag (A+B)) []):=by
 refine kr hT S9 rfl bp rfl (fun _ c0 h0=>.down ?_) K []
 refine au.hole [1,1,1,0,1] ag (aF.bJ hT fR hm 60 fm Po ag fun s' hv=>cM ?_)
 refine au.jh (i:=0) (y:=jL) ag (fun p:Nat×Nat×(Nat->Nat)=>⟨aE fm (m9 A B p.2.1 p.1),mQ p.2.2 p.1,8⟩)
  (fun p=>(p.1<=max (nl A) (nl B)\/(p.1=max (nl A) (nl B)+1/\p.2.1=0/\2^(32*max (nl A) (nl B))<=A+B))/\p.2.1<=1/\(∀j,j<p.1->p.2.2 j<2^32)/\val p.1 p.2.2+p.2.1*2^(32*p.1)=val p.1 (aB A)+val p.1 (aB B))
  (fun p=>max (nl A) (nl B)+1-p.1) (0,0,fun _=>0) (qe hv (kg h0) pZ pM) ⟨by simp,by simp,fun j hj=>by simp only at hj;omega,by simp[val]⟩ ?_
 rintro⟨i,c,o⟩ ⟨hi,hc,ho,hval⟩
 simp only at hi hc ho hval
 have hAv:max (nl A) (nl B)<=i->val i (aB A)+val i (aB B)=A+B:=fun h=>by
  rw[qq (ec.1 aa),qq (ec.1 aa)]
 -- a round
 have body:∀{s':aI},(i<nl A\/i<nl B\/c≠0)->bh fm s'=some (m9 A B c i,mQ o i)->∀{QF:ak->aI->Prop},
   au P c0 f146.ntmps (part jL [1]) s' (fk (fun s'=>∃k:Nat×Nat×(Nat->Nat),(∃ρ,Le c0 ρ s' ⟨aE fm (m9 A B k.2.1 k.1),mQ k.2.2 k.1,8⟩)/\
    ((k.1<=max (nl A) (nl B)\/(k.1=max (nl A) (nl B)+1/\k.2.1=0/\2^(32*max (nl A) (nl B))<=A+B))/\k.2.1<=1/\(∀j,j<k.1->k.2.2 j<2^32)/\val k.1 k.2.2+k.2.1*2^(32*k.1)=val k.1 (aB A)+val k.1 (aB B))/\
    max (nl A) (nl B)+1-k.1<max (nl A) (nl B)+1-i) QF):=by
  intro s' hcont hv QF
  have hi':i<=max (nl A) (nl B):=aa
  have la:=eA (N:=A) (i:=i)
  have lb:=eA (N:=B) (i:=i)
  refine au.hole [0] ag ?_
  show au P c0 f146.ntmps (part jL [1,0]) s' _
  refine au.qh (i:=1) (y:=part jL [1,0,0]) ag ?_
  refine au.hole [1,1] ag (Tf h0 hc hv fun s' hv=>cM (ac5 h0 aa hv fun s' hle=>cM ?_))
  show aF P c0 f146.ntmps [part jL [1,1]] s' _
  refine aF.weak rfl hle (aF.bJ hT fR hm 60 fm aew ag fun s' hv=>cM ?_)
  have hs:=EJ (B:=2^(32*i)) (c:=c) (z:=aB A i) (y:=aB B i) rfl hval
  refine⟨(i+1,(c+aB A i+aB B i)/4294967296,cH o i ((c+aB A i+aB B i)%4294967296)),qe (eH hv ?_ rfl) (kg h0) pZ pM,⟨?_,by simp only;omega,fun j hj=>?_,?_⟩,by simp only;omega⟩
  ·rw[fD (a:=(i:Int)+1) (n:=i+1) aa aa];rfl
  ·simp only
   by_cases h:i<max (nl A) (nl B)
   ·exact .inl aa
   ·have e:i=max (nl A) (nl B):=aa
    have lA:=jP (A:=A) (i:=i) aa
    have lB:=jP (A:=B) (i:=i) aa
    refine .inr ⟨aa,by rw[lA,lB];omega,?_⟩
    rw[hAv aa]at hval
    have hc1:c=1:=aa
    rw[hc1,Nat.one_mul,e]at hval
    omega
  ·simp only at hj ⊢
   unfold cH
   split
   ·omega
   ·exact ho j aa
  ·simp only
   rw[r6,val,val,iX]
   omega
 -- the end
 have fin:∀{s':aI},nl A<=i->nl B<=i->c=0->bh fm s'=some (m9 A B c i,mQ o i)->aF P c0 f146.ntmps (behind (aG f146) [1,1,1,0,1]) s' (gi c0 (Fin T f146 (.mag (A+B)))):=by
  intro s' h1 h2 h3 hv
  have hsum:val i o=A+B:=by rw[hAv aa,h3]at hval;omega
  cases i with
  |zero=>
   have:A+B=0:=by rw[<-hsum];rfl
   refine aF.kJ hT fR hm 60 hv (kg h0) pZ pM XX ag ag ?_
   rw[this]
   exact lF
  |succ i=>
   refine aF.kJ hT fR hm 60 hv (kg h0) pZ pM acU ag ag ?_
   refine kK ?_ fun j hj=>?_
   ·have l1:nl (A+B)<=i+1:=ec.2 (by rw[<-hsum];exact gH ho)
    have l2:¬nl (A+B)<=i:=by
     intro h
     rcases hi with hi|⟨hi,_,hi2⟩
     ·have:=iS (show A<=A+B by omega)
      have:=iS (show B<=A+B by omega)
      omega
     ·rw[ec]at h
      rw[show max (nl A) (nl B)=i by omega]at hi2
      omega
    omega
   ·rw[<-hsum,qa ho hj];rfl
 refine au.hole [0] ag (show au P c0 f146.ntmps (part jL [0]) _ _ from aeu (fun s' h hv=>cM ?_) fun s' h1 h2 h3 hv=>sj (fW (cM (fin h1 h2 h3 hv))))
 show aF P c0 f146.ntmps [part jL [1]] s' _
 exact body h hv
def Nb:Spec:=nL (fun A B=>.mag (A+B)) DS
theorem YM:bA P Nb 146:=qy fun h=>adO h.1 h.2
end Go.Am.B
