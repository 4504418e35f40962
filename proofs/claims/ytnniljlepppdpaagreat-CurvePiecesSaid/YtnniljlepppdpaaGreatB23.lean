/- ref01: Add, minus, Sub, Mul, byLimb. -/
import Derived.Test.YtnniljlepppdpaaGreatB22
set_option linter.unusedVariables false
namespace Go.Am.B
open Go Go.Am.N AV
theorem Yg:aU P CC ia (az ia):=aT Proofs.Tryz.func114 ah ah ah
abbrev ee:List Nat:=[0,1,5,6,7]
abbrev yJ (A B c i:Nat):List AV:=[.mag A,.mag B,.own 7 1 0 i,.int .u64 c,.int .i64 i]
abbrev od (i:Nat) (o:Nat->Nat):aE:=[(7,⟨true,true,1,i,aB o⟩)]
noncomputable abbrev iU:Code:=part (az ia) [1,1,1,0,1,0,0]
theorem aaK {A B:Nat}:aJ T eG [] 60 ee (before (az ia) [1,1,1,0,1]) ⟨aQ 0 [.mag A,.mag B],[],0⟩=
  some (ag.leaf ak.normal ([mag A,mag B,nil,int IntKind.u64 (0:Int),int IntKind.i64 (0:Int)],[])):=ah
theorem aaC {A B c:Nat}:aJ T eG [12,18,21] 60 ee [part iU [0]] ⟨aF ee [.mag A,.mag B,.nil,.int .u64 c,.int .i64 0],[],8⟩=
  let c3:Bool:=bif false then true else decide ((0:Int)<(↑(nl B):Int));let c2:Bool:=decide ((0:Int)<(↑(nl A):Int));let c1:List AV×aE:=([mag A,mag B,nil,int IntKind.u64 (↑c:Int),int IntKind.i64 (0:Int)],[]);let c5:ag (List AV×aE):=ag.fork true (ag.leaf ak.normal c1) (ag.leaf (ak.exit 0) c1);let c4:ag (List AV×aE):=ag.fork (bif false then true else(↑c:Int)!=(0:Int)) (ag.leaf ak.normal c1) (ag.leaf (ak.exit 0) c1);some (ag.fork c2 (ag.fork true (ag.aj [c2=true,true=true] c5) (ag.aj [c2=true,true=false] c4)) (ag.fork c3 (ag.aj [c2=false,c3=true] c5) (ag.aj [c2=false,c3=false] c4))):=ah
theorem afo {A B c i:Nat} {o:Nat->Nat}:aJ T eG [12,18,21] 60 ee [part iU [0]] ⟨aF ee (yJ A B c i),od i o,8⟩=
  let c6:Int:=(↑i:Int);let c3:Bool:=bif false then true else decide (c6<(↑(nl B):Int));let c2:Bool:=decide (c6<(↑(nl A):Int));let c1:List AV×aE:=([mag A,mag B,own 7 1 0 i,int IntKind.u64 (↑c:Int),int IntKind.i64 c6],[(7,ax.mk true true 1 i fun a=>int IntKind.u32 (↑(o a):Int))]);let c5:ag (List AV×aE):=ag.fork true (ag.leaf ak.normal c1) (ag.leaf (ak.exit 0) c1);let c4:ag (List AV×aE):=ag.fork (bif false then true else(↑c:Int)!=(0:Int)) (ag.leaf ak.normal c1) (ag.leaf (ak.exit 0) c1);some (ag.fork c2 (ag.fork true (ag.aj [c2=true,true=true] c5) (ag.aj [c2=true,true=false] c4)) (ag.fork c3 (ag.aj [c2=false,c3=true] c5) (ag.aj [c2=false,c3=false] c4))):=ah
theorem VV {A B c:Nat}:aJ T eG [27,38] 60 ee (before (part iU [1,0,0]) [1,1]) ⟨aF ee [.mag A,.mag B,.nil,.int .u64 c,.int .i64 0],[],8⟩=
  let c5:Prop:=(0:Int)<=(0:Int);let c4:Int:=(↑(nl B):Int);let c2:List AV:=[int IntKind.i64 (0:Int)];let c1:Nat:=Int.toNat (0:Int);let c6:Int:=IntKind.u64.wrap (↑(aC B c1):Int);let c3:Int:=IntKind.u64.wrap ((↑c:Int)+IntKind.u64.wrap (↑(aC A c1):Int));some (ag.fork (decide ((0:Int)<(↑(nl A):Int))) (ag.aj [c5/\c1<nl A] (ag.fork (decide ((0:Int)<c4)) (ag.aj [c5/\c1<nl B] (ag.leaf ak.normal (mag A::mag B::nil::int IntKind.u64 (IntKind.u64.wrap (c3+c6))::c2,[]))) (ag.leaf ak.normal (mag A::mag B::nil::int IntKind.u64 c3::c2,[])))) (ag.fork (decide ((0:Int)<c4)) (ag.aj [c5/\c1<nl B] (ag.leaf ak.normal (mag A::mag B::nil::int IntKind.u64 (IntKind.u64.wrap ((↑c:Int)+c6))::c2,[]))) (ag.leaf ak.normal (mag A::mag B::nil::int IntKind.u64 (↑c:Int)::c2,[])))):=ah
theorem aes {A B c i:Nat} {o:Nat->Nat}:aJ T eG [27,38] 60 ee (before (part iU [1,0,0]) [1,1]) ⟨aF ee (yJ A B c i),od i o,8⟩=
  let c7:Int:=(↑(nl B):Int);let c3:AV:=own 7 1 0 i;let c2:Int:=(↑i:Int);let c1:Nat×ax:=(7,ax.mk true true 1 i fun a=>int IntKind.u32 (↑(o a):Int));let c8:Prop:=(0:Int)<=c2/\c2.toNat<nl B;let c6:Int:=IntKind.u64.wrap (↑(aC B c2.toNat):Int);let c5:List AV:=[int IntKind.i64 c2];let c4:Int:=IntKind.u64.wrap ((↑c:Int)+IntKind.u64.wrap (↑(aC A c2.toNat):Int));some (ag.fork (decide (c2<(↑(nl A):Int))) (ag.aj [(0:Int)<=c2/\c2.toNat<nl A] (ag.fork (decide (c2<c7)) (ag.aj [c8] (ag.leaf ak.normal (mag A::mag B::c3::int IntKind.u64 (IntKind.u64.wrap (c4+c6))::c5,[c1]))) (ag.leaf ak.normal (mag A::mag B::c3::int IntKind.u64 c4::c5,[c1])))) (ag.fork (decide (c2<c7)) (ag.aj [c8] (ag.leaf ak.normal (mag A::mag B::c3::int IntKind.u64 (IntKind.u64.wrap ((↑c:Int)+c6))::c5,[c1]))) (ag.leaf ak.normal (mag A::mag B::c3::int IntKind.u64 (↑c:Int)::c5,[c1])))):=ah
theorem ah0 {A B c:Nat}:aJ T eG [] 60 ee [part (part iU [1,0,0]) [1,1]] ⟨aF ee [.mag A,.mag B,.nil,.int .u64 c,.int .i64 0],[],8⟩=
  some (ag.aj [(1:Nat)*1<=2^24,(0:Nat)<1/\1*((4:Nat)+1)*2<=2^47] (ag.aj [(0:Int)<=(32:Int)] (ag.leaf ak.normal ([mag A,mag B,own 16392 1 0 1,int IntKind.u64 ((↑c:Int).fdiv ((2:Int)^min (Int.toNat (32:Int)) IntKind.u64.bits)),int IntKind.i64 (0:Int)],[(16392,ax.mk true true 1 1 fun i=>nth [int IntKind.u32 (IntKind.u32.wrap (↑c:Int))] (int IntKind.u32 (0:Int)) (i+0))])))):=ah
theorem Uw {A B c i:Nat} {o:Nat->Nat}:aJ T eG [] 60 ee [part (part iU [1,0,0]) [1,1]] ⟨aF ee (yJ A B c i),od i o,8⟩=
  some (ag.aj [(1:Nat)*1<=2^24,(i+1)*((4:Nat)+1)*2<=2^47] (ag.aj [(0:Int)<=(32:Int)] (ag.leaf ak.normal ([mag A,mag B,own 16392 1 0 (i+1),int IntKind.u64 ((↑c:Int).fdiv ((2:Int)^min (Int.toNat (32:Int)) IntKind.u64.bits)),int IntKind.i64 (↑i:Int)],[(16392,ax.mk true true 1 (i+1) fun i_1=>if i_1<i then aB o i_1 else nth [int IntKind.u32 (IntKind.u32.wrap (↑c:Int))] (int IntKind.u32 (0:Int)) (i_1-i+0))])))):=ah
theorem ahM {A B c i j:Nat} {o:Nat->Nat}:aJ T eG [] 60 ee [part iU [1,1]] ⟨aF ee [.mag A,.mag B,.own 7 1 0 i,.int .u64 c,.int .i64 j],od i o,8⟩=
  some (ag.leaf ak.normal ([mag A,mag B,own 7 1 0 i,int IntKind.u64 (↑c:Int),int IntKind.i64 (IntKind.i64.wrap ((↑j:Int)+(1:Int)))],[(7,ax.mk true true 1 i fun a=>int IntKind.u32 (↑(o a):Int))])):=ah
theorem abq {A B c:Nat}:cJ T eG [] 60 ia (behind (az ia) [1,1,1,0,1]) ⟨aF ee [.mag A,.mag B,.nil,.int .u64 c,.int .i64 0],[],8⟩=
  some (ag.leaf ak.ret [nil]):=ah
theorem ai5 {A B c i:Nat} {o:Nat->Nat}:cJ T eG [] 60 ia (behind (az ia) [1,1,1,0,1]) ⟨aF ee (yJ A B c i),od i o,8⟩=
  some (ag.leaf ak.ret [aq 1 i fun i=>int IntKind.u32 (↑(o (i+0)):Int)]):=ah
theorem jt {A i:Nat} (h:nl A<=i):aC A i=0:=by
 unfold aC
 rw[Nat.div_eq_of_lt (dm.1 h)]
def mm (A B c:Nat):Nat->List AV
 |0=>[.mag A,.mag B,.nil,.int .u64 c,.int .i64 0]
 |i+1=>yJ A B c (i+1)
def lY (o:Nat->Nat):Nat->aE
 |0=>[]
 |i+1=>od (i+1) o
theorem pz {A B c i:Nat}:ju 8 (mm A B c i)=true:=by cases i<;>rfl
theorem pq {o:Nat->Nat} {i:Nat}:gG 8 (lY o i):=by
 cases i
 ·trivial
 ·exact⟨⟨aa,fun _ _=>rfl⟩,trivial⟩
section fadd
variable {c0:Ctx} (h0:c0.k0=br) {A B:Nat} {Q:ak->aH->Prop}
include h0 in
theorem ac2 {c i:Nat} {o:Nat->Nat} {s':aH} (hc:c<=1) (hv:bk ee s'=some (mm A B c i,lY o i))
  (fin:∀s',bk ee s'=some (mm A B (c+aC A i+aC B i) i,lY o i)->Q .normal s'):aG P c0 ia.ntmps (before (part iU [1,0,0]) [1,1]) s' Q:=by
 have la:=dG (N:=A) (i:=i)
 have lb:=dG (N:=B) (i:=i)
 have wa:IntKind.u64.wrap (aC A i:Int)=((aC A i:Nat):Int):=bZ aa aa
 have wb:IntKind.u64.wrap (aC B i:Int)=((aC B i:Nat):Int):=bZ aa aa
 have w1:IntKind.u64.wrap ((c:Int)+((aC A i:Nat):Int))=((c+aC A i:Nat):Int):=by rw[bZ aa aa];omega
 have w2:IntKind.u64.wrap ((c:Int)+((aC B i:Nat):Int))=((c+aC B i:Nat):Int):=by rw[bZ aa aa];omega
 have w3:IntKind.u64.wrap (((c+aC A i:Nat):Int)+((aC B i:Nat):Int))=((c+aC A i+aC B i:Nat):Int):=by rw[bZ aa aa];omega
 cases i with
 |zero=>
  refine aG.eW hT eM hm 60 hv (jU h0) pz pq ee VV ah ah ?_
  simp only[ag.all,aA,bf,bt,Int.toNat_zero]
  rw[wa,wb,w1,w2,w3]
  refine⟨fun h1=>⟨aa,fun h2=>⟨aa,fun s' hv=>fin s' hv⟩,fun h2 s' hv=>fin s' (dH hv ?_ rfl)⟩,fun h1=>⟨fun h2=>⟨aa,fun s' hv=>fin s' (dH hv ?_ rfl)⟩,fun h2 s' hv=>fin s' (dH hv ?_ rfl)⟩⟩
  ·rw[jt (A:=B) aa];rfl
  ·rw[jt (A:=A) aa];rfl
  ·rw[jt (A:=A) aa,jt (A:=B) aa];rfl
 |succ i=>
  refine aG.eW hT eM hm 60 hv (jU h0) pz pq ee aes ah ah ?_
  simp only[ag.all,aA,bf,bt,aX]
  rw[wa,wb,w1,w2,w3]
  refine⟨fun h1=>⟨aa,fun h2=>⟨aa,fun s' hv=>fin s' hv⟩,fun h2 s' hv=>fin s' (dH hv ?_ rfl)⟩,fun h1=>⟨fun h2=>⟨aa,fun s' hv=>fin s' (dH hv ?_ rfl)⟩,fun h2 s' hv=>fin s' (dH hv ?_ rfl)⟩⟩
  ·rw[jt (A:=B) aa];rfl
  ·rw[jt (A:=A) aa];rfl
  ·rw[jt (A:=A) aa,jt (A:=B) aa];rfl
include h0 in
theorem Zq {c i:Nat} {o:Nat->Nat} {s':aH} (hi:i<2^41) (hv:bk ee s'=some (mm A B c i,lY o i))
  (fin:∀s',(∃ρ,Le c0 ρ s' ⟨aF ee [.mag A,.mag B,.own 7 1 0 (i+1),.int .u64 (c/4294967296:Nat),.int .i64 i],od (i+1) (cm o i (c%4294967296)),8⟩)->Q .normal s'):ay P c0 ia.ntmps (part (part iU [1,0,0]) [1,1]) s' Q:=by
 have hd:(c:Int).fdiv (2^min (Int.toNat 32) IntKind.u64.bits)=((c/4294967296:Nat):Int):=by rw[lG];omega
 cases i with
 |zero=>
  refine ay.eW hT eM hm 60 hv (jU h0) pz pq ee ah0 ah ?_
  rw[hd]
  simp only[ag.all,aA]
  refine⟨⟨aa,aa,aa⟩,aa,fun s' hv=>fin s' ?_⟩
  refine dr (vs:=[.mag A,.mag B,.own 7 1 0 1,.int .u64 (c/4294967296:Nat),.int .i64 0]) (ps:=od 1 (cm o 0 (c%4294967296))) (nx:=8) [(7,16392)] hv h0 rfl ⟨⟨rfl,aK rfl⟩,⟨rfl,aK rfl⟩,⟨rfl,cP rfl rfl rfl⟩,⟨rfl,aK rfl⟩,⟨rfl,aK rfl⟩,trivial⟩
   ⟨⟨_,_,rfl,rfl,fq rfl fun j hj=>?_⟩,trivial⟩
  have:j=0:=aa
  subst this
  simp[nth,aB,jP,jy]
 |succ i=>
  refine ay.eW hT eM hm 60 hv (jU h0) pz pq ee Uw ah ?_
  rw[hd]
  simp only[ag.all,aA]
  refine⟨⟨aa,aa⟩,aa,fun s' hv=>fin s' ?_⟩
  refine dr (vs:=[.mag A,.mag B,.own 7 1 0 (i+1+1),.int .u64 (c/4294967296:Nat),.int .i64 ((i+1:Nat):Int)]) (ps:=od (i+1+1) (cm o (i+1) (c%4294967296))) (nx:=8) [(7,16392)] hv h0 rfl ⟨⟨rfl,aK rfl⟩,⟨rfl,aK rfl⟩,⟨rfl,cP rfl rfl rfl⟩,⟨rfl,aK rfl⟩,⟨rfl,aK rfl⟩,trivial⟩
   ⟨⟨_,_,rfl,rfl,fq rfl fun j hj=>?_⟩,trivial⟩
  by_cases h:j<i+1
  ·rw[if_pos h];unfold aB;rw[fB aa]
  ·have:j=i+1:=aa
   subst this
   simp[nth,aB,jP,jy]
end fadd
theorem aav {c i:Nat} {o:Nat->Nat} {c0:Ctx} {Q:ak->aH->Prop} {A B:Nat} (yes:∀s',(i<nl A\/i<nl B\/c≠0)->bk ee s'=some (mm A B c i,lY o i)->Q .normal s')
  (no:∀s',nl A<=i->nl B<=i->c=0->bk ee s'=some (mm A B c i,lY o i)->Q (.exit 0) s'):ay P c0 ia.ntmps (part iU [0]) ⟨aF ee (mm A B c i),lY o i,8⟩ Q:=by
 cases i with
 |zero=>
  refine ay.bz hT eM hm 60 ee aaC ah ?_
  refine⟨fun h=>⟨fun _=>⟨⟨h,rfl⟩,fun _ s' hv=>yes s' (.inl (by have:=of_decide_eq_true h;omega)) hv,fun hf=>by simp at hf⟩,fun hf=>by simp at hf⟩,
   fun h=>⟨fun h2=>⟨⟨h,h2⟩,fun _ s' hv=>yes s' (.inr (.inl (by have:=of_decide_eq_true (gZ h2);omega))) hv,fun hf=>by simp at hf⟩,
    fun h2=>⟨⟨h,h2⟩,fun h3 s' hv=>yes s' (.inr (.inr ?_)) hv,fun h3 s' hv=>no s' ?_ ?_ ?_ hv⟩⟩⟩
  ·have:=gZ h3
   simp at this;exact this
  ·have:=of_decide_eq_false h;omega
  ·have:=of_decide_eq_false (gZ h2);omega
  ·have:=gZ h3
   simp at this;exact this
 |succ i=>
  refine ay.bz hT eM hm 60 ee afo ah ?_
  refine⟨fun h=>⟨fun _=>⟨⟨h,rfl⟩,fun _ s' hv=>yes s' (.inl (by have:=of_decide_eq_true h;omega)) hv,fun hf=>by simp at hf⟩,fun hf=>by simp at hf⟩,
   fun h=>⟨fun h2=>⟨⟨h,h2⟩,fun _ s' hv=>yes s' (.inr (.inl (by have:=of_decide_eq_true (gZ h2);omega))) hv,fun hf=>by simp at hf⟩,
    fun h2=>⟨⟨h,h2⟩,fun h3 s' hv=>yes s' (.inr (.inr ?_)) hv,fun h3 s' hv=>no s' ?_ ?_ ?_ hv⟩⟩⟩
  ·have:=gZ h3
   simp at this;exact this
  ·have:=of_decide_eq_false h;omega
  ·have:=of_decide_eq_false (gZ h2);omega
  ·have:=gZ h3
   simp at this;exact this
theorem aaI {A B:Nat} (hA:nl A<2^40) (hB:nl B<2^40) (K:Nat):aD P CC K [.mag A,.mag B] [] (aL (.mag (A+B)) []):=by
 refine jL hT Yg rfl aW rfl (fun _ c0 h0=>.down ?_) K []
 refine ay.hole [1,1,1,0,1] ah (aG.bz hT eM hm 60 ee aaK ah fun s' hv=>cw ?_)
 refine ay.iz (i:=0) (y:=iU) ah (fun p:Nat×Nat×(Nat->Nat)=>⟨aF ee (mm A B p.2.1 p.1),lY p.2.2 p.1,8⟩)
  (fun p=>(p.1<=max (nl A) (nl B)\/(p.1=max (nl A) (nl B)+1/\p.2.1=0/\2^(32*max (nl A) (nl B))<=A+B))/\p.2.1<=1/\(∀j,j<p.1->p.2.2 j<2^32)/\val p.1 p.2.2+p.2.1*2^(32*p.1)=val p.1 (aC A)+val p.1 (aC B))
  (fun p=>max (nl A) (nl B)+1-p.1) (0,0,fun _=>0) (m7 hv (jU h0) pz pq) ⟨by simp,by simp,fun j hj=>by simp only at hj;omega,by simp[val]⟩ ?_
 rintro⟨i,c,o⟩ ⟨hi,hc,ho,hval⟩
 simp only at hi hc ho hval
 have hAv:max (nl A) (nl B)<=i->val i (aC A)+val i (aC B)=A+B:=fun h=>by
  rw[p7 (dm.1 aa),p7 (dm.1 aa)]
 -- a round
 have body:∀{s':aH},(i<nl A\/i<nl B\/c≠0)->bk ee s'=some (mm A B c i,lY o i)->∀{QF:ak->aH->Prop},
   ay P c0 ia.ntmps (part iU [1]) s' (dM (fun s'=>∃k:Nat×Nat×(Nat->Nat),(∃ρ,Le c0 ρ s' ⟨aF ee (mm A B k.2.1 k.1),lY k.2.2 k.1,8⟩)/\
    ((k.1<=max (nl A) (nl B)\/(k.1=max (nl A) (nl B)+1/\k.2.1=0/\2^(32*max (nl A) (nl B))<=A+B))/\k.2.1<=1/\(∀j,j<k.1->k.2.2 j<2^32)/\val k.1 k.2.2+k.2.1*2^(32*k.1)=val k.1 (aC A)+val k.1 (aC B))/\
    max (nl A) (nl B)+1-k.1<max (nl A) (nl B)+1-i) QF):=by
  intro s' hcont hv QF
  have hi':i<=max (nl A) (nl B):=aa
  have la:=dG (N:=A) (i:=i)
  have lb:=dG (N:=B) (i:=i)
  refine ay.hole [0] ah ?_
  show ay P c0 ia.ntmps (part iU [1,0]) s' _
  refine ay.oK (i:=1) (y:=part iU [1,0,0]) ah ?_
  refine ay.hole [1,1] ah (ac2 h0 hc hv fun s' hv=>cw (Zq h0 aa hv fun s' hle=>cw ?_))
  show aG P c0 ia.ntmps [part iU [1,1]] s' _
  refine aG.weak rfl hle (aG.bz hT eM hm 60 ee ahM ah fun s' hv=>cw ?_)
  have hs:=EN (B:=2^(32*i)) (c:=c) (z:=aC A i) (y:=aC B i) rfl hval
  refine⟨(i+1,(c+aC A i+aC B i)/4294967296,cm o i ((c+aC A i+aC B i)%4294967296)),m7 (dH hv ?_ rfl) (jU h0) pz pq,⟨?_,by simp only;omega,fun j hj=>?_,?_⟩,by simp only;omega⟩
  ·rw[eB (a:=(i:Int)+1) (n:=i+1) aa aa];rfl
  ·simp only
   by_cases h:i<max (nl A) (nl B)
   ·exact .inl aa
   ·have e:i=max (nl A) (nl B):=aa
    have lA:=jt (A:=A) (i:=i) aa
    have lB:=jt (A:=B) (i:=i) aa
    refine .inr ⟨aa,by rw[lA,lB];omega,?_⟩
    rw[hAv aa]at hval
    have hc1:c=1:=aa
    rw[hc1,Nat.one_mul,e]at hval
    omega
  ·simp only at hj ⊢
   unfold cm
   split
   ·omega
   ·exact ho j aa
  ·simp only
   rw[qA,val,val,gL]
   omega
 -- the end
 have fin:∀{s':aH},nl A<=i->nl B<=i->c=0->bk ee s'=some (mm A B c i,lY o i)->aG P c0 ia.ntmps (behind (az ia) [1,1,1,0,1]) s' (dX c0 (Fin T ia (.mag (A+B)))):=by
  intro s' h1 h2 h3 hv
  have hsum:val i o=A+B:=by rw[hAv aa,h3]at hval;omega
  cases i with
  |zero=>
   have:A+B=0:=by rw[<-hsum];rfl
   refine aG.j6 hT eM hm 60 hv (jU h0) pz pq abq ah ah ?_
   rw[this]
   exact kH
  |succ i=>
   refine aG.j6 hT eM hm 60 hv (jU h0) pz pq ai5 ah ah ?_
   refine lD ?_ fun j hj=>?_
   ·have l1:nl (A+B)<=i+1:=dm.2 (by rw[<-hsum];exact fD ho)
    have l2:¬nl (A+B)<=i:=by
     intro h
     rcases hi with hi|⟨hi,_,hi2⟩
     ·have:=gJ (show A<=A+B by omega)
      have:=gJ (show B<=A+B by omega)
      omega
     ·rw[dm]at h
      rw[show max (nl A) (nl B)=i by omega]at hi2
      omega
    omega
   ·rw[<-hsum,pU ho hj];rfl
 refine ay.hole [0] ah (show ay P c0 ia.ntmps (part iU [0]) _ _ from aav (fun s' h hv=>cw ?_) fun s' h1 h2 h3 hv=>qS (fc (cw (fin h1 h2 h3 hv))))
 show aG P c0 ia.ntmps [part iU [1]] s' _
 exact body h hv
def Kj:Spec:=nE (fun A B=>.mag (A+B)) Jh
theorem UZ:∀K args pre r,Kj K args pre=some r->aD P CC K args pre r:=pA fun h=>aaI h.1 h.2
end Go.Am.B
