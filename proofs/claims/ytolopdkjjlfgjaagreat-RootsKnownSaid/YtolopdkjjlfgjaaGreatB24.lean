/- ref01: minus, Sub, Mul, byLimb. -/
import Derived.Test.YtolopdkjjlfgjaaGreatB23
set_option linter.unusedVariables false
noncomputable section
namespace Go.Am.B
open Go Go.Am.N AV Proofs.Tryz IntKind
theorem UU:bC 175 f175:=bD func175
theorem QD:bC 147 f147:=bD func147
theorem WR:bC 85 f85:=bD func85
theorem ac3:bC 156 f156:=bD func156
abbrev pN:List Nat:=[0,1,5,6,7]
abbrev yD (A B c i K:Nat):List AV:=[.mag A,.mag B,.own K 1 0 (nl A),.int .u64 c,.int .i64 i]
abbrev dU (K n:Nat) (o:Nat->Nat):aG:=[(K,⟨true,true,1,n,aD o⟩)]
abbrev NN:Code:=part (aJ f175) [1,1,1,0,1,0,0]
theorem acR {A B:Nat}:aK T fZ [] 60 pN (before (aJ f175) [1,1,1,0,1]) ⟨bf 0 [.mag A,.mag B],[],0⟩=
  let c1:Int:=(↑(nl A):Int);some (af.aj [(0:Int)<=c1/\c1<=c1/\c1<=2^47/\c1*(↑(4:Nat):Int)<=2^47] (af.leaf au.normal ([mag A,mag B,own 12288 1 0 c1.toNat,int .u64 (0:Int),int .i64 (0:Int)],[(12288,aC.mk true true 1 c1.toNat fun x=>int .u32 (0:Int))]))):=ah
theorem acN {A B c i:Nat} {o:Nat->Nat}:aK T fZ [16,23,38] 60 pN [NN] ⟨aH pN (yD A B c i 12288),dU 12288 (nl A) o,12289⟩=
  let c13:Int:=(↑c:Int);let c8:Int:=(↑i:Int);let c5:AV:=own 12288 1 0 (nl A);let c4:List AV:=[int .i64 (i64.wrap (c8+1))];let c1:Nat:=c8.toNat;let c11:Prop:=(0:Int)<=c8/\c1<nl A;let c10:List AV:=mag A::mag B::c5::int .u64 (0:Int)::c4;let c9:List AV:=mag A::mag B::c5::int .u64 (1:Int)::c4;let c7:Nat:=c1+0;let c3:Int:=u64.wrap (c13+u64.wrap (↑(aE B c1):Int));let c2:Int:=u64.wrap (↑(aE A c1):Int);let c12:Int:=u64.wrap (c2+4294967296);let c6:List Prop:=[c11,c7<nl A];some (af.fork (decide (c8<(↑(nl A):Int))) (af.fork (decide (c8<(↑(nl B):Int))) (af.aj [(0:Int)<=c8/\c1<nl B] (af.aj [c11] (af.fork (decide (c2<c3)) (af.aj c6 (af.leaf au.normal (c9,[(12288,aC.mk true true 1 (nl A) fun j=>if(j==c7)=true then int .u32 (u32.wrap (u64.wrap (c12-c3)))else aD o j)]))) (af.aj c6 (af.leaf au.normal (c10,[(12288,aC.mk true true 1 (nl A) fun j=>if(j==c7)=true then int .u32 (u32.wrap (u64.wrap (c2-c3)))else aD o j)])))))) (af.aj [c11] (af.fork (decide (c2<c13)) (af.aj c6 (af.leaf au.normal (c9,[(12288,aC.mk true true 1 (nl A) fun j=>if(j==c7)=true then int .u32 (u32.wrap (u64.wrap (c12-c13)))else aD o j)]))) (af.aj c6 (af.leaf au.normal (c10,[(12288,aC.mk true true 1 (nl A) fun j=>if(j==c7)=true then int .u32 (u32.wrap (u64.wrap (c2-c13)))else aD o j)])))))) (af.leaf (au.exit 0) ([mag A,mag B,c5,int .u64 c13,int .i64 c8],[(12288,aC.mk true true 1 (nl A) fun a=>int .u32 (↑(o a):Int))]))):=ah
theorem aaW {A B c i:Nat} {o:Nat->Nat}:dJ T fZ [] 60 f175 (behind (aJ f175) [1,1,1,0,1]) ⟨aH pN (yD A B c i 12288),dU 12288 (nl A) o,12289⟩=
  some (af.aj [fu (nl A) fun i=>aD o (i+0),nl A<2^40] (af.leaf au.ret [mag (val (nl A) fun i=>numOf (aD o (i+0)))])):=ah
abbrev mD:List Nat:=[0,1,5,6]
abbrev xJ (A B i K:Nat):List AV:=[.mag A,.mag B,.own K 1 0 (nl A+nl B),.int .i64 i]
abbrev s9:List Nat:=[0,1,5,6,7,8]
abbrev Ch (A B i c j K:Nat):List AV:=[.mag A,.mag B,.own K 1 0 (nl A+nl B),.int .i64 i,.int .u64 c,.int .i64 j]
abbrev qX:Code:=part (aJ f85) [1,1,0,1,0,0]
abbrev vY:Code:=part qX [1,0,0]
theorem abQ {A B:Nat}:aK T fZ [] 60 mD (before (aJ f85) [1,1,0,1]) ⟨bf 0 [.mag A,.mag B],[],0⟩=
  let c1:Int:=i64.wrap ((↑(nl A):Int)+(↑(nl B):Int));some (af.aj [(0:Int)<=c1/\c1<=c1/\c1<=2^47/\c1*(↑(4:Nat):Int)<=2^47] (af.leaf au.normal ([mag A,mag B,own 24576 1 0 c1.toNat,int .i64 (0:Int)],[(24576,aC.mk true true 1 c1.toNat fun x=>int .u32 (0:Int))]))):=ah
theorem adn {A B i:Nat} {o:Nat->Nat}:aK T fZ [18] 60 mD [part qX [0]] ⟨aH mD (xJ A B i 24576),dU 24576 (nl A+nl B) o,24577⟩=
  let c1:List AV×aG:=([mag A,mag B,own 24576 1 0 (nl A+nl B),int .i64 (↑i:Int)],[(24576,aC.mk true true 1 (nl A+nl B) fun a=>int .u32 (↑(o a):Int))]);some (af.fork (decide ((↑i:Int)<(↑(nl A):Int))) (af.leaf au.normal c1) (af.leaf (au.exit 0) c1)):=ah
theorem Xt {A B i:Nat} {o:Nat->Nat}:aK T fZ [] 60 s9 (before vY [1,0,1]) ⟨aH mD (xJ A B i 24576),dU 24576 (nl A+nl B) o,24577⟩=
  some (af.leaf au.normal ([mag A,mag B,own 24576 1 0 (nl A+nl B),int .i64 (↑i:Int),int .u64 (0:Int),int .i64 (0:Int)],[(24576,aC.mk true true 1 (nl A+nl B) fun a=>int .u32 (↑(o a):Int))])):=ah
theorem UP {A B i c j:Nat} {o:Nat->Nat}:aK T fZ [24] 60 s9 [part vY [1,0,1,0,0]] ⟨aH s9 (Ch A B i c j 24576),dU 24576 (nl A+nl B) o,24577⟩=
  let c7:Int:=(↑i:Int);let c5:Int:=(↑j:Int);let c4:Nat:=nl A+nl B;let c6:AV:=own 24576 1 0 c4;let c1:Int:=i64.wrap (c7+c5);let c3:Nat:=c1.toNat+0;let c8:List Prop:=[(0:Int)<=c1/\c1.toNat<c4,c3<c4];let c2:Int:=u64.wrap ((↑c:Int)+u64.wrap (u64.wrap (u64.wrap (↑(aE A c7.toNat):Int)*u64.wrap (↑(aE B c5.toNat):Int))+u64.wrap (↑(o c3):Int)));some (af.fork (decide (c5<(↑(nl B):Int))) (af.aj (((0:Int)<=c7/\c7.toNat<nl A)::((0:Int)<=c5/\c5.toNat<nl B)::c8) (af.aj c8 (af.aj [(0:Int)<=32] (af.leaf au.normal ([mag A,mag B,c6,int .i64 c7,int .u64 (c2.fdiv ((2:Int)^min (Int.toNat (32:Int)) u64.bits)),int .i64 (i64.wrap (c5+1))],[(24576,aC.mk true true 1 c4 fun j=>if(j==c3)=true then int .u32 (u32.wrap c2)else aD o j)]))))) (af.leaf (au.exit 2) ([mag A,mag B,c6,int .i64 c7,int .u64 (↑c:Int),int .i64 c5],[(24576,aC.mk true true 1 c4 fun a=>int .u32 (↑(o a):Int))]))):=ah
theorem afE {A B i c j:Nat} {o:Nat->Nat}:aK T fZ [] 60 mD (behind vY [1,0,1]) ⟨aH s9 (Ch A B i c j 24576),dU 24576 (nl A+nl B) o,24577⟩=
  let c3:Nat:=nl A+nl B;let c1:Int:=i64.wrap ((↑i:Int)+(↑(nl B):Int));let c2:Nat:=c1.toNat+0;some (af.aj [(0:Int)<=c1/\c1.toNat<c3,c2<c3] (af.leaf au.normal ([mag A,mag B,own 24576 1 0 c3,int .i64 (↑i:Int)],[(24576,aC.mk true true 1 c3 fun j=>if(j==c2)=true then int .u32 (u32.wrap (↑c:Int))else aD o j)]))):=ah
theorem UT {A B i:Nat} {o:Nat->Nat}:aK T fZ [] 60 mD [part qX [1,1]] ⟨aH mD (xJ A B i 24576),dU 24576 (nl A+nl B) o,24577⟩=
  some (af.leaf au.normal ([mag A,mag B,own 24576 1 0 (nl A+nl B),int .i64 (i64.wrap ((↑i:Int)+1))],[(24576,aC.mk true true 1 (nl A+nl B) fun a=>int .u32 (↑(o a):Int))])):=ah
theorem acH {A B i:Nat} {o:Nat->Nat}:dJ T fZ [] 60 f85 (behind (aJ f85) [1,1,0,1]) ⟨aH mD (xJ A B i 24576),dU 24576 (nl A+nl B) o,24577⟩=
  some (af.aj [fu (nl A+nl B) fun i=>aD o (i+0),nl A+nl B<2^40] (af.leaf au.ret [mag (val (nl A+nl B) fun i=>numOf (aD o (i+0)))])):=ah
abbrev rT:List Nat:=[0,1,6,7,8]
abbrev EU (A b r k K:Nat):List AV:=[.mag A,.int .u32 b,.own K 1 0 (nl A),.int .u64 r,.int .i64 ((k:Int)-1)]
abbrev OM:Code:=part (aJ f156) [1,1,1,0,1,0,0]
theorem Sf {A b:Nat}:aK T fZ [] 60 rT (before (aJ f156) [1,1,1,0,1]) ⟨bf 0 [.mag A,.int .u32 b],[],0⟩=
  let c1:Int:=(↑(nl A):Int);some (af.aj [(0:Int)<=c1/\c1<=c1/\c1<=2^47/\c1*(↑(4:Nat):Int)<=2^47] (af.leaf au.normal ([mag A,int .u32 (↑b:Int),own 16384 1 0 c1.toNat,int .u64 (0:Int),int .i64 (i64.wrap (c1-1))],[(16384,aC.mk true true 1 c1.toNat fun x=>int .u32 (0:Int))]))):=ah
theorem PS {A b r k:Nat} {o:Nat->Nat}:aK T fZ [16] 60 rT [OM] ⟨aH rT (EU A b r k 16384),dU 16384 (nl A) o,16385⟩=
  let c7:AV:=int .u32 (↑b:Int);let c4:AV:=own 16384 1 0 (nl A);let c3:Int:=u64.wrap (↑b:Int);let c2:Int:=(↑k:Int)-1;let c6:Prop:=(0:Int)<=c2/\c2.toNat<nl A;let c5:Nat:=c2.toNat+0;let c1:Int:=u64.wrap (↑(BitVec.ofInt u64.bits (u64.wrap ((↑r:Int)*2^min (Int.toNat (32:Int)) u64.bits))|||BitVec.ofInt u64.bits (u64.wrap (↑(aE A c2.toNat):Int))).toNat:Int);some (af.fork (decide (c2>=0)) (af.aj [(0:Int)<=32,c6] (af.aj [c3≠(0:Int),c6,c5<nl A] (af.aj [c3≠(0:Int)] (af.leaf au.normal ([mag A,c7,c4,int .u64 (c1.tmod c3),int .i64 (i64.wrap (c2-1))],[(16384,aC.mk true true 1 (nl A) fun j=>if(j==c5)=true then int .u32 (u32.wrap (u64.wrap (c1.tdiv c3)))else aD o j)]))))) (af.leaf (au.exit 0) ([mag A,c7,c4,int .u64 (↑r:Int),int .i64 c2],[(16384,aC.mk true true 1 (nl A) fun a=>int .u32 (↑(o a):Int))]))):=ah
theorem SD {A b r k:Nat} {o:Nat->Nat}:dJ T fZ [] 60 f156 (behind (aJ f156) [1,1,1,0,1]) ⟨aH rT (EU A b r k 16384),dU 16384 (nl A) o,16385⟩=
  some (af.aj [fu (nl A) fun i=>aD o (i+0),nl A<2^40] (af.leaf au.ret [mag (val (nl A) fun i=>numOf (aD o (i+0))),int .u32 (u32.wrap (↑r:Int))])):=ah
def KZ:bG:=[(84,xK),(175,oX (fun A B=>.mag (A-B)) fun A B=>[B<=A,nl A<2^40])]
theorem aeg {A B:Nat}:cy T KZ [9] 60 f147 (aJ f147) ⟨bf 0 [.mag A,.mag B],[],0⟩=
  let c1:Nat:=2^40;some (af.aj [nl A<c1,nl B<c1] (af.fork (decide (dG A B<0)) (af.leaf au.ret [nil,int .i64 (7:Int)]) (af.aj [B<=A,nl A<c1] (af.leaf au.ret [mag (A-B),int .i64 (0:Int)])))):=ah
theorem jl {K n nx:Nat} {o:Nat->Nat} (h:K<nx):jA nx (dU K n o):=⟨⟨h,fun _ _=>rfl⟩,trivial⟩
theorem ZJ {vo va vb ai x c b' un u' B:Nat} (hx:x=c+b') (hu:un+x=ai+4294967296*u') (h:va+c*B=vo+vb):va+ai*B+u'*(4294967296*B)=vo+un*B+(vb+b'*B):=by
 have e:(un+x)*B=(ai+4294967296*u')*B:=by rw[hu]
 subst hx
 grind
theorem Lw {A B:Nat} (hAB:B<=A) (hA:nl A<2^40) (K:Nat):aY P 175 K [.mag A,.mag B] [] (aT (.mag (A-B)) []):=by
 have hB:nl B<=nl A:=jt hAB
 refine ja hT UU rfl br rfl (fun _ c0 h0=>?_) K []
 refine aA.hole [1,1,1,0,1] ah (aI.bM hT gn hm 60 pN acR ah ?_)
 simp only[af.all,aF,bJ]
 refine⟨aa,fun s' hv=>cU ?_⟩
 refine aA.js (i:=0) (y:=NN) ah pN 12289 (h0 _) (fun p:Nat×Nat×(Nat->Nat)=>yD A B p.2.1 p.1 12288) (fun p=>dU 12288 (nl A) p.2.2) (fun _=>rfl) (fun _=>jl aa)
  (fun p=>p.1<=nl A/\p.2.1<=1/\(∀j,j<nl A->p.2.2 j<2^32)/\val p.1 (aE A)+p.2.1*2^(32*p.1)=val p.1 p.2.2+val p.1 (aE B))
  (fun p=>nl A-p.1) (0,0,fun _=>0) hv ⟨by simp,by simp,fun _ _=>by simp,by simp[val]⟩ ?_
 rintro⟨i,c,o⟩ ⟨hi,hc,ho,hval⟩
 simp only at hi hc ho hval
 refine aA.bM hT gn hm 60 pN acN ah ?_
 have la:=eP (N:=A) (i:=i)
 have lb:=eP (N:=B) (i:=i)
 have wa:u64.wrap (aE A i:Int)=((aE A i:Nat):Int):=cG aa aa
 have wb:u64.wrap (aE B i:Int)=((aE B i:Nat):Int):=cG aa aa
 have w1:u64.wrap ((c:Int)+((aE B i:Nat):Int))=((c+aE B i:Nat):Int):=by rw[cG aa aa];omega
 have w2:u64.wrap (((aE A i:Nat):Int)+4294967296)=((aE A i+4294967296:Nat):Int):=by rw[cG aa aa];omega
 have w3:i64.wrap ((i:Int)+1)=((i+1:Nat):Int):=by rw[wrap_i64 aa aa];omega
 simp only[af.all,aF,bI,bO,bJ,Nat.add_zero,beq_iff_eq]
 rw[wa,wb,w1,w2,w3]
 -- what is put down
 have next:∀{s':aL} {x u':Nat} {v:Int},i<nl A->x=c+aE B i->u'<=1->x<=aE A i+4294967296*u'->aE A i+4294967296*u'<x+4294967296->v=((aE A i+4294967296*u'-x:Nat):Int)->
   bp pN s'=some (yD A B u' (i+1) 12288,[(12288,⟨true,true,1,nl A,fun j=>if j=i then .int .u32 (u32.wrap (u64.wrap v))else aD o j⟩)])->
   ∃k:Nat×Nat×(Nat->Nat),bp pN s'=some (yD A B k.2.1 k.1 12288,dU 12288 (nl A) k.2.2)/\(k.1<=nl A/\k.2.1<=1/\(∀j,j<nl A->k.2.2 j<2^32)/\val k.1 (aE A)+k.2.1*2^(32*k.1)=val k.1 k.2.2+val k.1 (aE B))/\nl A-k.1<nl A-i:=by
  intro s' x u' v hin hx hu1 h1 h2 hv1 hv
  refine⟨(i+1,u',cP o i (aE A i+4294967296*u'-x)),eU hv rfl ?_,⟨by simp only;omega,hu1,jE aa ho,?_⟩,by simp only;omega⟩
  ·simp only[dU]
   congr 3
   funext k
   exact jg (by rw[hv1,cG aa aa,wrap_u32 aa aa]) k
  ·simp only
   rw[rP,val,val,jn]
   exact ZJ (b':=aE B i) (x:=x) hx aa hval
 refine⟨fun hb=>⟨fun hb2=>⟨aa,aa,fun h3=>⟨⟨aa,aa⟩,fun s' hv=>?_⟩,fun h3=>⟨⟨aa,aa⟩,fun s' hv=>?_⟩⟩,fun hb2=>⟨aa,fun h3=>⟨⟨aa,aa⟩,fun s' hv=>?_⟩,fun h3=>⟨⟨aa,aa⟩,fun s' hv=>?_⟩⟩⟩,fun hb s' hv=>gD (cU ?_)⟩
 ·exact next (u':=1) aa rfl aa aa aa aa hv
 ·exact next (u':=0) aa rfl aa aa aa aa hv
 ·exact next (u':=1) (x:=c) aa (by rw[kB (A:=B) aa];rfl) aa aa aa aa hv
 ·exact next (u':=0) (x:=c) aa (by rw[kB (A:=B) aa];rfl) aa aa aa aa hv
 ·have hin:i=nl A:=aa
  refine aI.lU hT gn hm 60 hv (h0 _) rfl (jl aa) aaW ah ah ?_
  simp only[af.all,aF,Nat.add_zero,kX]
  refine⟨⟨iJ ho,hA⟩,fo (congrArg AV.mag ?_)⟩
  rw[hin,iE,rB (eo.1 hB)]at hval
  have hlt:=ia ho
  have:c=0:=by
   rcases Nat.eq_zero_or_pos c with h|h
   ·exact h
   ·exfalso
    have h1:1*2^(32*nl A)<=c*2^(32*nl A):=Nat.mul_le_mul_right _ h
    omega
  rw[this]at hval
  omega
theorem Tr:cm P KZ:=aM Bo (aM (qB fun h=>Lw h.1 h.2) cK)
theorem Us {A B:Nat} (hA:nl A<2^40) (hB:nl B<2^40) (K:Nat):aY P 147 K [.mag A,.mag B] [] (aT (.tuple [.mag (A-B),.int .i64 (if A<B then 7 else 0)]) []):=by
 refine cB hT Tr hm QD rfl br rfl 60 aeg (fun _=>?_) K []
 simp only[af.all,aF,bI,bO,Ar]
 refine⟨⟨hA,hB⟩,fun h=>⟨?_,cu (by rw[if_pos h]),trivial⟩,fun h=>⟨⟨aa,hA⟩,.refl _,cu (by rw[if_neg h]),trivial⟩⟩
 rw[Nat.sub_eq_zero_of_le aa];exact mM
def JD:Spec:=oX (fun A B=>.tuple [.mag (A-B),.int .i64 (if A<B then 7 else 0)]) CJ
theorem T9:bF P JD 147:=qB fun h=>Us h.1 h.2
theorem abN {A B:Nat} (hA:nl A<2^39) (hB:nl B<2^39) (K:Nat):aY P 85 K [.mag A,.mag B] [] (aT (.mag (A*B)) []):=by
 refine ja hT WR rfl br rfl (fun _ c0 h0=>?_) K []
 refine aA.hole [1,1,0,1] ah (aI.bM hT gn hm 60 mD abQ ah ?_)
 have hw:i64.wrap ((nl A:Int)+(nl B:Int))=((nl A+nl B:Nat):Int):=fY aa aa
 rw[hw]
 simp only[af.all,aF,bJ]
 refine⟨aa,fun s' hv=>cU ?_⟩
 refine aA.js (i:=0) (y:=qX) ah mD 24577 (h0 _) (fun p:Nat×(Nat->Nat)=>xJ A B p.1 24576) (fun p=>dU 24576 (nl A+nl B) p.2) (fun _=>rfl) (fun _=>jl aa)
  (fun p=>p.1<=nl A/\(∀j,j<nl A+nl B->p.2 j<2^32)/\(∀j,p.1+nl B<=j->p.2 j=0)/\val (nl A+nl B) p.2=val p.1 (aE A)*B)
  (fun p=>nl A-p.1) (0,fun _=>0) hv ⟨by simp,fun _ _=>by simp,fun _ _=>rfl,?_⟩ ?_
 ·simp only
  rw[val_zero fun _ _=>rfl]
  simp[val]
 rintro⟨i,o⟩ ⟨hi,ho,ho0,hval⟩
 simp only at hi ho ho0 hval
 refine aA.hole [0] ah (show aA P c0 f85.ntmps (part qX [0]) _ _ from aA.bM hT gn hm 60 mD adn ah ?_)
 simp only[af.all,bI,bO]
 refine⟨fun h1 s' hv=>cU ?_,fun h1 s' hv=>sP (gD (cU ?_))⟩
 ·have hin:i<nl A:=aa
  have la:=eP (N:=A) (i:=i)
  show aI P c0 f85.ntmps [part qX [1]] s' _
  refine aA.hole [0] ah ?_
  show aA P c0 f85.ntmps (part qX [1,0]) s' _
  refine aA.qI (i:=1) (y:=vY) ah (aA.me hv (h0 24577) rfl (jl aa) ?_)
  refine aA.hole [1,0,1] ah (aI.bM hT gn hm 60 s9 Xt ah fun s' hv=>cU ?_)
  refine aA.js (i:=2) (y:=part vY [1,0,1,0,0]) ah s9 24577 (h0 _) (fun p:Nat×Nat×(Nat->Nat)=>Ch A B i p.2.1 p.1 24576) (fun p=>dU 24576 (nl A+nl B) p.2.2) (fun _=>rfl) (fun _=>jl aa)
   (fun p=>p.1<=nl B/\p.2.1<2^32/\(∀j,j<nl A+nl B->p.2.2 j<2^32)/\(∀j,i+nl B<=j->p.2.2 j=0)/\val (nl A+nl B) p.2.2+p.2.1*2^(32*(i+p.1))=val i (aE A)*B+aE A i*val p.1 (aE B)*2^(32*i))
   (fun p=>nl B-p.1) (0,0,o) hv ⟨by simp,by simp,ho,ho0,by simp[val,hval]⟩ ?_
  rintro⟨j,c,o⟩ ⟨hj,hc,ho,ho0,hval⟩
  simp only at hj hc ho ho0 hval
  refine aA.bM hT gn hm 60 s9 UP ah ?_
  have hij:i64.wrap ((i:Int)+(j:Int))=((i+j:Nat):Int):=fY aa aa
  have lb:=eP (N:=B) (i:=j)
  simp only[af.all,aF,bI,bO,hij,bJ,Nat.add_zero,beq_iff_eq]
  refine⟨fun h2=>?_,fun h2 s' hv=>gD ?_⟩
  ·have hjm:j<nl B:=aa
   obtain⟨m1,m2,m3⟩:=Nr hc la lb (ho (i+j) aa)
   rw[m1]
   refine⟨⟨aa,aa,aa,aa⟩,⟨aa,aa⟩,aa,fun s' hv=>⟨(j+1,(c+aE A i*aE B j+o (i+j))/4294967296,cP o (i+j) ((c+aE A i*aE B j+o (i+j))%4294967296)),eU hv ?_ ?_,⟨by simp only;omega,m3,jE aa ho,fun k hk=>?_,?_⟩,by simp only;omega⟩⟩
   ·rw[nk,fY (a:=(j:Int)+1) (n:=j+1) aa aa]
    simp only[Ch,List.cons.injEq,AV.int.injEq,and_true,true_and]
    omega
   ·simp only[dU]
    congr 3
    funext k
    exact jg (by rw[k9]) k
   ·exact(g8 aa).trans (ho0 k hk)
   ·simp only
    rw[show 32*(i+(j+1))=32*((i+j)+1) by omega,jn,val]
    have hset:=FO (o:=o) (x:=(c+aE A i*aE B j+o (i+j))%4294967296) (show i+j<nl A+nl B by omega)
    exact Ph rfl (Nat.div_add_mod _ _) hset (by rw[<-Nat.pow_add];congr 1;omega) hval
  ·show aI P c0 f85.ntmps (behind vY [1,0,1]) s' _
   have hjm:j=nl B:=aa
   have hib:i64.wrap ((i:Int)+(nl B:Int))=((i+nl B:Nat):Int):=fY aa aa
   refine aI.gC hT gn hm 60 hv (h0 24577) rfl (jl aa) mD afE ah ah ?_
   rw[hib]
   simp only[af.all,aF,bJ,Nat.add_zero,beq_iff_eq]
   refine⟨⟨aa,aa⟩,fun s' hv=>?_⟩
   have hf:(fun k=>if k=i+nl B then AV.int .u32 (u32.wrap (c:Int))else aD o k)=aD (cP o (i+nl B) c):=by
    funext k
    exact jg (wrap_u32 aa aa) k
   rw[hf]at hv
   show aI P c0 f85.ntmps [part qX [1,1]] s' _
   refine aI.gC hT gn hm 60 hv (h0 24577) rfl (jl aa) mD UT ah ah fun s' hv=>cU ?_
   refine⟨(i+1,cP o (i+nl B) c),eU hv ?_ rfl,⟨by simp only;omega,jE hc ho,fun k hk=>(g8 (by simp only at hk;omega)).trans (ho0 k (by simp only at hk;omega)),?_⟩,by simp only;omega⟩
   ·rw[fY (a:=(i:Int)+1) (n:=i+1) aa aa]
   ·simp only
    rw[hjm,iE]at hval
    rw[tN aa (ho0 _ aa),hval,val,Nat.add_mul,Nat.mul_assoc,Nat.mul_assoc,Nat.mul_comm B]
 ·have hin:i=nl A:=aa
  refine aI.lU hT gn hm 60 hv (h0 _) rfl (jl aa) acH ah ah ?_
  simp only[af.all,aF,Nat.add_zero,kX]
  refine⟨⟨iJ ho,aa⟩,fo (congrArg AV.mag ?_)⟩
  rw[hval,hin,iE]
def CU:Spec:=oX (fun A B=>.mag (A*B)) fun A B=>[nl A<2^39,nl B<2^39]
theorem Jf:bF P CU 85:=qB fun h=>abN h.1 h.2
theorem HT {v b r A:Nat} (h:v*b+r=A) (hr:r<b):A/b=v/\A%b=r:=by
 subst h
 refine⟨?_,?_⟩
 ·rw[Nat.mul_comm,Nat.mul_add_div aa,Nat.div_eq_of_lt hr,Nat.add_zero]
 ·rw[Nat.mul_comm,Nat.mul_add_mod,Nat.mod_eq_of_lt hr]
theorem aew {A b:Nat} (hA:nl A<2^40) (hb0:0<b) (hb32:b<2^32) (K:Nat):aY P 156 K [.mag A,.int .u32 b] [] (aT (.tuple [.mag (A/b),.int .u32 (A%b:Nat)]) []):=by
 refine ja hT ac3 rfl br rfl (fun _ c0 h0=>?_) K []
 refine aA.hole [1,1,1,0,1] ah (aI.bM hT gn hm 60 rT Sf ah ?_)
 simp only[af.all,aF,bJ]
 refine⟨aa,fun s' hv=>cU ?_⟩
 refine aA.js (i:=0) (y:=OM) ah rT 16385 (h0 _) (fun p:Nat×Nat×(Nat->Nat)=>EU A b p.2.1 p.1 16384) (fun p=>dU 16384 (nl A) p.2.2) (fun _=>rfl) (fun _=>jl aa)
  (fun p=>p.1<=nl A/\p.2.1<b/\(∀j,j<nl A->p.2.2 j<2^32)/\(∀j,j<p.1->p.2.2 j=0)/\val (nl A) p.2.2*b+p.2.1*2^(32*p.1)+val p.1 (aE A)=A)
  (fun p=>p.1) (nl A,0,fun _=>0) (eU hv (by rw[wrap_i64 aa aa];rfl) rfl) ⟨by simp,hb0,fun j _=>by simp,fun j _=>rfl,?_⟩ ?_
 ·simp only
  rw[val_zero fun _ _=>rfl,iE]
  simp
 rintro⟨k,r,o⟩ ⟨hk,hr,ho,ho0,hval⟩
 simp only at hk hr ho ho0 hval
 refine aA.bM hT gn hm 60 rT PS ah ?_
 simp only[af.all,aF,bI,bO,Nat.add_zero,beq_iff_eq]
 have hbw:u64.wrap (b:Int)=(b:Int):=cG aa aa
 refine⟨fun hb=>?_,fun hb s' hv=>gD (cU ?_)⟩
 ·obtain⟨j,rfl⟩:∃j,k=j+1:=⟨k-1,aa⟩
  have e:(((j+1:Nat):Int)-1).toNat=j:=aa
  have hzj:=eP (N:=A) (i:=j)
  have fT:=uZ (a:=r) (b:=aE A j) aa hzj
  rw[e,fT,hbw]
  have hq1:(r*4294967296+aE A j)/b<2^32:=by
   rw[Nat.div_lt_iff_lt_mul hb0]
   have:(r+1)*4294967296<=b*4294967296:=Nat.mul_le_mul_right _ hr
   omega
  have hdm:=Nat.div_add_mod (r*4294967296+aE A j) b
  refine⟨⟨aa,aa,aa⟩,⟨aa,⟨aa,aa⟩,aa⟩,aa,fun s' hv=>⟨(j,(r*4294967296+aE A j)%b,cP o j ((r*4294967296+aE A j)/b)),eU hv ?_ ?_,⟨by simp only;omega,Nat.mod_lt _ hb0,jE hq1 ho,fun i hi=>?_,?_⟩,by simp only;omega⟩⟩
  ·rw[<-Int.ofNat_tmod,wrap_i64 aa aa,show((j+1:Nat):Int)-1-1=(j:Int)-1 by omega]
  ·simp only[dU]
   congr 3
   funext i
   refine jg ?_ i
   rw[<-Int.ofNat_tdiv]
   clear hdm
   generalize (r*4294967296+aE A j)/b=q at hq1 ⊢
   rw[cG aa aa,wrap_u32 aa aa]
  ·exact(g8 (by simp only at hi;omega)).trans (ho0 i (by simp only at hi;omega))
  ·simp only
   rw[tN aa (ho0 j aa)]
   rw[jn,val]at hval
   exact KW hval hdm.symm
 ·have hk0:k=0:=aa
  have hv2:val (nl A) o*b+r=A:=by rw[hk0]at hval;simpa [val]using hval
  refine aI.lU hT gn hm 60 hv (h0 _) rfl (jl aa) SD ah ah ?_
  simp only[af.all,aF,Nat.add_zero,kX]
  obtain⟨hdiv,hmod⟩:=HT hv2 hr
  exact⟨⟨iJ ho,hA⟩,fo (congrArg AV.mag hdiv.symm),cu (by rw[hmod,wrap_u32 aa aa]),trivial⟩
def EV:Spec:=cw fun l=>match l with
 |[a,.int .u32 b]=>match kj a with
  |some A=>some (aT (.tuple [.mag (A/b.toNat),.int .u32 (A%b.toNat:Nat)]) [nl A<2^40,0<b,b<2^32])
  |none=>none
 |_=>none
theorem KY:bF P EV 156:=by
 refine cY fun K args r hk hs _=>?_
 split at hs
 ·rename_i a b
  split at hs
  ·rename_i A hA
   simp only[aB]at hs
   subst hs
   intro need
   obtain⟨h1,h2,h3⟩:nl A<2^40/\0<b/\b<2^32:=need
   obtain⟨b,rfl⟩:=Int.eq_ofNat_of_zero_le (Int.le_of_lt h2)
   exact je (aew h1 aa aa K) hk ⟨mX hA,.refl _,trivial⟩ [] trivial
  ·simp at hs
 ·simp at hs
end Go.Am.B
