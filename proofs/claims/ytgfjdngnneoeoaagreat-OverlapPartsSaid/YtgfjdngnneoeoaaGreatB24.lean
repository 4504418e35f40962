/- ref01: minus, Sub, Mul, byLimb. -/
import Derived.Test.YtgfjdngnneoeoaaGreatB23
set_option linter.unusedVariables false
noncomputable section
namespace Go.Am.B
open Go Go.Am.N AV Proofs.Tryz IntKind
theorem ac9:aX 168 f168:=aM func168
theorem agB:aX 126 f126:=aM func126
theorem ad6:aX 106 f106:=aM func106
theorem Qv:aX 122 f122:=aM func122
abbrev nI:List Nat:=[0,1,5,6,7]
abbrev xD (A B c i K:Nat):List AV:=[.mag A,.mag B,.own K 1 0 (nl A),.int .u64 c,.int .i64 i]
abbrev dz (K n:Nat) (o:Nat->Nat):aD:=[(K,⟨true,true,1,n,aA o⟩)]
abbrev HR:Code:=part (aF f168) [1,1,1,0,1,0,0]
theorem Zp {A B:Nat}:aL T fu [] 60 nI (before (aF f168) [1,1,1,0,1]) ⟨aS 0 [.mag A,.mag B],[],0⟩=
  let c1:Int:=(↑(nl A):Int);some (ag.aj [(0:Int)<=c1/\c1<=c1/\c1<=2^47/\c1*(↑(4:Nat):Int)<=2^47] (ag.leaf aq.normal ([mag A,mag B,own 12288 1 0 c1.toNat,int .u64 (0:Int),int .i64 (0:Int)],[(12288,az.mk true true 1 c1.toNat fun x=>int .u32 (0:Int))]))):=ah
theorem aeb {A B c i:Nat} {o:Nat->Nat}:aL T fu [16,23,38] 60 nI [HR] ⟨aG nI (xD A B c i 12288),dz 12288 (nl A) o,12289⟩=
  let c13:Int:=(↑c:Int);let c8:Int:=(↑i:Int);let c5:AV:=own 12288 1 0 (nl A);let c4:List AV:=[int .i64 (i64.wrap (c8+1))];let c1:Nat:=c8.toNat;let c11:Prop:=(0:Int)<=c8/\c1<nl A;let c10:List AV:=mag A::mag B::c5::int .u64 (0:Int)::c4;let c9:List AV:=mag A::mag B::c5::int .u64 (1:Int)::c4;let c7:Nat:=c1+0;let c3:Int:=u64.wrap (c13+u64.wrap (↑(aB B c1):Int));let c2:Int:=u64.wrap (↑(aB A c1):Int);let c12:Int:=u64.wrap (c2+4294967296);let c6:List Prop:=[c11,c7<nl A];some (ag.fork (decide (c8<(↑(nl A):Int))) (ag.fork (decide (c8<(↑(nl B):Int))) (ag.aj [(0:Int)<=c8/\c1<nl B] (ag.aj [c11] (ag.fork (decide (c2<c3)) (ag.aj c6 (ag.leaf aq.normal (c9,[(12288,az.mk true true 1 (nl A) fun j=>if(j==c7)=true then int .u32 (u32.wrap (u64.wrap (c12-c3)))else aA o j)]))) (ag.aj c6 (ag.leaf aq.normal (c10,[(12288,az.mk true true 1 (nl A) fun j=>if(j==c7)=true then int .u32 (u32.wrap (u64.wrap (c2-c3)))else aA o j)])))))) (ag.aj [c11] (ag.fork (decide (c2<c13)) (ag.aj c6 (ag.leaf aq.normal (c9,[(12288,az.mk true true 1 (nl A) fun j=>if(j==c7)=true then int .u32 (u32.wrap (u64.wrap (c12-c13)))else aA o j)]))) (ag.aj c6 (ag.leaf aq.normal (c10,[(12288,az.mk true true 1 (nl A) fun j=>if(j==c7)=true then int .u32 (u32.wrap (u64.wrap (c2-c13)))else aA o j)])))))) (ag.leaf (aq.exit 0) ([mag A,mag B,c5,int .u64 c13,int .i64 c8],[(12288,az.mk true true 1 (nl A) fun a=>int .u32 (↑(o a):Int))]))):=ah
theorem TD {A B c i:Nat} {o:Nat->Nat}:cP T fu [] 60 f168 (behind (aF f168) [1,1,1,0,1]) ⟨aG nI (xD A B c i 12288),dz 12288 (nl A) o,12289⟩=
  some (ag.aj [eo (nl A) fun i=>aA o (i+0),nl A<2^40] (ag.leaf aq.ret [mag (val (nl A) fun i=>numOf (aA o (i+0)))])):=ah
abbrev lp:List Nat:=[0,1,5,6]
abbrev vu (A B i K:Nat):List AV:=[.mag A,.mag B,.own K 1 0 (nl A+nl B),.int .i64 i]
abbrev qY:List Nat:=[0,1,5,6,7,8]
abbrev Ap (A B i c j K:Nat):List AV:=[.mag A,.mag B,.own K 1 0 (nl A+nl B),.int .i64 i,.int .u64 c,.int .i64 j]
abbrev pW:Code:=part (aF f106) [1,1,0,1,0,0]
abbrev sN:Code:=part pW [1,0,0]
theorem RX {A B:Nat}:aL T fu [] 60 lp (before (aF f106) [1,1,0,1]) ⟨aS 0 [.mag A,.mag B],[],0⟩=
  let c1:Int:=i64.wrap ((↑(nl A):Int)+(↑(nl B):Int));some (ag.aj [(0:Int)<=c1/\c1<=c1/\c1<=2^47/\c1*(↑(4:Nat):Int)<=2^47] (ag.leaf aq.normal ([mag A,mag B,own 24576 1 0 c1.toNat,int .i64 (0:Int)],[(24576,az.mk true true 1 c1.toNat fun x=>int .u32 (0:Int))]))):=ah
theorem abC {A B i:Nat} {o:Nat->Nat}:aL T fu [18] 60 lp [part pW [0]] ⟨aG lp (vu A B i 24576),dz 24576 (nl A+nl B) o,24577⟩=
  let c1:List AV×aD:=([mag A,mag B,own 24576 1 0 (nl A+nl B),int .i64 (↑i:Int)],[(24576,az.mk true true 1 (nl A+nl B) fun a=>int .u32 (↑(o a):Int))]);some (ag.fork (decide ((↑i:Int)<(↑(nl A):Int))) (ag.leaf aq.normal c1) (ag.leaf (aq.exit 0) c1)):=ah
theorem aeN {A B i:Nat} {o:Nat->Nat}:aL T fu [] 60 qY (before sN [1,0,1]) ⟨aG lp (vu A B i 24576),dz 24576 (nl A+nl B) o,24577⟩=
  some (ag.leaf aq.normal ([mag A,mag B,own 24576 1 0 (nl A+nl B),int .i64 (↑i:Int),int .u64 (0:Int),int .i64 (0:Int)],[(24576,az.mk true true 1 (nl A+nl B) fun a=>int .u32 (↑(o a):Int))])):=ah
theorem aaU {A B i c j:Nat} {o:Nat->Nat}:aL T fu [24] 60 qY [part sN [1,0,1,0,0]] ⟨aG qY (Ap A B i c j 24576),dz 24576 (nl A+nl B) o,24577⟩=
  let c7:Int:=(↑i:Int);let c5:Int:=(↑j:Int);let c4:Nat:=nl A+nl B;let c6:AV:=own 24576 1 0 c4;let c1:Int:=i64.wrap (c7+c5);let c3:Nat:=c1.toNat+0;let c8:List Prop:=[(0:Int)<=c1/\c1.toNat<c4,c3<c4];let c2:Int:=u64.wrap ((↑c:Int)+u64.wrap (u64.wrap (u64.wrap (↑(aB A c7.toNat):Int)*u64.wrap (↑(aB B c5.toNat):Int))+u64.wrap (↑(o c3):Int)));some (ag.fork (decide (c5<(↑(nl B):Int))) (ag.aj (((0:Int)<=c7/\c7.toNat<nl A)::((0:Int)<=c5/\c5.toNat<nl B)::c8) (ag.aj c8 (ag.aj [(0:Int)<=32] (ag.leaf aq.normal ([mag A,mag B,c6,int .i64 c7,int .u64 (c2.fdiv ((2:Int)^min (Int.toNat (32:Int)) u64.bits)),int .i64 (i64.wrap (c5+1))],[(24576,az.mk true true 1 c4 fun j=>if(j==c3)=true then int .u32 (u32.wrap c2)else aA o j)]))))) (ag.leaf (aq.exit 2) ([mag A,mag B,c6,int .i64 c7,int .u64 (↑c:Int),int .i64 c5],[(24576,az.mk true true 1 c4 fun a=>int .u32 (↑(o a):Int))]))):=ah
theorem Vn {A B i c j:Nat} {o:Nat->Nat}:aL T fu [] 60 lp (behind sN [1,0,1]) ⟨aG qY (Ap A B i c j 24576),dz 24576 (nl A+nl B) o,24577⟩=
  let c3:Nat:=nl A+nl B;let c1:Int:=i64.wrap ((↑i:Int)+(↑(nl B):Int));let c2:Nat:=c1.toNat+0;some (ag.aj [(0:Int)<=c1/\c1.toNat<c3,c2<c3] (ag.leaf aq.normal ([mag A,mag B,own 24576 1 0 c3,int .i64 (↑i:Int)],[(24576,az.mk true true 1 c3 fun j=>if(j==c2)=true then int .u32 (u32.wrap (↑c:Int))else aA o j)]))):=ah
theorem Wt {A B i:Nat} {o:Nat->Nat}:aL T fu [] 60 lp [part pW [1,1]] ⟨aG lp (vu A B i 24576),dz 24576 (nl A+nl B) o,24577⟩=
  some (ag.leaf aq.normal ([mag A,mag B,own 24576 1 0 (nl A+nl B),int .i64 (i64.wrap ((↑i:Int)+1))],[(24576,az.mk true true 1 (nl A+nl B) fun a=>int .u32 (↑(o a):Int))])):=ah
theorem Rk {A B i:Nat} {o:Nat->Nat}:cP T fu [] 60 f106 (behind (aF f106) [1,1,0,1]) ⟨aG lp (vu A B i 24576),dz 24576 (nl A+nl B) o,24577⟩=
  some (ag.aj [eo (nl A+nl B) fun i=>aA o (i+0),nl A+nl B<2^40] (ag.leaf aq.ret [mag (val (nl A+nl B) fun i=>numOf (aA o (i+0)))])):=ah
abbrev qu:List Nat:=[0,1,6,7,8]
abbrev BP (A b r k K:Nat):List AV:=[.mag A,.int .u32 b,.own K 1 0 (nl A),.int .u64 r,.int .i64 ((k:Int)-1)]
abbrev Ho:Code:=part (aF f122) [1,1,1,0,1,0,0]
theorem O8 {A b:Nat}:aL T fu [] 60 qu (before (aF f122) [1,1,1,0,1]) ⟨aS 0 [.mag A,.int .u32 b],[],0⟩=
  let c1:Int:=(↑(nl A):Int);some (ag.aj [(0:Int)<=c1/\c1<=c1/\c1<=2^47/\c1*(↑(4:Nat):Int)<=2^47] (ag.leaf aq.normal ([mag A,int .u32 (↑b:Int),own 16384 1 0 c1.toNat,int .u64 (0:Int),int .i64 (i64.wrap (c1-1))],[(16384,az.mk true true 1 c1.toNat fun x=>int .u32 (0:Int))]))):=ah
theorem adX {A b r k:Nat} {o:Nat->Nat}:aL T fu [16] 60 qu [Ho] ⟨aG qu (BP A b r k 16384),dz 16384 (nl A) o,16385⟩=
  let c7:AV:=int .u32 (↑b:Int);let c4:AV:=own 16384 1 0 (nl A);let c3:Int:=u64.wrap (↑b:Int);let c2:Int:=(↑k:Int)-1;let c6:Prop:=(0:Int)<=c2/\c2.toNat<nl A;let c5:Nat:=c2.toNat+0;let c1:Int:=u64.wrap (↑(BitVec.ofInt u64.bits (u64.wrap ((↑r:Int)*2^min (Int.toNat (32:Int)) u64.bits))|||BitVec.ofInt u64.bits (u64.wrap (↑(aB A c2.toNat):Int))).toNat:Int);some (ag.fork (decide (c2>=0)) (ag.aj [(0:Int)<=32,c6] (ag.aj [c3≠(0:Int),c6,c5<nl A] (ag.aj [c3≠(0:Int)] (ag.leaf aq.normal ([mag A,c7,c4,int .u64 (c1.tmod c3),int .i64 (i64.wrap (c2-1))],[(16384,az.mk true true 1 (nl A) fun j=>if(j==c5)=true then int .u32 (u32.wrap (u64.wrap (c1.tdiv c3)))else aA o j)]))))) (ag.leaf (aq.exit 0) ([mag A,c7,c4,int .u64 (↑r:Int),int .i64 c2],[(16384,az.mk true true 1 (nl A) fun a=>int .u32 (↑(o a):Int))]))):=ah
theorem aeY {A b r k:Nat} {o:Nat->Nat}:cP T fu [] 60 f122 (behind (aF f122) [1,1,1,0,1]) ⟨aG qu (BP A b r k 16384),dz 16384 (nl A) o,16385⟩=
  some (ag.aj [eo (nl A) fun i=>aA o (i+0),nl A<2^40] (ag.leaf aq.ret [mag (val (nl A) fun i=>numOf (aA o (i+0))),int .u32 (u32.wrap (↑r:Int))])):=ah
def HE:aV:=[(100,xm),(168,nE (fun A B=>.mag (A-B)) fun A B=>[B<=A,nl A<2^40])]
theorem Xy {A B:Nat}:bF T HE [9] 60 f126 (aF f126) ⟨aS 0 [.mag A,.mag B],[],0⟩=
  let c1:Nat:=2^40;some (ag.aj [nl A<c1,nl B<c1] (ag.fork (decide (cY A B<0)) (ag.leaf aq.ret [nil,int .i64 (7:Int)]) (ag.aj [B<=A,nl A<c1] (ag.leaf aq.ret [mag (A-B),int .i64 (0:Int)])))):=ah
theorem ij {K n nx:Nat} {o:Nat->Nat} (h:K<nx):iP nx (dz K n o):=⟨⟨h,fun _ _=>rfl⟩,trivial⟩
theorem Qc {vo va vb ai x c b' un u' B:Nat} (hx:x=c+b') (hu:un+x=ai+4294967296*u') (h:va+c*B=vo+vb):va+ai*B+u'*(4294967296*B)=vo+un*B+(vb+b'*B):=by
 have e:(un+x)*B=(ai+4294967296*u')*B:=by rw[hu]
 subst hx
 grind
theorem GW {A B:Nat} (hAB:B<=A) (hA:nl A<2^40) (K:Nat):aN P 168 K [.mag A,.mag B] [] (aH (.mag (A-B)) []):=by
 have hB:nl B<=nl A:=iC hAB
 refine jq hT ac9 rfl aW rfl (fun _ c0 h0=>?_) K []
 refine ay.hole [1,1,1,0,1] ah (aI.bH hT fy hm 60 nI Zp ah ?_)
 simp only[ag.all,au,br]
 refine⟨aa,fun s' hv=>cL ?_⟩
 refine ay.iF (i:=0) (y:=HR) ah nI 12289 (h0 _) (fun p:Nat×Nat×(Nat->Nat)=>xD A B p.2.1 p.1 12288) (fun p=>dz 12288 (nl A) p.2.2) (fun _=>rfl) (fun _=>ij aa)
  (fun p=>p.1<=nl A/\p.2.1<=1/\(∀j,j<nl A->p.2.2 j<2^32)/\val p.1 (aB A)+p.2.1*2^(32*p.1)=val p.1 p.2.2+val p.1 (aB B))
  (fun p=>nl A-p.1) (0,0,fun _=>0) hv ⟨by simp,by simp,fun _ _=>by simp,by simp[val]⟩ ?_
 rintro⟨i,c,o⟩ ⟨hi,hc,ho,hval⟩
 simp only at hi hc ho hval
 refine ay.bH hT fy hm 60 nI aeb ah ?_
 have la:=dS (N:=A) (i:=i)
 have lb:=dS (N:=B) (i:=i)
 have wa:u64.wrap (aB A i:Int)=((aB A i:Nat):Int):=cw aa aa
 have wb:u64.wrap (aB B i:Int)=((aB B i:Nat):Int):=cw aa aa
 have w1:u64.wrap ((c:Int)+((aB B i:Nat):Int))=((c+aB B i:Nat):Int):=by rw[cw aa aa];omega
 have w2:u64.wrap (((aB A i:Nat):Int)+4294967296)=((aB A i+4294967296:Nat):Int):=by rw[cw aa aa];omega
 have w3:i64.wrap ((i:Int)+1)=((i+1:Nat):Int):=by rw[wrap_i64 aa aa];omega
 simp only[ag.all,au,bz,bG,br,Nat.add_zero,beq_iff_eq]
 rw[wa,wb,w1,w2,w3]
 -- what is put down
 have next:∀{s':aK} {x u':Nat} {v:Int},i<nl A->x=c+aB B i->u'<=1->x<=aB A i+4294967296*u'->aB A i+4294967296*u'<x+4294967296->v=((aB A i+4294967296*u'-x:Nat):Int)->
   bB nI s'=some (xD A B u' (i+1) 12288,[(12288,⟨true,true,1,nl A,fun j=>if j=i then .int .u32 (u32.wrap (u64.wrap v))else aA o j⟩)])->
   ∃k:Nat×Nat×(Nat->Nat),bB nI s'=some (xD A B k.2.1 k.1 12288,dz 12288 (nl A) k.2.2)/\(k.1<=nl A/\k.2.1<=1/\(∀j,j<nl A->k.2.2 j<2^32)/\val k.1 (aB A)+k.2.1*2^(32*k.1)=val k.1 k.2.2+val k.1 (aB B))/\nl A-k.1<nl A-i:=by
  intro s' x u' v hin hx hu1 h1 h2 hv1 hv
  refine⟨(i+1,u',cE o i (aB A i+4294967296*u'-x)),ee hv rfl ?_,⟨by simp only;omega,hu1,iS aa ho,?_⟩,by simp only;omega⟩
  ·simp only[dz]
   congr 3
   funext k
   exact hU (by rw[hv1,cw aa aa,wrap_u32 aa aa]) k
  ·simp only
   rw[rN,val,val,iB]
   exact Qc (b':=aB B i) (x:=x) hx aa hval
 refine⟨fun hb=>⟨fun hb2=>⟨aa,aa,fun h3=>⟨⟨aa,aa⟩,fun s' hv=>?_⟩,fun h3=>⟨⟨aa,aa⟩,fun s' hv=>?_⟩⟩,fun hb2=>⟨aa,fun h3=>⟨⟨aa,aa⟩,fun s' hv=>?_⟩,fun h3=>⟨⟨aa,aa⟩,fun s' hv=>?_⟩⟩⟩,fun hb s' hv=>fK (cL ?_)⟩
 ·exact next (u':=1) aa rfl aa aa aa aa hv
 ·exact next (u':=0) aa rfl aa aa aa aa hv
 ·exact next (u':=1) (x:=c) aa (by rw[jD (A:=B) aa];rfl) aa aa aa aa hv
 ·exact next (u':=0) (x:=c) aa (by rw[jD (A:=B) aa];rfl) aa aa aa aa hv
 ·have hin:i=nl A:=aa
  refine aI.kA hT fy hm 60 hv (h0 _) rfl (ij aa) TD ah ah ?_
  simp only[ag.all,au,Nat.add_zero,jO]
  refine⟨⟨gD ho,hA⟩,dX (congrArg AV.mag ?_)⟩
  rw[hin,gq,pU (dL.1 hB)]at hval
  have hlt:=ga ho
  have:c=0:=by
   rcases Nat.eq_zero_or_pos c with h|h
   ·exact h
   ·exfalso
    have h1:1*2^(32*nl A)<=c*2^(32*nl A):=Nat.mul_le_mul_right _ h
    omega
  rw[this]at hval
  omega
theorem Ri:bg P HE:=aE Ae (aE (pq fun h=>GW h.1 h.2) bD)
theorem O7 {A B:Nat} (hA:nl A<2^40) (hB:nl B<2^40) (K:Nat):aN P 126 K [.mag A,.mag B] [] (aH (.tuple [.mag (A-B),.int .i64 (if A<B then 7 else 0)]) []):=by
 refine bM hT Ri hm agB rfl aW rfl 60 Xy (fun _=>?_) K []
 simp only[ag.all,au,bz,bG,x6]
 refine⟨⟨hA,hB⟩,fun h=>⟨?_,bW (by rw[if_pos h]),trivial⟩,fun h=>⟨⟨aa,hA⟩,.refl _,bW (by rw[if_neg h]),trivial⟩⟩
 rw[Nat.sub_eq_zero_of_le aa];exact kO
def Jt:Spec:=nE (fun A B=>.tuple [.mag (A-B),.int .i64 (if A<B then 7 else 0)]) Cl
theorem Rw:bf P Jt 126:=pq fun h=>O7 h.1 h.2
theorem VE {A B:Nat} (hA:nl A<2^39) (hB:nl B<2^39) (K:Nat):aN P 106 K [.mag A,.mag B] [] (aH (.mag (A*B)) []):=by
 refine jq hT ad6 rfl aW rfl (fun _ c0 h0=>?_) K []
 refine ay.hole [1,1,0,1] ah (aI.bH hT fy hm 60 lp RX ah ?_)
 have hw:i64.wrap ((nl A:Int)+(nl B:Int))=((nl A+nl B:Nat):Int):=fe aa aa
 rw[hw]
 simp only[ag.all,au,br]
 refine⟨aa,fun s' hv=>cL ?_⟩
 refine ay.iF (i:=0) (y:=pW) ah lp 24577 (h0 _) (fun p:Nat×(Nat->Nat)=>vu A B p.1 24576) (fun p=>dz 24576 (nl A+nl B) p.2) (fun _=>rfl) (fun _=>ij aa)
  (fun p=>p.1<=nl A/\(∀j,j<nl A+nl B->p.2 j<2^32)/\(∀j,p.1+nl B<=j->p.2 j=0)/\val (nl A+nl B) p.2=val p.1 (aB A)*B)
  (fun p=>nl A-p.1) (0,fun _=>0) hv ⟨by simp,fun _ _=>by simp,fun _ _=>rfl,?_⟩ ?_
 ·simp only
  rw[val_zero fun _ _=>rfl]
  simp[val]
 rintro⟨i,o⟩ ⟨hi,ho,ho0,hval⟩
 simp only at hi ho ho0 hval
 refine ay.hole [0] ah (show ay P c0 f106.ntmps (part pW [0]) _ _ from ay.bH hT fy hm 60 lp abC ah ?_)
 simp only[ag.all,bz,bG]
 refine⟨fun h1 s' hv=>cL ?_,fun h1 s' hv=>qq (fK (cL ?_))⟩
 ·have hin:i<nl A:=aa
  have la:=dS (N:=A) (i:=i)
  show aI P c0 f106.ntmps [part pW [1]] s' _
  refine ay.hole [0] ah ?_
  show ay P c0 f106.ntmps (part pW [1,0]) s' _
  refine ay.o9 (i:=1) (y:=sN) ah (ay.j3 hv (h0 24577) rfl (ij aa) ?_)
  refine ay.hole [1,0,1] ah (aI.bH hT fy hm 60 qY aeN ah fun s' hv=>cL ?_)
  refine ay.iF (i:=2) (y:=part sN [1,0,1,0,0]) ah qY 24577 (h0 _) (fun p:Nat×Nat×(Nat->Nat)=>Ap A B i p.2.1 p.1 24576) (fun p=>dz 24576 (nl A+nl B) p.2.2) (fun _=>rfl) (fun _=>ij aa)
   (fun p=>p.1<=nl B/\p.2.1<2^32/\(∀j,j<nl A+nl B->p.2.2 j<2^32)/\(∀j,i+nl B<=j->p.2.2 j=0)/\val (nl A+nl B) p.2.2+p.2.1*2^(32*(i+p.1))=val i (aB A)*B+aB A i*val p.1 (aB B)*2^(32*i))
   (fun p=>nl B-p.1) (0,0,o) hv ⟨by simp,by simp,ho,ho0,by simp[val,hval]⟩ ?_
  rintro⟨j,c,o⟩ ⟨hj,hc,ho,ho0,hval⟩
  simp only at hj hc ho ho0 hval
  refine ay.bH hT fy hm 60 qY aaU ah ?_
  have hij:i64.wrap ((i:Int)+(j:Int))=((i+j:Nat):Int):=fe aa aa
  have lb:=dS (N:=B) (i:=j)
  simp only[ag.all,au,bz,bG,hij,br,Nat.add_zero,beq_iff_eq]
  refine⟨fun h2=>?_,fun h2 s' hv=>fK ?_⟩
  ·have hjm:j<nl B:=aa
   obtain⟨m1,m2,m3⟩:=Lz hc la lb (ho (i+j) aa)
   rw[m1]
   refine⟨⟨aa,aa,aa,aa⟩,⟨aa,aa⟩,aa,fun s' hv=>⟨(j+1,(c+aB A i*aB B j+o (i+j))/4294967296,cE o (i+j) ((c+aB A i*aB B j+o (i+j))%4294967296)),ee hv ?_ ?_,⟨by simp only;omega,m3,iS aa ho,fun k hk=>?_,?_⟩,by simp only;omega⟩⟩
   ·rw[lW,fe (a:=(j:Int)+1) (n:=j+1) aa aa]
    simp only[Ap,List.cons.injEq,AV.int.injEq,and_true,true_and]
    omega
   ·simp only[dz]
    congr 3
    funext k
    exact hU (by rw[jP]) k
   ·exact(fS aa).trans (ho0 k hk)
   ·simp only
    rw[show 32*(i+(j+1))=32*((i+j)+1) by omega,iB,val]
    have hset:=EM (o:=o) (x:=(c+aB A i*aB B j+o (i+j))%4294967296) (show i+j<nl A+nl B by omega)
    exact JY rfl (Nat.div_add_mod _ _) hset (by rw[<-Nat.pow_add];congr 1;omega) hval
  ·show aI P c0 f106.ntmps (behind sN [1,0,1]) s' _
   have hjm:j=nl B:=aa
   have hib:i64.wrap ((i:Int)+(nl B:Int))=((i+nl B:Nat):Int):=fe aa aa
   refine aI.fE hT fy hm 60 hv (h0 24577) rfl (ij aa) lp Vn ah ah ?_
   rw[hib]
   simp only[ag.all,au,br,Nat.add_zero,beq_iff_eq]
   refine⟨⟨aa,aa⟩,fun s' hv=>?_⟩
   have hf:(fun k=>if k=i+nl B then AV.int .u32 (u32.wrap (c:Int))else aA o k)=aA (cE o (i+nl B) c):=by
    funext k
    exact hU (wrap_u32 aa aa) k
   rw[hf]at hv
   show aI P c0 f106.ntmps [part pW [1,1]] s' _
   refine aI.fE hT fy hm 60 hv (h0 24577) rfl (ij aa) lp Wt ah ah fun s' hv=>cL ?_
   refine⟨(i+1,cE o (i+nl B) c),ee hv ?_ rfl,⟨by simp only;omega,iS hc ho,fun k hk=>(fS (by simp only at hk;omega)).trans (ho0 k (by simp only at hk;omega)),?_⟩,by simp only;omega⟩
   ·rw[fe (a:=(i:Int)+1) (n:=i+1) aa aa]
   ·simp only
    rw[hjm,gq]at hval
    rw[qc aa (ho0 _ aa),hval,val,Nat.add_mul,Nat.mul_assoc,Nat.mul_assoc,Nat.mul_comm B]
 ·have hin:i=nl A:=aa
  refine aI.kA hT fy hm 60 hv (h0 _) rfl (ij aa) Rk ah ah ?_
  simp only[ag.all,au,Nat.add_zero,jO]
  refine⟨⟨gD ho,aa⟩,dX (congrArg AV.mag ?_)⟩
  rw[hval,hin,gq]
def D7:Spec:=nE (fun A B=>.mag (A*B)) fun A B=>[nl A<2^39,nl B<2^39]
theorem OD:bf P D7 106:=pq fun h=>VE h.1 h.2
theorem Ga {v b r A:Nat} (h:v*b+r=A) (hr:r<b):A/b=v/\A%b=r:=by
 subst h
 refine⟨?_,?_⟩
 ·rw[Nat.mul_comm,Nat.mul_add_div aa,Nat.div_eq_of_lt hr,Nat.add_zero]
 ·rw[Nat.mul_comm,Nat.mul_add_mod,Nat.mod_eq_of_lt hr]
theorem Tf {A b:Nat} (hA:nl A<2^40) (hb0:0<b) (hb32:b<2^32) (K:Nat):aN P 122 K [.mag A,.int .u32 b] [] (aH (.tuple [.mag (A/b),.int .u32 (A%b:Nat)]) []):=by
 refine jq hT Qv rfl aW rfl (fun _ c0 h0=>?_) K []
 refine ay.hole [1,1,1,0,1] ah (aI.bH hT fy hm 60 qu O8 ah ?_)
 simp only[ag.all,au,br]
 refine⟨aa,fun s' hv=>cL ?_⟩
 refine ay.iF (i:=0) (y:=Ho) ah qu 16385 (h0 _) (fun p:Nat×Nat×(Nat->Nat)=>BP A b p.2.1 p.1 16384) (fun p=>dz 16384 (nl A) p.2.2) (fun _=>rfl) (fun _=>ij aa)
  (fun p=>p.1<=nl A/\p.2.1<b/\(∀j,j<nl A->p.2.2 j<2^32)/\(∀j,j<p.1->p.2.2 j=0)/\val (nl A) p.2.2*b+p.2.1*2^(32*p.1)+val p.1 (aB A)=A)
  (fun p=>p.1) (nl A,0,fun _=>0) (ee hv (by rw[wrap_i64 aa aa];rfl) rfl) ⟨by simp,hb0,fun j _=>by simp,fun j _=>rfl,?_⟩ ?_
 ·simp only
  rw[val_zero fun _ _=>rfl,gq]
  simp
 rintro⟨k,r,o⟩ ⟨hk,hr,ho,ho0,hval⟩
 simp only at hk hr ho ho0 hval
 refine ay.bH hT fy hm 60 qu adX ah ?_
 simp only[ag.all,au,bz,bG,Nat.add_zero,beq_iff_eq]
 have hbw:u64.wrap (b:Int)=(b:Int):=cw aa aa
 refine⟨fun hb=>?_,fun hb s' hv=>fK (cL ?_)⟩
 ·obtain⟨j,rfl⟩:∃j,k=j+1:=⟨k-1,aa⟩
  have e:(((j+1:Nat):Int)-1).toNat=j:=aa
  have hzj:=dS (N:=A) (i:=j)
  have hor:=sL (a:=r) (b:=aB A j) aa hzj
  rw[e,hor,hbw]
  have hq1:(r*4294967296+aB A j)/b<2^32:=by
   rw[Nat.div_lt_iff_lt_mul hb0]
   have:(r+1)*4294967296<=b*4294967296:=Nat.mul_le_mul_right _ hr
   omega
  have hdm:=Nat.div_add_mod (r*4294967296+aB A j) b
  refine⟨⟨aa,aa,aa⟩,⟨aa,⟨aa,aa⟩,aa⟩,aa,fun s' hv=>⟨(j,(r*4294967296+aB A j)%b,cE o j ((r*4294967296+aB A j)/b)),ee hv ?_ ?_,⟨by simp only;omega,Nat.mod_lt _ hb0,iS hq1 ho,fun i hi=>?_,?_⟩,by simp only;omega⟩⟩
  ·rw[<-Int.ofNat_tmod,wrap_i64 aa aa,show((j+1:Nat):Int)-1-1=(j:Int)-1 by omega]
  ·simp only[dz]
   congr 3
   funext i
   refine hU ?_ i
   rw[<-Int.ofNat_tdiv]
   clear hdm
   generalize (r*4294967296+aB A j)/b=q at hq1 ⊢
   rw[cw aa aa,wrap_u32 aa aa]
  ·exact(fS (by simp only at hi;omega)).trans (ho0 i (by simp only at hi;omega))
  ·simp only
   rw[qc aa (ho0 j aa)]
   rw[iB,val]at hval
   exact Fl hval hdm.symm
 ·have hk0:k=0:=aa
  have hv2:val (nl A) o*b+r=A:=by rw[hk0]at hval;simpa [val]using hval
  refine aI.kA hT fy hm 60 hv (h0 _) rfl (ij aa) aeY ah ah ?_
  simp only[ag.all,au,Nat.add_zero,jO]
  obtain⟨hdiv,hmod⟩:=Ga hv2 hr
  exact⟨⟨gD ho,hA⟩,dX (congrArg AV.mag hdiv.symm),bW (by rw[hmod,wrap_u32 aa aa]),trivial⟩
def DR:Spec:=bX fun l=>match l with
 |[a,.int .u32 b]=>match jr a with
  |some A=>some (aH (.tuple [.mag (A/b.toNat),.int .u32 (A%b.toNat:Nat)]) [nl A<2^40,0<b,b<2^32])
  |none=>none
 |_=>none
theorem J6:bf P DR 122:=by
 refine cM fun K args r hk hs _=>?_
 split at hs
 ·rename_i a b
  split at hs
  ·rename_i A hA
   simp only[ax]at hs
   subst hs
   intro need
   obtain⟨h1,h2,h3⟩:nl A<2^40/\0<b/\b<2^32:=need
   obtain⟨b,rfl⟩:=Int.eq_ofNat_of_zero_le (Int.le_of_lt h2)
   exact eR (Tf h1 aa aa K) hk ⟨lJ hA,.refl _,trivial⟩ [] trivial
  ·simp at hs
 ·simp at hs
end Go.Am.B
